/- SplitCan: part 5 of 6 of this claim's texts, one behind the other, made small by a program: the words of the kit's printer cut down to those that are used, the claim's own names made short. -/
import Derived.Test.YtfdmfgaiblfbhaaMSplitCand
import Derived.Shelf.Spec.SlicesInsert
import Derived.Test.YtfdmfgaiblfbhaaMSplitCanc
import Derived.ProofKit
import Derived.Deep.Slices
import Derived.Lib.SmallJoins
import Derived.OpenShut
set_option maxHeartbeats 8000000
set_option maxRecDepth 100000
set_option linter.unusedVariables false
set_option linter.unusedSimpArgs false
namespace Go.Proofs.Ytfdmfgaiblfbhaa.P
open Go.RowKit Go.Proofs.ag.aA Go.Proofs.ag.a_ Go.Proofs.ag.bG
theorem WI {w W : World} {P : Nat → Prop} {bs : List (Option Nat × Obj)} {ts : List (Value × List ai)} {ro : List (Addr × Value)} {gr cap i c : Nat} {a : Addr} {l L : List ai} (hi : i + 1 = l.length) (hl : l.length ≤ 1000000) (hc : l.length ≤ cap) (hL : L.length = 2)
  (S0 : St w P bs [(.slice (some ⟨gr, 0, none⟩) l.length cap, l)] ts ro W) (hm0 : (.slice (some a) 2 c, L) ∈ ts) :
  Calls Try.prog 189 #[.slice (some ⟨gr, 0, none⟩) l.length cap, .int .i64 i, .int .i64 ((i + 1 : Nat) : Int), .slice (some a) 2 c] W fun e w' => ∃ A c', e = .returned (.slice A (l.length + 1) c') ∧ St w P bs [(.slice A (l.length + 1) c', l.take i ++ L ++ l.drop (i + 1))] ts ro w' := by
 have hN := S0.AP
 have S1 := S0.He (v1 := .slice (some ⟨gr, 0, none⟩) i cap) (ys := l.take i) S0.below ⟨rfl, rfl, rfl, Nat.le_refl _, fun _ _ _ => rfl⟩ (.inl rfl) (Kd.aa3 hN (by omega))
 have S := ae.mk S1
 clear S1 hN
 have HM := ae.mk hm0
 have HTL := ae.mk (show (l.take i).length = i by rw [List.length_take]; omega)
 have RU := ae.mk (show (l.take i ++ L).length = l.length + 1 by rw [List.length_append, List.length_take, hL]; omega)
 have HDR := ae.mk (show l.drop (i + 1) = [] by rw [hi]; exact List.drop_length)
 clear S0 hm0
 have b1 : (0 : Int) ≤ (i : Int) := by omega
 have b2 : ¬ ((i : Int) = (i : Int) + 1) := by omega
 have b3 : ((i : Int) + 1 = (l.length : Int)) := by omega
 have b4 : (i : Int) ≤ (cap : Int) := by omega
 have b5 : (i : Int) + 1 ≤ (cap : Int) := by omega
 have b6 : (i : Int) ≤ (i : Int) + 1 := by omega
 go_enter Try.func189, Try.ntmps189
 have b7 : ((i : Int) == (l.length : Int)) = false := beq_eq_false_iff_ne.mpr (by omega)
 have b8 : ¬ ((l.length : Int) + 1 < (l.length : Int)) := by omega
 go_wp2_with (first | ((with_reducible refine ay (N := 34) rfl ?_); at_builtin; refine Ia 24 (.tmp 32) (.tmp 33) rfl rfl Try.underlying24 info26 S.out HM.out rfl rfl (by have := HTL.out; omega) ?_; intro A1 c1 w1 S1; rw [RU.out] at S1 ⊢; replace S := ae.mk S1; clear S1))
 go_ret
 exact ⟨_, _, rfl, S.out⟩
theorem UQ {w W : World} {P : Nat → Prop} {bs : List (Option Nat × Obj)} {ts : List (Value × List ai)} {ro : List (Addr × Value)} {gr ga cap i q c : Nat} {ca : Array Value} {l L : List ai} (hq : 0 < q) (hl : i + 1 + q ≤ 1000000) (hc : i + 2 + q ≤ cap) (hc63 : cap ≤ 9223372036854775807) (hL : L.length = 2)
  (S0 : St w P bs [(.slice (some ⟨gr, 0, none⟩) (i + 1 + q) cap, l)] ts ro W) (hm0 : (.slice (some ⟨ga, 0, none⟩) 2 c, L) ∈ ts) (hga : W.heap[ga]? = some (.cells ca 26 (0, 0))) (hne : gr ≠ ga) (hca : ca.size ≠ 0) :
  Calls Try.prog 189 #[.slice (some ⟨gr, 0, none⟩) (i + 1 + q) cap, .int .i64 i, .int .i64 ((i + 1 : Nat) : Int), .slice (some ⟨ga, 0, none⟩) 2 c] W fun e w' => ∃ A c', e = .returned (.slice A (i + 2 + q) c') ∧ St w P bs [(.slice A (i + 2 + q) c', l.take i ++ L ++ l.drop (i + 1))] ts ro w' := by
 obtain ⟨cr, hgr⟩ := Kd.OO S0.AP gr rfl
 obtain ⟨inf, Ns, h1, h2, h3⟩ := info_parts info26
 obtain ⟨fB, je, hc1, hc2, hc3⟩ := (S0.call (W1 := W.drew.drew) (bC (bC (Below.refl _ _)))).room (i := i) (j := i + 1) inf Try.underlying24 Ns h2 hm0 (by omega) (by omega) (by omega)
 rw [show i + 1 + q - (i + 1) = q by omega] at hc1 hc3
 have hov : ∀ (V : World) o lb cb, V.heap = W.heap → (callFunc 202 #[.slice (some ⟨gr, o, none⟩) lb cb, .slice (some ⟨ga, 0, none⟩) 2 c]).run Try.prog V = .ok (.value (.bool false)) V := fun V o lb cb hV => aeJ (by rw [hV]; exact hga) (by rw [hV]; exact hgr) hne hca
 have HOV := ae.mk hov
 have lQ := ae.mk hc1
 have HC2 := ae.mk hc2
 have KL := ae.mk hc3
 clear hc1 hc2 hc3 hov S0 hm0 hga hgr h1 h2 h3 Ns
 have b1 : (0 : Int) ≤ (i : Int) := by omega
 have b2 : ((i : Int) == (i : Int) + 1) = false := beq_eq_false_iff_ne.mpr (by omega)
 have b3 : (((i : Int) + 1) == (i : Int) + 1 + (q : Int)) = false := beq_eq_false_iff_ne.mpr (by omega)
 have b4 : (i : Int) ≤ (cap : Int) := by omega
 have b5 : (i : Int) + 1 ≤ (cap : Int) := by omega
 have b6 : (i : Int) ≤ (i : Int) + 1 := by omega
 have b7 : (i : Int) + 1 ≤ (i : Int) + 1 + (q : Int) := by omega
 have b8 : (0 : Int) ≤ (i : Int) + 1 := by omega
 have b9 : ¬ (cap = i + 1) := by omega
 have b10 : ¬ (cap = i) := by omega
 have b11 : ¬ (cap = i + 2) := by omega
 have w1 : IntKind.i64.wrap ((i : Int) + 2) = (i : Int) + 2 := by rw [IntKind.wrap_i64]; omega
 have w2 : IntKind.i64.wrap ((i : Int) + 2 + (q : Int)) = (i : Int) + 2 + (q : Int) := by rw [IntKind.wrap_i64]; omega
 have b12 : (0 : Int) ≤ (i : Int) + 2 + (q : Int) := by omega
 have b13 : (i : Int) + 2 + (q : Int) ≤ (cap : Int) := by omega
 have b14 : ¬ ((cap : Int) < (i : Int) + 2 + (q : Int)) := by omega
 have b15 : ¬ ((i : Int) + 2 ≤ (i : Int) + 1) := by omega
 have b16 : (0 : Int) ≤ (i : Int) + 2 := by omega
 have b17 : (i : Int) + 2 ≤ (i : Int) + 2 + (q : Int) := by omega
 have b18 : (i : Int) ≤ (i : Int) + 2 + (q : Int) := by omega
 have t1 : ((i : Int) + 2 + (q : Int)).toNat = i + 2 + q := by omega
 have t2 : ((i : Int) + 2).toNat = i + 2 := by omega
 have mixed : Try.prog.follows Departure.mixedOrders = true := by kernel_rfl
 go_enter Try.func189, Try.ntmps189
 go_wp2
 go_region_law_o fail
 all_goals
  have hov := fun o lb cb => HOV.out W.drew o lb cb rfl
  go_wp2
  have hc1 := lQ.out
  go_region_law_o (refine Go.Proofs.step_copy_runI rfl _ _ 24 24 rfl _ _ (by simp [Act.eval, Act.put]) (by simp [Act.eval, Act.put]) (hc1 _ _ _ _ (Nat.le_refl _)) ?_)
  clear hc1
  have hc2 := HC2.out 3 (i + 2 + q - i) (cap - i) c (W.drew.drew.setRow gr fB) rfl (by omega)
  go_wp2
  go_ret
  have h := KL.out (W.drew.drew.setRow gr fB) rfl rfl rfl rfl
  exact ⟨_, _, rfl, h⟩
theorem UO {w W : World} {P : Nat → Prop} {bs : List (Option Nat × Obj)} {ts : List (Value × List ai)} {ro : List (Addr × Value)} {gr cap i q c : Nat} {a : Addr} {l L : List ai} (hq : 0 < q) (hl : i + 1 + q ≤ 1000000) (hc : i + 1 + q ≤ cap) (hc2 : cap < i + 2 + q) (hL : L.length = 2)
  (S0 : St w P bs [(.slice (some ⟨gr, 0, none⟩) (i + 1 + q) cap, l)] ts ro W) (hm0 : (.slice (some a) 2 c, L) ∈ ts) :
  Calls Try.prog 189 #[.slice (some ⟨gr, 0, none⟩) (i + 1 + q) cap, .int .i64 i, .int .i64 ((i + 1 : Nat) : Int), .slice (some a) 2 c] W fun e w' => ∃ A c', e = .returned (.slice A (i + 2 + q) c') ∧ St w P bs [(.slice A (i + 2 + q) c', l.take i ++ L ++ l.drop (i + 1))] ts ro w' := by
 obtain ⟨inf, Ns, h1, h2, h3⟩ := info_parts info26
 obtain ⟨cap', jq, fB, je, hcp, hap, hc1, hc2', hc3⟩ := (S0.call (W1 := W.drew) (bC (Below.refl _ _))).grow (i := i) (j := i + 1) inf _ Try.underlying24 Try.underlying3 Ns h2 h1 rfl h3 hm0 (by omega) (by omega) (by omega) (by omega) (by omega)
 rw [show i + 1 + q - (i + 1) = q by omega] at hcp hap hc2' hc3
 rw [show W.drew.heap.size = W.heap.size from rfl] at hap hc1 hc2' hc3
 have W_ := ae.mk hap
 have lQ := ae.mk hc1
 have HC2 := ae.mk hc2'
 have KL := ae.mk hc3
 clear hap hc1 hc2' hc3 S0 hm0 h1 h2 h3 Ns
 have b1 : (0 : Int) ≤ (i : Int) := by omega
 have b2 : ((i : Int) == (i : Int) + 1) = false := beq_eq_false_iff_ne.mpr (by omega)
 have b3 : (((i : Int) + 1) == (i : Int) + 1 + (q : Int)) = false := beq_eq_false_iff_ne.mpr (by omega)
 have b4 : (i : Int) ≤ (cap : Int) := by omega
 have b5 : (i : Int) + 1 ≤ (cap : Int) := by omega
 have b6 : (i : Int) ≤ (i : Int) + 1 := by omega
 have b7 : (i : Int) + 1 ≤ (i : Int) + 1 + (q : Int) := by omega
 have b8 : (0 : Int) ≤ (i : Int) + 1 := by omega
 have b19 : ¬ (cap' = i) := by omega
 have b20 : ¬ (cap' = i + 2) := by omega
 have b9 : ¬ (cap = i + 1) := by omega
 have b10 : ¬ (cap = i) := by omega
 have w1 : IntKind.i64.wrap ((i : Int) + 2) = (i : Int) + 2 := by rw [IntKind.wrap_i64]; omega
 have w2 : IntKind.i64.wrap ((i : Int) + 2 + (q : Int)) = (i : Int) + 2 + (q : Int) := by rw [IntKind.wrap_i64]; omega
 have b12 : (0 : Int) ≤ (i : Int) + 2 + (q : Int) := by omega
 have b14 : (cap : Int) < (i : Int) + 2 + (q : Int) := by omega
 have b15 : ¬ ((i : Int) + 2 ≤ (i : Int) + 1) := by omega
 have b16 : (0 : Int) ≤ (i : Int) + 2 := by omega
 have b17 : (i : Int) + 2 ≤ (i : Int) + 2 + (q : Int) := by omega
 have b18 : (i : Int) ≤ (i : Int) + 2 + (q : Int) := by omega
 have t1 : ((i : Int) + 2 + (q : Int)).toNat = i + 2 + q := by omega
 have t2 : ((i : Int) + 2).toNat = i + 2 := by omega
 have mixed : Try.prog.follows Departure.mixedOrders = true := by kernel_rfl
 go_enter Try.func189, Try.ntmps189
 go_wp2
 go_region_law_o fail
 all_goals
  have w3 : IntKind.i64.wrap ((i : Int) + 2 + (q : Int) - (i : Int)) = ((2 + q : Nat) : Int) := by rw [IntKind.wrap_i64]; omega
  have hap := W_.out
  go_wp2_with (at_builtin; refine Go.Lib.wpList_append_run _ rfl _ _ 24 3 rfl _ _ rfl rfl _ _ (hap _ _) ?_)
  have hc1 := lQ.out 3 (i + 2 + q - i) (cap' - i) c (W.alloc (.cells jq 26)).drew.drew rfl (by omega)
  go_wp2
  rw [hc1]
  clear hc1
  go_wp2
  have hc2 := fun ty dLen dCap sCap => HC2.out ty dLen dCap sCap (((W.alloc (.cells jq 26)).drew.drew).setRow W.heap.size fB).drew rfl
  go_region_law_o (refine Go.Proofs.step_copy_runI rfl _ _ 24 24 rfl _ _ (by simp [Act.eval, Act.put]) (by simp [Act.eval, Act.put]) (hc2 _ _ _ _ (Nat.le_refl _)) ?_)
  go_wp2
  go_ret
  have h := KL.out (((W.alloc (.cells jq 26)).drew.drew).setRow W.heap.size fB).drew rfl rfl rfl rfl
  exact ⟨_, _, rfl, h⟩
end Go.Proofs.Ytfdmfgaiblfbhaa.P
namespace Go.Proofs.Ytfdmfgaiblfbhaa.Pure
open Go.RowKit Go.Proofs.Ytfdmfgaiblfbhaa.P Go.Proofs.ag.aA Go.Proofs.ag.a_ Go.Proofs.ag.bG
theorem tq : ∀ (a b : List ai), dH (a ++ b) = true → dH b = true := by
 intro a
 induction a with
 | nil => intro b h; exact h
 | cons x xs ih =>
  intro b h
  rw [List.cons_append] at h
  simp only [dH, Bool.and_eq_true] at h
  exact ih b h.2
theorem xg (a b : List ai) (h : dH (a ++ b) = true) : dH a = true := by
 cases ha : dH a with
 | true => rfl
 | false => rw [xe a b ha] at h; cases h
theorem ZC {c x : ai} (h : kD c = true) (hx : x ∈ c.f3) : kD x = true := by
 have hs := ou h
 have hok := sO h
 have h1 := Hq hx
 have h2 := dB c
 have hd : dH (jc c) = true := by
  unfold kD at h
  simp only [Bool.and_eq_true] at h
  exact h.2.2
 unfold kD
 rw [decide_eq_true (by omega), DL hok hx, Bool.true_and, Bool.true_and]
 obtain ⟨p, q, e⟩ := List.append_of_mem hx
 have e2 : dZ c = (c :: allL p) ++ (dZ x ++ allL q) := by rw [jY, e, oK, g_]; rfl
 unfold jc at hd ⊢
 rw [e2, List.filter_append, List.filter_append] at hd
 exact xg _ _ (tq _ _ hd)
theorem wU {c x : ai} (h : bW c = true) (hx : x ∈ c.f3) : bW x = true := by
 have hm := lS h
 unfold bW at h ⊢
 simp only [Bool.and_eq_true] at h
 rw [ZC hm hx, yP h.2 hx]
 rfl
theorem mO {ax : Int} (hax : ax = 1 ∨ ax = 2) {c : ai} (h : bW c = true) : ji ax c = aI ax c.f1 - fG ax c ∧ 0 ≤ aI ax c.f1 - fG ax c ∧ 1 ≤ fG ax c ∧ aI ax c.f1 ≤ 10000 := by
 have hm := lS h
 have hB : kS c = true := by
  unfold bW at h
  simp only [Bool.and_eq_true] at h
  exact h.2
 have f := QT hax (sz c) c (Nat.le_refl _) (ou hm) (sO hm)
 have g := f.2 hB
 have r := oG (uj (nU (sO hm))) hax
 unfold ji
 rw [if_pos ⟨hax, h⟩, wq (by omega) (by omega)]
 omega
end Go.Proofs.Ytfdmfgaiblfbhaa.Pure
namespace Go.Proofs.Ytfdmfgaiblfbhaa.P
open Go.RowKit Go.Proofs.ag.aA Go.Proofs.ag.a_ Go.Proofs.ag.bG
theorem JW {c : ai} (hk : c.f0 = 2 ∨ c.f0 = 3) : jk c = c.f3.map (fun k => aI (c.f0 - 1) k.f1) := by
 unfold jk
 apply List.map_congr_left
 intro k _
 unfold szK pU aI
 rcases hk with h | h
 ·rw [if_pos h, if_pos (by omega)]
 ·rw [if_neg (by omega), if_neg (by omega), if_pos (by omega)]
theorem PZ {a : Int} (ha : a = 2 ∨ a = 3) (r : dF) : tX (a - 1) r.f2 r.f3 = aI (a - 1) r ∧ tX (a - 1) r.f3 r.f2 = aI (4 - a) r := by
 rcases ha with h | h <;> simp [tX, aI, h]
theorem Ye (c : ai) (hk : c.f0 = 2 ∨ c.f0 = 3) (hm : jX c.f1 = true) (hl : c.f3.length ≤ 20000) (hne : 0 < c.f3.length) (hs : (c.f3.map (fun k => aI (c.f0 - 1) k.f1)).sum + (c.f3.length : Int) - 1 = aI (c.f0 - 1) c.f1) (hp : ∀ k, k ∈ c.f3 → 1 ≤ aI (c.f0 - 1) k.f1) : (w_ c).2.2 = true := by
 have ha : xm c.f0 = c.f0 - 1 := by unfold xm; omega
 have hax : xm c.f0 = 1 ∨ xm c.f0 = 2 := by omega
 have hlen : (jk c).length = c.f3.length := by simp [jk]
 have hm' : o9 c.f1.f0 c.f1.f1 c.f1.f2 c.f1.f3 = true := hm
 have hsz := JW hk
 exact Yc hax hm' (fun e => by rw [e] at hlen; simp at hlen; omega) (by rw [hlen, hsz, ha, (PZ hk c.f1).1]; omega) (fun m hm => by
  rw [hsz] at hm
  obtain ⟨k, hk2, rfl⟩ := List.mem_map.1 hm
  exact hp k hk2)
theorem UW (a X Y W H : Int) (ha : a = 2 ∨ a = 3) (hX : 0 ≤ X ∧ X ≤ 10000) (hY : 0 ≤ Y ∧ Y ≤ 10000) : ∀ (l : List ai) (off : Int), 0 ≤ off → off + (l.map (fun k => aI (a - 1) k.f1)).sum + (l.length : Int) ≤ 1000000 →
  (∀ k, k ∈ l → 1 ≤ aI (a - 1) k.f1 ∧ aI (4 - a) k.f1 = tX (a - 1) H W) →
  rD (fun k r => qh k.f1 r) (jM a l (if a = 2 then X + off else X) (if a = 2 then Y else Y + off)) (wZ (a - 1) X Y W H off (l.map (fun k => aI (a - 1) k.f1))) = true := by
 intro l
 induction l with
 | nil => intro off _ _ _; rw [nH]; rfl
 | cons k ks ih =>
  intro off h0 hs hk
  have h1 := hk k (by simp)
  have hp := Jd (ks.map (fun k => aI (a - 1) k.f1)) (fun m hm => by
   obtain ⟨q, hq, rfl⟩ := List.mem_map.1 hm
   exact (hk q (by simp [hq])).1)
  rw [List.length_map] at hp
  rw [List.map_cons, List.sum_cons, List.length_cons] at hs
  have e := ih (off + aI (a - 1) k.f1 + 1) (by omega) (by omega) (fun q hq => hk q (by simp [hq]))
  have hb : off + aI (a - 1) k.f1 ≤ 1000000 := by omega
  rw [pR, List.map_cons]
  simp only [wZ, rD, Bool.and_eq_true]
  rcases ha with rfl | rfl
  ·have hx : yg 2 k (X + off) = X + (off + aI (2 - 1) k.f1 + 1) := by
    simp only [yg, aI] at h1 hb ⊢
    simp at h1 hb ⊢
    rw [wp (x := k.f1.f2 + 1) (by omega) (by omega), wp (by omega) (by omega)]
    omega
   refine ⟨CB.2 ?_, ?_⟩
   ·rw [mW]
    simp [tX, aI] at h1 ⊢
    exact h1.2
   ·simp only [if_true] at e ⊢
    rw [hx]
    exact e
  ·have hy : yh 3 k (Y + off) = Y + (off + aI (3 - 1) k.f1 + 1) := by
    simp only [yh, aI] at h1 hb ⊢
    simp at h1 hb ⊢
    rw [wp (x := k.f1.f3 + 1) (by omega) (by omega), wp (by omega) (by omega)]
    omega
   refine ⟨CB.2 ?_, ?_⟩
   ·rw [mW]
    simp [tX, aI] at h1 ⊢
    exact h1.2
   ·simp only [show ¬ ((3 : Int) = 2) by decide, if_false] at e ⊢
    rw [hy]
    exact e
theorem adh (a : Int) (r : dF) (ha : a = 2 ∨ a = 3) (hr : jX r = true) : ∀ (l : List ai) (off : Int), 0 ≤ off → off + (l.map (fun k => aI (a - 1) k.f1)).sum + (l.length : Int) - 1 ≤ aI (a - 1) r →
  (∀ k, k ∈ l → 1 ≤ aI (a - 1) k.f1 ∧ aI (4 - a) k.f1 = aI (4 - a) r) →
  ∀ z, z ∈ jM a l (if a = 2 then r.f0 + off else r.f0) (if a = 2 then r.f1 else r.f1 + off) → ∃ k, k ∈ l ∧ ∃ x y, z = gz k x y ∧ jX ⟨x, y, k.f1.f2, k.f1.f3⟩ = true := by
 have hm := uh.1 hr
 intro l
 induction l with
 | nil => intro off _ _ _ z hz; rw [nH] at hz; cases hz
 | cons k ks ih =>
  intro off h0 hs hk z hz
  have h1 := hk k (by simp)
  have hp := Jd (ks.map (fun k => aI (a - 1) k.f1)) (fun m hm => by
   obtain ⟨q, hq, rfl⟩ := List.mem_map.1 hm
   exact (hk q (by simp [hq])).1)
  rw [List.length_map] at hp
  rw [List.map_cons, List.sum_cons, List.length_cons] at hs
  have hb : off + aI (a - 1) k.f1 ≤ aI (a - 1) r := by omega
  rw [pR] at hz
  rcases List.mem_cons.1 hz with rfl | hz
  ·refine ⟨k, by simp, _, _, rfl, uh.2 ?_⟩
   rcases ha with rfl | rfl
   ·simp [aI] at h1 hb hm ⊢
    omega
   ·simp [aI] at h1 hb hm ⊢
    omega
  ·have e : ∃ q, q ∈ ks ∧ ∃ x y, z = gz q x y ∧ jX ⟨x, y, q.f1.f2, q.f1.f3⟩ = true := by
    refine ih (off + aI (a - 1) k.f1 + 1) (by omega) (by omega) (fun q hq => hk q (by simp [hq])) z ?_
    rcases ha with rfl | rfl
    ·have hx : yg 2 k (r.f0 + off) = r.f0 + (off + aI (2 - 1) k.f1 + 1) := by
      simp [yg, aI] at h1 hb hm ⊢
      rw [wp (x := k.f1.f2 + 1) (by omega) (by omega), wp (by omega) (by omega)]
      omega
     simp only [if_true] at hz ⊢
     rw [hx] at hz
     exact hz
    ·have hy : yh 3 k (r.f1 + off) = r.f1 + (off + aI (3 - 1) k.f1 + 1) := by
      simp [yh, aI] at h1 hb hm ⊢
      rw [wp (x := k.f1.f3 + 1) (by omega) (by omega), wp (by omega) (by omega)]
      omega
     simp only [show ¬ ((3 : Int) = 2) by decide, if_false] at hz ⊢
     rw [hy] at hz
     exact hz
   obtain ⟨q, hq, e⟩ := e
   exact ⟨q, by simp [hq], e⟩
def vM (c : ai) : Prop := (dZ c).all lC = true ∧ kS c = true
theorem EH {c : ai} (h1 : lC c = true) (h2 : l7 c = true) (hk : ∀ k, k ∈ c.f3 → vM k) : vM c := by
 refine ⟨?_, ?_⟩
 ·rw [jY, List.all_cons, h1, Bool.true_and]
  have : ∀ l : List ai, (∀ k, k ∈ l → vM k) → (allL l).all lC = true := by
   intro l
   induction l with
   | nil => intro _; rw [jW]; rfl
   | cons x xs ih => intro h; rw [g_, List.all_append, (h x (by simp)).1, ih (fun k hk => h k (by simp [hk]))]; rfl
  exact this c.f3 hk
 ·rw [rM, h2, Bool.true_and]
  exact List.all_eq_true.2 fun k hk2 => (hk k hk2).2
theorem JO (a : Int) (r : dF) (l : List ai) (ha : a = 2 ∨ a = 3) (hr : jX r = true) (hl : 2 ≤ l.length) (hl2 : l.length ≤ 20000) (hs : (l.map (fun k => aI (a - 1) k.f1)).sum + (l.length : Int) - 1 = aI (a - 1) r)
  (hk : ∀ k, k ∈ l → 1 ≤ aI (a - 1) k.f1 ∧ aI (4 - a) k.f1 = aI (4 - a) r) (hg : ∀ k, k ∈ l → ∀ x y, jX ⟨x, y, k.f1.f2, k.f1.f3⟩ = true → vM (gz k x y)) : vM ⟨a, r, 0, jM a l r.f0 r.f1⟩ := by
 have hm := uh.1 hr
 have hsz : ∀ (l : List ai) (x y : Int) (f : ai → Int), (∀ k x y, f (gz k x y) = f k) → (jM a l x y).map f = l.map f := by
  intro l
  induction l with
  | nil => intro x y f _; rw [nH]
  | cons k ks ih => intro x y f hf; rw [pR, List.map_cons, List.map_cons, ih _ _ f hf, hf]
 have hin := adh a r ha hr l 0 (by omega) (by omega) hk
 have BU := UW a r.f0 r.f1 r.f2 r.f3 ha (by omega) (by omega) l 0 (by omega) (by have := oG hr (ax := a - 1) (by omega); omega) (fun k h => by rw [(PZ ha r).2]; exact hk k h)
 have hxy : (if a = 2 then r.f0 + 0 else r.f0) = r.f0 ∧ (if a = 2 then r.f1 else r.f1 + 0) = r.f1 := by constructor <;> split <;> omega
 rw [hxy.1, hxy.2] at hin BU
 have hmap : ∀ l x y, (jM a l x y).map (fun k => aI (a - 1) k.f1) = l.map (fun k => aI (a - 1) k.f1) := fun l x y => hsz l x y _ (fun k x y => by rw [mW]; rfl)
 refine EH ?_ ?_ (fun z hz => ?_)
 ·unfold lC
  simp only [hr, tN, Bool.true_and]
  rw [decide_eq_true (show 1 ≤ a ∧ a ≤ 3 by omega), decide_eq_true (show a = 1 → l.length = 0 ∧ (0 : Int) ≤ 0 ∧ (0 : Int) ≤ 2147483647 from fun h => by omega), decide_eq_true (show a > 1 → 2 ≤ l.length ∧ True from fun _ => ⟨hl, trivial⟩)]
  rfl
 ·have ht : (w_ ⟨a, r, 0, jM a l r.f0 r.f1⟩).2.2 = true := Ye _ ha hr (by rw [tN]; exact hl2) (by rw [tN]; omega) (by simp only []; rw [hmap, tN]; exact hs) (fun k hk2 => by
   obtain ⟨q, hq, x, y, rfl, _⟩ := hin k hk2
   rw [mW]
   exact (hk q hq).1)
  obtain ⟨_, gp, _, _⟩ := BN ht
  rw [JW (c := ⟨a, r, 0, jM a l r.f0 r.f1⟩) ha] at gp
  simp only [] at gp
  rw [hmap, show xm a = a - 1 by unfold xm; omega] at gp
  unfold l7 AO
  rw [ht, gp, BU]
  simp only [Bool.true_and, Bool.and_true, Bool.or_eq_true]
  right
  have : ∀ (ns : List Int) (off : Int), (wZ (a - 1) r.f0 r.f1 r.f2 r.f3 off ns).length = ns.length := fun ns off => MK _ _ _ _ _ ns off
  rw [this, List.length_map, tN]
  simp
 ·obtain ⟨q, hq, x, y, rfl, hm2⟩ := hin z hz
  exact hg q hq x y hm2
theorem CV (l : List Int) : total l = l.sum := by
 induction l with
 | nil => rfl
 | cons x xs ih => simp only [total, List.sum_cons, ih]
theorem adm {b : Int} {gs : List Int} (hl : gs.length ≤ 100000) (h0 : -2147483647 ≤ b) (h1 : b ≤ 2147483647) (hg : ∀ g, g ∈ gs → 0 ≤ g ∧ g ≤ 2147483647) (hne : gs ≠ []) (hb : -gs.sum ≤ b) :
  (yj b gs).2 = true ∧ (yj b gs).1.length = gs.length ∧ (yj b gs).1.sum = b ∧ ∀ p, p ∈ gs.zip (yj b gs).1 → -p.1 ≤ p.2 := by
 rcases (adl b gs hl h0 h1).1 with ⟨e, h⟩ | ⟨e, _, _, hb0⟩ | ⟨qs, e, _, _, hq, hgd, _, ho, _⟩
 ·exfalso
  rw [CV] at h
  rcases h with h | h | h
  ·exact hne h
  ·exact h hg
  ·omega
 ·rw [e]
  refine ⟨rfl, NJ _ _, ?_, ?_⟩
  ·rw [← CV]
   exact Ox b gs.length hb0 (List.length_pos_iff.2 hne)
  ·intro p hp
   obtain ⟨a1, a2⟩ := List.of_mem_zip hp
   have h2 := hg _ a1
   simp only [moreL, List.mem_map, List.mem_range] at a2
   obtain ⟨i, _, e2⟩ := a2
   have hn : (0 : Int) < (gs.length : Int) := by have := List.length_pos_iff.2 hne; omega
   have hd : 0 ≤ b / (gs.length : Int) := Int.ediv_nonneg hb0 (by omega)
   unfold GX at e2
   split at e2 <;> omega
 ·rw [e]
  refine ⟨rfl, by rw [← hq]; simp, by rw [← CV, ← Q3]; exact ho, fun p hp => ?_⟩
  simp only [] at hp
  rw [← hq, List.zip_map'] at hp
  obtain ⟨q, hq2, rfl⟩ := List.mem_map.1 hp
  exact (hgd q hq2).2.2.1
theorem LP (ax : Int) : ∀ (l : List ai) (ss : List Int) (ns : Nat → Int) (i : Nat), ss.length = l.length → (∀ j, j < l.length → ns (i + j) = ss.getD j 0) → wY ax l ns i = (l.zip ss).map fun p => qZ ax p.1 p.2 := by
 intro l
 induction l with
 | nil => intro ss ns i _ _; rw [zN]; rfl
 | cons k ks ih =>
  intro ss ns i hl hn
  cases ss with
  | nil => simp at hl
  | cons s ss =>
   have h0 := hn 0 (by simp)
   rw [Nat.add_zero] at h0
   rw [Jw, List.zip_cons_cons, List.map_cons, h0, ih ss ns (i + 1) (by simpa using hl) (fun j hj => by
    have := hn (j + 1) (by simpa using hj)
    rw [show i + 1 + j = i + (j + 1) by omega, this]
    rfl)]
   rfl
theorem P_ (f : ai → Int) : ∀ (l : List ai) (ss : List Int), ss.length = l.length → ((l.zip ss).map fun p => f p.1 + p.2).sum = (l.map f).sum + ss.sum := by
 intro l
 induction l with
 | nil => intro ss h; cases ss with
  | nil => rfl
  | cons s ss => simp at h
 | cons k ks ih =>
  intro ss h
  cases ss with
  | nil => simp at h
  | cons s ss =>
   rw [List.zip_cons_cons, List.map_cons, List.map_cons, List.sum_cons, List.sum_cons, List.sum_cons, ih ss (by simpa using h)]
   show f k + s + _ = _
   omega
theorem zip_fst (f : ai → Int) : ∀ (l : List ai) (ss : List Int), ss.length = l.length → ((l.zip ss).map fun p => f p.1) = l.map f := by
 intro l
 induction l with
 | nil => intro ss h; rfl
 | cons k ks ih =>
  intro ss h
  cases ss with
  | nil => simp at h
  | cons s ss => rw [List.zip_cons_cons, List.map_cons, List.map_cons, ih ss (by simpa using h)]
theorem BO {ax : Int} (hax : ax = 1 ∨ ax = 2) {r : dF} {b : Int} (h0 : 0 ≤ aI ax r + b) (h1 : aI ax r + b ≤ 100000) : aI ax (grow ax b r) = aI ax r + b ∧ aI (3 - ax) (grow ax b r) = aI (3 - ax) r := by
 rcases hax with rfl | rfl
 ·simp [aI, grow] at h0 h1 ⊢
  exact wp (by omega) (by omega)
 ·simp [aI, grow] at h0 h1 ⊢
  exact wp (by omega) (by omega)
theorem E_ {c : ai} (h : bW c = true) : kS c = true := by
 unfold bW at h
 simp only [Bool.and_eq_true] at h
 exact h.2
theorem XF {c : ai} (h : lC c = true) (hk : c.f0 = 2 ∨ c.f0 = 3) : c.f2 = 0 := by
 unfold lC at h
 simp only [Bool.and_eq_true, decide_eq_true_eq] at h
 exact (h.2 (by omega)).2
theorem Ur {ax : Int} (hax : ax = 1 ∨ ax = 2) : ∀ (N : Nat) (c : ai), sz c ≤ N → bW c = true → ∀ b, fG ax c ≤ aI ax c.f1 + b → aI ax c.f1 + b ≤ 10000 → ∀ x y, jX ⟨x, y, (grow ax b c.f1).f2, (grow ax b c.f1).f3⟩ = true → vM (gz (qZ ax c b) x y) := by
 intro N
 induction N with
 | zero => intro c h; rw [dB] at h; omega
 | succ N ih =>
  intro c hc ht b hb1 hb2 x y hr
  have hm := lS ht
  have hok := nU (sO hm)
  have hsm := ou hm
  have hB := E_ ht
  have hsz := dB c
  have hlen := ku c.f3
  rw [Dp, mW]
  simp only []
  rcases vG hok with ⟨h1, h2⟩ | ⟨h1, h2⟩
  ·rw [List.eq_nil_of_length_eq_zero h2, zN, nH]
   refine EH ?_ ?_ (fun k hk => by cases hk)
   ·unfold lC at hok ⊢
    simp only [Bool.and_eq_true, decide_eq_true_eq, h1] at hok ⊢
    exact ⟨⟨⟨hr, by omega⟩, fun _ => ⟨rfl, (hok.1.2 trivial).2⟩⟩, fun h => by omega⟩
   ·unfold l7 AO
    simp [h1]
  ·have TE : l7 c = true := by rw [rM, Bool.and_eq_true] at hB; exact hB.1
   obtain ⟨g1, g2⟩ := Aw TE h1 (by omega)
   have EK : ∀ k, k ∈ c.f3 → sz k ≤ N ∧ bW k = true ∧ ji ax k = aI ax k.f1 - fG ax k ∧ 0 ≤ aI ax k.f1 - fG ax k ∧ 1 ≤ fG ax k ∧ aI ax k.f1 ≤ 10000 ∧ ∀ a, a = 1 ∨ a = 2 → 1 ≤ aI a k.f1 := fun k hk => by
    have q := Pure.wU ht hk
    have q2 := Pure.mO hax q
    have q3 := Hq hk
    exact ⟨by omega, q, q2.1, q2.2.1, q2.2.2.1, q2.2.2.2, fun a ha => (oG (uj (nU (sO (lS q)))) ha).1⟩
   rw [XF hok h1]
   have hw1 : 0 ≤ aI ax c.f1 + b := by
    have := (Pure.mO hax ht).2.2.1
    omega
   have hgr := BO hax (r := c.f1) (b := b) hw1 (by omega)
   have fin : ∀ ss : List Int, ss.length = c.f3.length → wY ax c.f3 (PQ ax c.f0 c.f3 b) 0 = (c.f3.zip ss).map (fun p => qZ ax p.1 p.2) → (∀ p, p ∈ c.f3.zip ss → fG ax p.1 ≤ aI ax p.1.f1 + p.2 ∧ aI ax p.1.f1 + p.2 ≤ 10000) →
     (c.f0 - 1 = ax → ss.sum = b) → (4 - c.f0 = ax → ∀ p, p ∈ c.f3.zip ss → p.2 = b) → vM ⟨c.f0, ⟨x, y, (grow ax b c.f1).f2, (grow ax b c.f1).f3⟩, 0, jM c.f0 (wY ax c.f3 (PQ ax c.f0 c.f3 b) 0) x y⟩ := by
    intro ss hss MV hp hal hcr
    have hf1 : ∀ p : ai × Int, (qZ ax p.1 p.2).f1 = grow ax p.2 p.1.f1 := fun p => by rw [Dp]
    have hpk : ∀ p, p ∈ c.f3.zip ss → p.1 ∈ c.f3 := fun p hq => (List.of_mem_zip hq).1
    have hps : ∀ p, p ∈ c.f3.zip ss → aI ax (qZ ax p.1 p.2).f1 = aI ax p.1.f1 + p.2 ∧ aI (3 - ax) (qZ ax p.1 p.2).f1 = aI (3 - ax) p.1.f1 := fun p hq => by
     rw [hf1]
     have := (EK _ (hpk p hq)).2.2.2.2.1
     have := hp p hq
     exact BO hax (by omega) (by omega)
    rw [MV]
    refine JO c.f0 ⟨x, y, (grow ax b c.f1).f2, (grow ax b c.f1).f3⟩ _ h1 hr (by simp [hss]; omega) (by simp [hss]; omega) ?_ ?_ ?_
    ·have e0 : ∀ a, aI a ⟨x, y, (grow ax b c.f1).f2, (grow ax b c.f1).f3⟩ = aI a (grow ax b c.f1) := fun a => rfl
     rw [e0, List.map_map, List.length_map, List.length_zip, hss, Nat.min_self]
     by_cases e : c.f0 - 1 = ax
     ·rw [e] at g1 ⊢
      have e2 : List.map ((fun k => aI ax k.f1) ∘ fun p : ai × Int => qZ ax p.1 p.2) (c.f3.zip ss) = List.map (fun p => aI ax p.1.f1 + p.2) (c.f3.zip ss) := List.map_congr_left (fun p hq => (hps p hq).1)
      rw [hgr.1, e2, P_ (fun k => aI ax k.f1) _ _ hss, hal e]
      omega
     ·have e2 : c.f0 - 1 = 3 - ax := by omega
      rw [e2] at g1 ⊢
      have e3 : List.map ((fun k => aI (3 - ax) k.f1) ∘ fun p : ai × Int => qZ ax p.1 p.2) (c.f3.zip ss) = List.map (fun p => aI (3 - ax) p.1.f1) (c.f3.zip ss) := List.map_congr_left (fun p hq => (hps p hq).2)
      rw [hgr.2, e3, zip_fst (fun k => aI (3 - ax) k.f1) _ _ hss]
      exact g1
    ·intro k hk
     obtain ⟨p, hq, rfl⟩ := List.mem_map.1 hk
     have q1 := hps p hq
     have q2 := EK _ (hpk p hq)
     have q3 := hp p hq
     have q4 := g2 _ (hpk p hq)
     have e0 : ∀ a, aI a ⟨x, y, (grow ax b c.f1).f2, (grow ax b c.f1).f3⟩ = aI a (grow ax b c.f1) := fun a => rfl
     rw [e0]
     by_cases e : c.f0 - 1 = ax
     ·rw [show 4 - c.f0 = 3 - ax by omega, e, hgr.2, q1.1, q1.2]
      rw [show 3 - (c.f0 - 1) = 3 - ax by omega] at q4
      exact ⟨by omega, q4⟩
     ·have e2 : c.f0 - 1 = 3 - ax := by omega
      have e3 : 4 - c.f0 = ax := by omega
      rw [e2, e3, hgr.1, q1.1, q1.2]
      rw [show 3 - (c.f0 - 1) = ax by omega] at q4
      exact ⟨q2.2.2.2.2.2.2 _ (by omega), by rw [q4, hcr e3 p hq]⟩
    ·intro k hk x' y' hm2
     obtain ⟨p, hq, rfl⟩ := List.mem_map.1 hk
     have q2 := EK _ (hpk p hq)
     have q3 := hp p hq
     rw [hf1] at hm2
     exact ih p.1 q2.1 q2.2.1 p.2 q3.1 q3.2 x' y' hm2
   have hrs := oG hr hax
   rw [show aI ax ⟨x, y, (grow ax b c.f1).f2, (grow ax b c.f1).f3⟩ = aI ax (grow ax b c.f1) from rfl, hgr.1] at hrs
   by_cases e : c.f0 - 1 = ax
   ·have ha : iT ax c.f0 = true := by
     unfold iT
     simp
     omega
    have hgs : c.f3.map (ji ax) = c.f3.map (fun k => aI ax k.f1 - fG ax k) := List.map_congr_left (fun k hk => (EK k hk).2.2.1)
    have hsub : ∀ l : List ai, (l.map (fun k => aI ax k.f1 - fG ax k)).sum = (l.map (fun k => aI ax k.f1)).sum - vJ ax l := by
     intro l
     induction l with
     | nil => rw [E5]; rfl
     | cons k ks ihk => rw [List.map_cons, List.map_cons, List.sum_cons, List.sum_cons, wL, ihk]; omega
    rw [wF, if_neg (by omega), ha, if_pos rfl] at hb1
    rw [e] at g1
    obtain ⟨s1, s2, s3, s4⟩ := adm (b := b) (gs := c.f3.map (ji ax)) (by simp; omega) (by have := oG (uj hok) hax; omega) (by have := oG (uj hok) hax; omega) (fun g hg => by
     obtain ⟨k, hk, rfl⟩ := List.mem_map.1 hg
     have := EK k hk
     omega) (fun h => by rw [List.map_eq_nil_iff] at h; rw [h] at h2; simp at h2) (by rw [hgs, hsub]; omega)
    rw [List.length_map] at s2
    have hz : ∀ p, p ∈ c.f3.zip (yj b (c.f3.map (ji ax))).1 → -(ji ax p.1) ≤ p.2 := fun p hp => s4 (ji ax p.1, p.2) (by
     rw [List.zip_map_left]
     exact List.mem_map.2 ⟨p, hp, rfl⟩)
    have hle : ∀ p, p ∈ c.f3.zip (yj b (c.f3.map (ji ax))).1 → fG ax p.1 ≤ aI ax p.1.f1 + p.2 := fun p hp => by
     have q1 := hz p hp
     have q2 := EK p.1 (List.of_mem_zip hp).1
     omega
    refine fin (yj b (c.f3.map (ji ax))).1 s2 (LP ax _ _ _ _ s2 (fun j hj => ?_)) (fun p hp => ⟨hle p hp, ?_⟩) (fun _ => s3) (fun h => by omega)
    ·rw [Nat.zero_add]
     unfold PQ
     rw [if_pos ⟨s1, ha⟩]
     rfl
    ·
     have q := P_ (fun k => aI ax k.f1) c.f3 (yj b (c.f3.map (ji ax))).1 s2
     rw [s3] at q
     obtain ⟨u, v, huv⟩ := List.append_of_mem hp
     have hpos : ∀ z : List (ai × Int), (∀ p, p ∈ z → p ∈ c.f3.zip (yj b (c.f3.map (ji ax))).1) → 0 ≤ (z.map fun p => aI ax p.1.f1 + p.2).sum := by
      intro z
      induction z with
      | nil => intro _; simp
      | cons w ws ihw =>
       intro hw
       have a1 := ihw (fun p hp => hw p (by simp [hp]))
       have a2 := hle w (hw w (by simp))
       have a3 := (EK w.1 (List.of_mem_zip (hw w (by simp))).1).2.2.2.2.1
       rw [List.map_cons, List.sum_cons]
       omega
     have p1 := hpos u (fun p hp => by rw [huv]; simp [hp])
     have p2 := hpos v (fun p hp => by rw [huv]; simp [hp])
     rw [huv, List.map_append, List.map_cons, List.sum_append, List.sum_cons] at q
     omega
   ·have ha : iT ax c.f0 = false := by
     unfold iT
     simp
     omega
    have e3 : 4 - c.f0 = ax := by omega
    rw [wF, if_neg (by omega), ha, if_neg (by simp)] at hb1
    have aev : ∀ k, k ∈ c.f3 → fG ax k ≤ oZ ax 0 c.f3 := fun k hk => by
     obtain ⟨u, v, huv⟩ := List.append_of_mem hk
     rw [huv, UB, oz]
     exact Int.le_trans (Us _ _) NK
    have hrep : ∀ p, p ∈ c.f3.zip (List.replicate c.f3.length b) → p.2 = b := fun p hp => (List.mem_replicate.1 (List.of_mem_zip hp).2).2
    refine fin (List.replicate c.f3.length b) (by simp) (LP ax _ _ _ _ (by simp) (fun j hj => ?_)) (fun p hp => ?_) (fun h => absurd h e) (fun _ => hrep)
    ·unfold PQ
     rw [if_neg (by rw [ha]; simp)]
     simp [List.getD_eq_getElem?_getD, hj]
    ·have q := (List.of_mem_zip hp).1
     rw [hrep p hp]
     have q1 := aev p.1 q
     have q2 := g2 p.1 q
     rw [show 3 - (c.f0 - 1) = ax by omega] at q2
     omega
mutual
inductive nM : ai → ai → Prop
 | node (a : Int) (r r' : dF) (d : Int) (l l' : List ai) : rP l l' → nM ⟨a, r, d, l⟩ ⟨a, r', d, l'⟩
inductive rP : List ai → List ai → Prop
 | nil : rP [] []
 | cons {k k' : ai} {l l' : List ai} : nM k k' → rP l l' → rP (k :: l) (k' :: l')
end
def tag (d : ai) : Int × Int := (d.f0, d.f2)
mutual
theorem B_ : ∀ {c d : ai}, nM c d → (dZ c).map tag = (dZ d).map tag
 | _, _, .node a r r' d l l' h => by
  rw [jY, jY, List.map_cons, List.map_cons]
  exact congr (congrArg List.cons rfl) (JL h)
theorem JL : ∀ {l l' : List ai}, rP l l' → (allL l).map tag = (allL l').map tag
 | _, _, .nil => rfl
 | _, _, .cons h hs => by rw [g_, g_, List.map_append, List.map_append, B_ h, JL hs]
end
theorem JJ : ∀ {l l' : List ai}, rP l l' → l.length = l'.length
 | _, _, .nil => rfl
 | _, _, .cons _ hs => by rw [List.length_cons, List.length_cons, JJ hs]
mutual
theorem vS {ax : Int} : ∀ {c d : ai}, nM c d → fG ax c = fG ax d
 | _, _, .node a r r' d l l' h => by
  rw [wF, wF]
  simp only []
  rw [JJ h, JK h, GR h]
theorem JK {ax : Int} : ∀ {l l' : List ai}, rP l l' → vJ ax l = vJ ax l'
 | _, _, .nil => rfl
 | _, _, .cons h hs => by rw [wL, wL, vS h, JK hs]
theorem GR {ax : Int} : ∀ {l l' : List ai} {m : Int}, rP l l' → oZ ax m l = oZ ax m l'
 | _, _, _, .nil => rfl
 | _, _, _, .cons h hs => by rw [oz, oz, vS h, GR hs]
end
theorem EO {c d : ai} (h : nM c d) : sz c = sz d := by
 have := congrArg List.length (B_ h)
 rwa [List.length_map, List.length_map] at this
theorem QW : ∀ (N : Nat), (∀ c : ai, sz c ≤ N → ∀ d e, nM c d → nM d e → nM c e) ∧ (∀ l : List ai, dM l ≤ N → ∀ m n, rP l m → rP m n → rP l n) := by
 intro N
 induction N with
 | zero =>
  refine ⟨fun c h => by rw [dB] at h; omega, fun l h m n h1 h2 => ?_⟩
  cases h1 with
  | nil => exact h2
  | cons a b => rw [b_, dB] at h; omega
 | succ N ih =>
  have hC : ∀ c : ai, sz c ≤ N + 1 → ∀ d e, nM c d → nM d e → nM c e := by
   intro c h d e h1 h2
   cases h1 with
   | node a r r' i l l' h3 =>
    cases h2 with
    | node _ _ r2 _ _ l2 h4 => exact .node _ _ _ _ _ _ (ih.2 l (by rw [dB] at h; simp only [] at h; omega) _ _ h3 h4)
  refine ⟨hC, fun l => ?_⟩
  induction l with
  | nil => intro _ m n h1 h2; cases h1; exact h2
  | cons x xs ihl =>
   intro h m n h1 h2
   rw [b_] at h
   cases h1 with
   | cons a b =>
    cases h2 with
    | cons a2 b2 => exact .cons (hC x (by omega) _ _ a a2) (ihl (by omega) _ _ b b2)
theorem Vq (ax : Int) : ∀ (N : Nat), (∀ c : ai, sz c ≤ N → ∀ b, nM c (qZ ax c b)) ∧ (∀ l : List ai, dM l ≤ N → ∀ ns i, rP l (wY ax l ns i)) := by
 intro N
 induction N with
 | zero =>
  refine ⟨fun c h => by rw [dB] at h; omega, fun l h ns i => ?_⟩
  cases l with
  | nil => rw [zN]; exact .nil
  | cons x xs => rw [b_, dB] at h; omega
 | succ N ih =>
  have hC : ∀ c : ai, sz c ≤ N + 1 → ∀ b, nM c (qZ ax c b) := by
   intro c h b
   rw [Dp]
   obtain ⟨a, r, d, l⟩ := c
   exact .node _ _ _ _ _ _ (ih.2 l (by rw [dB] at h; simp only [] at h; omega) _ _)
  refine ⟨hC, fun l => ?_⟩
  induction l with
  | nil => intro _ ns i; rw [zN]; exact .nil
  | cons x xs ihl =>
   intro h ns i
   rw [b_] at h
   rw [Jw]
   exact .cons (hC x (by omega) _) (ihl (by omega) _ _)
theorem EX : ∀ (N : Nat), (∀ c : ai, sz c ≤ N → ∀ x y, nM c (gz c x y)) ∧ (∀ l : List ai, dM l ≤ N → ∀ a x y, rP l (jM a l x y)) := by
 intro N
 induction N with
 | zero =>
  refine ⟨fun c h => by rw [dB] at h; omega, fun l h a x y => ?_⟩
  cases l with
  | nil => rw [nH]; exact .nil
  | cons x xs => rw [b_, dB] at h; omega
 | succ N ih =>
  have hC : ∀ c : ai, sz c ≤ N + 1 → ∀ x y, nM c (gz c x y) := by
   intro c h x y
   rw [mW]
   obtain ⟨a, r, d, l⟩ := c
   exact .node _ _ _ _ _ _ (ih.2 l (by rw [dB] at h; simp only [] at h; omega) _ _ _)
  refine ⟨hC, fun l => ?_⟩
  induction l with
  | nil => intro _ a x y; rw [nH]; exact .nil
  | cons z zs ihl =>
   intro h a x y
   rw [b_] at h
   rw [pR]
   exact .cons (hC z (by omega) _ _) (ihl (by omega) _ _ _)
theorem MN : ∀ {a b : List ai}, a.map (·.f2) = b.map (·.f2) → dH a = dH b := by
 intro a
 induction a with
 | nil => intro b h; cases b with
  | nil => rfl
  | cons y ys => cases h
 | cons x xs ih =>
  intro b h
  cases b with
  | nil => cases h
  | cons y ys =>
   simp only [List.map_cons, List.cons.injEq] at h
   unfold dH
   rw [ih h.2, h.1]
   congr 1
   have e : ∀ l : List ai, (l.all fun z => decide (z.f2 ≠ y.f2)) = (l.map (·.f2)).all fun i => decide (i ≠ y.f2) := fun l => by rw [List.all_map]; rfl
   rw [e, e, h.2]
theorem We {c d : ai} (h : nM c d) : (jc c).map (·.f2) = (jc d).map (·.f2) := by
 have e : ∀ l : List ai, (l.filter fun x => decide (x.f0 = 1)).map (·.f2) = ((l.map tag).filter fun p => decide (p.1 = 1)).map (·.2) := by
  intro l
  induction l with
  | nil => rfl
  | cons x xs ih =>
   rw [List.map_cons, List.filter_cons, List.filter_cons]
   have ht : (decide ((tag x).1 = 1)) = decide (x.f0 = 1) := rfl
   rw [ht]
   cases decide (x.f0 = 1) with
   | true => simp only [if_true, List.map_cons, ih]; rfl
   | false => simp only [Bool.false_eq_true, if_false, ih]
 unfold jc
 rw [e, e, B_ h]
theorem GU {c d : ai} (h : nM c d) (hc : bW c = true) (hd : vM d) : bW d = true := by
 have hm := lS hc
 unfold kD at hm
 simp only [Bool.and_eq_true, decide_eq_true_eq] at hm
 unfold bW kD
 rw [hd.1, hd.2, decide_eq_true (by rw [← EO h]; exact hm.1), ← MN (We h), hm.2.2]
 rfl
theorem WR : ∀ (N : Nat) (c : ai), sz c ≤ N → bW c = true → ∀ x y, jX ⟨x, y, c.f1.f2, c.f1.f3⟩ = true → vM (gz c x y) := by
 intro N
 induction N with
 | zero => intro c h; rw [dB] at h; omega
 | succ N ih =>
  intro c hc ht x y hr
  have hm := lS ht
  have hok := nU (sO hm)
  have hsm := ou hm
  have hB := E_ ht
  have hsz := dB c
  have hlen := ku c.f3
  rw [mW]
  rcases vG hok with ⟨h1, h2⟩ | ⟨h1, h2⟩
  ·rw [List.eq_nil_of_length_eq_zero h2, nH]
   refine EH ?_ ?_ (fun k hk => by cases hk)
   ·unfold lC at hok ⊢
    simp only [Bool.and_eq_true, decide_eq_true_eq, h1] at hok ⊢
    exact ⟨⟨⟨hr, by omega⟩, fun _ => ⟨rfl, (hok.1.2 trivial).2⟩⟩, fun h => by omega⟩
   ·unfold l7 AO
    simp [h1]
  ·have TE : l7 c = true := by rw [rM, Bool.and_eq_true] at hB; exact hB.1
   obtain ⟨g1, g2⟩ := Aw TE h1 (by omega)
   rw [XF hok h1]
   refine JO c.f0 ⟨x, y, c.f1.f2, c.f1.f3⟩ c.f3 h1 hr h2 (by omega) g1 (fun k hk => ?_) (fun k hk x' y' hm2 => ?_)
   ·have q := Pure.wU ht hk
    have r := uj (nU (sO (lS q)))
    refine ⟨(oG r (by omega)).1, ?_⟩
    have := g2 k hk
    rwa [show 3 - (c.f0 - 1) = 4 - c.f0 by omega] at this
   ·exact ih k (by have := Hq hk; omega) (Pure.wU ht hk) x' y' hm2
theorem UY {c : ai} (h : bW c = true) {x y : Int} (hr : jX ⟨x, y, c.f1.f2, c.f1.f3⟩ = true) : bW (gz c x y) = true :=
 GU ((EX (sz c)).1 c (Nat.le_refl _) x y) h (WR _ c (Nat.le_refl _) h x y hr)
noncomputable def xP (ax n : Int) (k : ai) : ai := aZ ax (gz k 0 0) n
theorem SQ {ax n : Int} {k : ai} (hax : ax = 1 ∨ ax = 2) (ht : bW k = true) (h0 : -(ji ax k) ≤ n) (h1 : aI ax k.f1 + n ≤ 10000) :
  bW (xP ax n k) = true ∧ aI ax (xP ax n k).f1 = aI ax k.f1 + n ∧ ji ax (xP ax n k) = ji ax k + n ∧ sz (xP ax n k) = sz k := by
 have hm := lS ht
 have hr := uh.1 (show o9 k.f1.f0 k.f1.f1 k.f1.f2 k.f1.f3 = true from uj (nU (sO hm)))
 have g := Pure.mO hax ht
 have hz : jX ⟨0, 0, k.f1.f2, k.f1.f3⟩ = true := show o9 0 0 k.f1.f2 k.f1.f3 = true from uh.2 (by omega)
 have ht0 := UY ht hz
 have e0 : (gz k 0 0).f1 = ⟨0, 0, k.f1.f2, k.f1.f3⟩ := by rw [mW]
 have es : ∀ a, aI a (gz k 0 0).f1 = aI a k.f1 := fun a => by rw [e0]; rfl
 have hl0 := (EX (sz k)).1 k (Nat.le_refl _) 0 0
 have g0 := Pure.mO hax ht0
 have el : fG ax (gz k 0 0) = fG ax k := (vS hl0).symm
 rw [es, el] at g0
 have hsz : aI ax k.f1 = k.f1.f2 ∨ aI ax k.f1 = k.f1.f3 := by unfold aI; rcases hax with h | h <;> simp [h]
 have hbad : Vm ax (gz k 0 0) = false := by
  unfold Vm
  rw [ht0]
  rcases hax with h | h <;> simp [h]
 have hout : Vo ax (gz k 0 0) n = false := by
  unfold Vo
  rw [g0.1, e0]
  simp only []
  have hw : wrap64 (-(aI ax k.f1 - fG ax k)) = -(aI ax k.f1 - fG ax k) := by unfold wrap64; omega
  have hs : aI ax ⟨0, 0, wrap64 (0 + k.f1.f2), wrap64 (0 + k.f1.f3)⟩ = aI ax k.f1 := by
   rw [show wrap64 (0 + k.f1.f2) = k.f1.f2 by unfold wrap64; omega, show wrap64 (0 + k.f1.f3) = k.f1.f3 by unfold wrap64; omega]
   rfl
  rw [hs, show wrap64 (10000 - aI ax k.f1) = 10000 - aI ax k.f1 by unfold wrap64; omega, hw]
  rw [decide_eq_false (by omega), decide_eq_false (by omega)]
  rfl
 have MV : xP ax n k = gz (qZ ax (gz k 0 0) n) 0 0 := by
  unfold xP aZ
  rw [hbad, hout, e0]
  simp
 have hgr := BO hax (r := (gz k 0 0).f1) (b := n) (by rw [es]; omega) (by rw [es]; omega)
 have ef1 : (qZ ax (gz k 0 0) n).f1 = grow ax n (gz k 0 0).f1 := by rw [Dp]
 have eg : (xP ax n k).f1 = ⟨0, 0, (grow ax n (gz k 0 0).f1).f2, (grow ax n (gz k 0 0).f1).f3⟩ := by rw [MV, mW, ef1]
 have hsize : aI ax (xP ax n k).f1 = aI ax k.f1 + n := by rw [eg]; rw [es] at hgr; exact hgr.1
 have hmay : jX ⟨0, 0, (grow ax n (gz k 0 0).f1).f2, (grow ax n (gz k 0 0).f1).f3⟩ = true := by
  show o9 0 0 (grow ax n (gz k 0 0).f1).f2 (grow ax n (gz k 0 0).f1).f3 = true
  refine uh.2 ?_
  have h3 := hgr.1
  have h4 := hgr.2
  rw [es] at h3 h4
  generalize grow ax n (gz k 0 0).f1 = G at h3 h4 ⊢
  have h5 : 1 ≤ aI ax k.f1 + n := by omega
  unfold aI at h3 h4 h1 h5
  rcases hax with rfl | rfl
  ·simp at h3 h4 h1 h5; omega
  ·simp at h3 h4 h1 h5; omega
 have aes : vM (xP ax n k) := by
  rw [MV]
  exact Ur hax _ (gz k 0 0) (Nat.le_refl _) ht0 n (by rw [es, el]; omega) (by rw [es]; omega) 0 0 hmay
 have hl1 : nM (gz k 0 0) (xP ax n k) := by
  rw [MV]
  exact (QW _).1 _ (Nat.le_refl _) _ _ ((Vq ax _).1 _ (Nat.le_refl _) n) ((EX _).1 _ (Nat.le_refl _) 0 0)
 have htt := GU hl1 ht0 aes
 have g1 := Pure.mO hax htt
 refine ⟨htt, hsize, ?_, by rw [← EO hl1, ← EO hl0]⟩
 rw [g1.1, hsize, ← vS hl1, el, g.1]
 omega
def kd (L : List ai) (i : Nat) : ai := L.getD i z26
theorem ND {L : List ai} {i : Nat} (h : i < L.length) : kd L i ∈ L := by
 unfold kd
 rw [List.getD_eq_getElem?_getD, List.getElem?_eq_getElem h, Option.getD_some]
 exact List.getElem_mem _
theorem GM (L : List ai) (i : Nat) : aj L (i : Int) = kd L i := by unfold kd aj; rw [Int.toNat_natCast]
theorem NF {L : List ai} {i j : Nat} {k : ai} (h : i < L.length) : kd (L.set i k) j = if j = i then k else kd L j := by
 unfold kd
 rw [List.getD_eq_getElem?_getD, List.getD_eq_getElem?_getD, List.getElem?_set]
 by_cases e : i = j
 ·subst e; rw [if_pos rfl, if_pos rfl, if_pos h]; rfl
 ·rw [if_neg e, if_neg (fun x => e x.symm)]
theorem Z4 (f : ai → Int) : ∀ {L : List ai} {i : Nat} {k : ai}, i < L.length → ((L.set i k).map f).sum = (L.map f).sum - f (kd L i) + f k := by
 intro L
 induction L with
 | nil => intro i k h; simp at h
 | cons x xs ih =>
  intro i k h
  cases i with
  | zero => simp only [List.set_cons_zero, List.map_cons, List.sum_cons]; show _ = f x + _ - f x + f k; omega
  | succ i =>
   simp only [List.set_cons_succ, List.map_cons, List.sum_cons]
   rw [ih (by simpa using h)]
   show _ = f x + _ - f (kd xs i) + f k
   omega
theorem WU : ∀ {L : List ai} {i : Nat} {k : ai}, i < L.length → sz k = sz (kd L i) → dM (L.set i k) = dM L := by
 intro L
 induction L with
 | nil => intro i k h; simp at h
 | cons x xs ih =>
  intro i k h hs
  cases i with
  | zero => rw [List.set_cons_zero, b_, b_, hs]; rfl
  | succ i => rw [List.set_cons_succ, b_, b_, ih (by simpa using h) hs]
theorem acY {f : ai → Int} : ∀ {L : List ai}, (∀ k, k ∈ L → 0 ≤ f k) → ∀ k, k ∈ L → f k ≤ (L.map f).sum := by
 intro L
 induction L with
 | nil => intro _ k h; cases h
 | cons x xs ih =>
  intro h k hk
  have h0 : ∀ l : List ai, (∀ k, k ∈ l → 0 ≤ f k) → 0 ≤ (l.map f).sum := by
   intro l
   induction l with
   | nil => intro _; exact Int.le_refl _
   | cons y ys ihl =>
    intro h
    have := h y (by simp)
    have := ihl (fun k hk => h k (by simp [hk]))
    rw [List.map_cons, List.sum_cons]
    omega
  rw [List.map_cons, List.sum_cons]
  have h1 := h x (by simp)
  have h2 := h0 xs (fun k hk => h k (by simp [hk]))
  rcases List.mem_cons.1 hk with rfl | hk
  ·omega
  ·have := ih (fun k hk => h k (by simp [hk])) k hk; omega
noncomputable def vT (ax : Int) (i : Nat) (n : Int) (L : List ai) : List ai := L.set i (xP ax n (kd L i))
structure xn (ax s : Int) (L : List ai) : Prop where
 xA : ∀ k, k ∈ L → bW k = true
 sum : (L.map (fun k => aI ax k.f1)).sum = s
 small : s ≤ 10000
theorem xn.size {ax s : Int} {L : List ai} (hax : ax = 1 ∨ ax = 2) (h : xn ax s L) {k : ai} (hk : k ∈ L) : aI ax k.f1 ≤ s := by
 have := acY (f := fun k => aI ax k.f1) (fun k hk => by have := Pure.mO hax (h.xA k hk); omega) k hk
 rw [h.sum] at this
 exact this
theorem xn.move {ax s : Int} {L : List ai} (hax : ax = 1 ∨ ax = 2) (h : xn ax s L) {i : Nat} {n : Int} (hi : i < L.length) (h0 : -(ji ax (kd L i)) ≤ n) (h1 : s + n ≤ 10000) :
  xn ax (s + n) (vT ax i n L) ∧ ji ax (kd (vT ax i n L) i) = ji ax (kd L i) + n ∧ (∀ j, j ≠ i → kd (vT ax i n L) j = kd L j) ∧ (vT ax i n L).length = L.length ∧ dM (vT ax i n L) = dM L ∧ aI ax (kd (vT ax i n L) i).f1 = aI ax (kd L i).f1 + n := by
 have hm := ND hi
 have hs := h.size hax hm
 obtain ⟨k1, k2, k3, k4⟩ := SQ hax (h.xA _ hm) h0 (by omega)
 unfold vT
 refine ⟨⟨fun k hk => ?_, ?_, h1⟩, ?_, fun j hj => by rw [NF hi, if_neg hj], by rw [List.length_set], WU hi k4, ?_⟩
 ·rcases List.mem_or_eq_of_mem_set hk with hk | rfl
  ·exact h.xA k hk
  ·exact k1
 ·rw [Z4 _ hi, h.sum, k2]
  omega
 ·rw [NF hi, if_pos rfl, k3]
 ·rw [NF hi, if_pos rfl, k2]
structure En (ax s : Int) (p N : Nat) (L0 L : List ai) (d : Int) : Prop where
 good : xn ax s L
 plc : p < L.length
 d0 : 0 ≤ d
 dg : ji ax (kd L p) = ji ax (kd L0 p) + d
 ds : aI ax (kd L p).f1 = aI ax (kd L0 p).f1 + d
 z : dM L = N
 len : L.length = L0.length
theorem En.start {ax s : Int} {p : Nat} {L : List ai} (h : xn ax s L) (hp : p < L.length) : En ax s p (dM L) L L 0 := ⟨h, hp, Int.le_refl _, by omega, by omega, rfl, rfl⟩
theorem En.small {ax s : Int} {p N : Nat} {L0 L : List ai} {d : Int} (hax : ax = 1 ∨ ax = 2) (h : En ax s p N L0 L d) (h0 : 0 ≤ ji ax (kd L0 p)) : d ≤ 9999 := by
 have := Pure.mO hax (h.good.xA _ (ND h.plc))
 have := h.dg
 omega
theorem En.step {ax s : Int} {p N : Nat} {L0 L : List ai} {d n : Int} {i : Nat} (hax : ax = 1 ∨ ax = 2) (h : En ax s p N L0 L d) (hi : i < L.length) (hne : i ≠ p) (hn0 : 0 ≤ n) (hn : n ≤ ji ax (kd L i)) :
  En ax s p N L0 (vT ax p n (vT ax i (-n) L)) (d + n) := by
 obtain ⟨a1, a2, a3, a4, a5, a6⟩ := h.good.move hax hi (n := -n) (by omega) (by have := h.good.small; omega)
 have hp : p < (vT ax i (-n) L).length := by rw [a4]; exact h.plc
 have e := a3 p (fun e => hne e.symm)
 have hg := Pure.mO hax (h.good.xA _ (ND h.plc))
 obtain ⟨b1, b2, b3, b4, b5, b6⟩ := a1.move hax hp (n := n) (by rw [e]; omega) (by have := h.good.small; omega)
 have hd := h.dg
 have hs := h.ds
 have h0 := h.d0
 refine ⟨?_, by rw [b4]; exact hp, by omega, by rw [b2, e]; omega, by rw [b6, e]; omega, by rw [b5, a5]; exact h.z, by rw [b4, a4]; exact h.len⟩
 have e2 : s + -n + n = s := by omega
 rw [e2] at b1
 exact b1
def gDn (p : Nat → Bool) : Nat → Option Nat
 | 0 => none
 | n + 1 => if p n = true then some n else gDn p n
def place (q : Nat) (m : Bool) : Nat := if m = true then q else q + 1
def adu.T6 : Bool × List (List Nat × List Nat) := (true, [([], []), ([], []), ([], []), ([0, 1, 2], [0, 1, 2]), ([], []), ([4], [4]), ([5], [5]), ([], []), ([7], [7]), ([8], [8]), ([3, 6, 9, 3], [3, 6, 9]), ([10, 10, 0, 1, 2, 3, 4, 5, 6, 7, 8, 9, 10], [10]), ([11, 0, 1, 2, 3, 4, 5, 6, 7, 8, 9, 10, 11], [])])
def adu.B6 : List Nat := [0, 0, 0, 7, 0, 16, 48, 0, 128, 384, 1023, 2047, 4095]
end Go.Proofs.Ytfdmfgaiblfbhaa.P
namespace Go.Proofs.Ytfdmfgaiblfbhaa.P
open Go.RowKit Go.Proofs.ag.aA Go.Proofs.ag.a_ Go.Proofs.ag.bG
attribute [local go_sem] jf jr jG jR iV iW jB jC
def CS.f (k : Nat) (a0 : Int) (a1 : Int) : Option (List Int × Bool) := if a1 < 1 then (some (([] : List Int), false)) else (if a1 > 20000 then (some (([] : List Int), false)) else (if a0 < (wrap64 ((wrap64 (2 * a1)) - 1)) then (some (([] : List Int), false)) else (if a0 > 2147483647 then (some (([] : List Int), false)) else (if 0 ≤ a1 then (if (a1 : Int).toNat ≤ 35184372088832 then ((bV.f k (wrap64 ((wrap64 (a0 - a1)) + 1)) (List.replicate (a1 : Int).toNat 0)).bind fun aee => (some (aee.1, true))) else (none)) else (none)))))
def XJ.f (k : Nat)  : Option (Bool) := (CS.f k 80 3).bind fun Xn => ((CS.f k 8 3).bind fun Xo => (if Xn.2 = true then (if Xo.2 = true then ((lJ.f k Xn.1 (([26, 26, 26] : List Int))).bind fun agx => (if agx = true then ((lJ.f k Xo.1 (([2, 2, 2] : List Int))).bind fun agy => (some agy)) else (some false))) else (some false)) else (some false)))
mutual
def jy.j0 : Nat → Int → Int → List Int → Bool → Option (List Int × Bool)
 | 0, _, _, _, _ => none
 | k + 1, x0, x1, x6, x27 => if x27 = true then (some (x6, false)) else (if x1 = 0 then (none) else (jy.l0 k x1 x6 (wrap64 (Int.tdiv (wrap64 (x0 - (wrap64 (x1 - 1)))) x1)) (Int.tmod (wrap64 (x0 - (wrap64 (x1 - 1)))) x1) 0))
def jy.l0 : Nat → Int → List Int → Int → Int → Int → Option (List Int × Bool)
 | 0, _, _, _, _, _ => none
 | k + 1, x1, x6, x7, x8, x9 => if x9 < x1 then (if x9 < x8 then (if x6.length < 17592186044416 then (jy.l0 k x1 (x6 ++ [wrap64 (x7 + 1)]) x7 x8 (wrap64 (x9 + 1))) else (none)) else (if x6.length < 17592186044416 then (jy.l0 k x1 (x6 ++ [x7]) x7 x8 (wrap64 (x9 + 1))) else (none))) else (some (x6, true))
end
def jy.f (k : Nat) (a0 : Int) (a1 : Int) : Option (List Int × Bool) := (some (([] : List Int) : List Int)).bind fun RF => (if a1 < 1 then (jy.j0 k a0 a1 RF true) else (if a1 > 20000 then (jy.j0 k a0 a1 RF true) else (if a0 < (wrap64 ((wrap64 (2 * a1)) - 1)) then (jy.j0 k a0 a1 RF true) else (jy.j0 k a0 a1 RF (decide (a0 > 2147483647))))))
end Go.Proofs.Ytfdmfgaiblfbhaa.P
namespace Go.Proofs.Ytfdmfgaiblfbhaa.Pure
open Go.RowKit Go.Proofs.Ytfdmfgaiblfbhaa.P Go.Proofs.ag.aA Go.Proofs.ag.a_ Go.Proofs.ag.bG
def Can (s n : Int) : Prop := 1 ≤ n ∧ n ≤ 20000 ∧ 2 * n - 1 ≤ s ∧ s ≤ 2147483647
end Go.Proofs.Ytfdmfgaiblfbhaa.Pure
namespace Go.Proofs.Ytfdmfgaiblfbhaa.P
open Go.RowKit Go.Proofs.ag.aA Go.Proofs.ag.a_ Go.Proofs.ag.bG
section
variable {W : World} {b : Nat} {P : Nat → Prop} {A : Option Addr} {cc : Nat}
end
theorem D9 {W W1 : World} {Q : Nat → Value → Prop} {ad : Nat → Addr} (h : ∀ (j : Nat) (u : Value), Q j u → W.cell? (ad j) = some u) (hb : Below W.heap.size W W1) : ∀ (j : Nat) (u : Value), Q j u → W1.cell? (ad j) = some u :=
 fun j u hq => (hb.cell (World.block_lt_of_cell? W _ (h j u hq))).trans (h j u hq)
def ajH.T0 : Bool × List (List Nat × List Nat) := (true, [([], []), ([0], [0]), ([1], [1]), ([2], [2]), ([3], [3]), ([], []), ([], []), ([6], [6]), ([7], [7]), ([8], [8]), ([9], [9]), ([], []), ([10, 11], [10, 11]), ([12], [12]), ([13], [13]), ([], []), ([15], [15]), ([16], [16]), ([17], [17]), ([], []), ([14, 18, 19, 14], [14, 18, 19]), ([20], [20]), ([21], [21]), ([21], [21]), ([4, 5, 0, 1, 2, 3, 4, 5, 6, 7, 8, 9, 10, 11, 12, 13, 14, 15, 16, 17, 18, 19, 20, 21, 22], [4, 5]), ([24, 22, 20, 0, 1, 2, 3, 4, 5, 6, 7, 8, 9, 10, 11, 12, 13, 14, 15, 16, 17, 18, 19, 20, 21, 22], [22, 24])])
end Go.Proofs.Ytfdmfgaiblfbhaa.P
namespace Go.Proofs.Ytfdmfgaiblfbhaa.P
open Go.RowKit Go.Proofs.ag.aA Go.Proofs.ag.a_ Go.Proofs.ag.bG
attribute [local go_sem] jf jG jr jR
end Go.Proofs.Ytfdmfgaiblfbhaa.P
namespace Go.Proofs.Ytfdmfgaiblfbhaa.P
open Go.RowKit Go.Shelf Go.Proofs.ag.aA Go.Proofs.ag.a_ Go.Proofs.ag.bG
theorem DX (n : Nat) : (Builtin.zeroCells (Value.int .i64 0).cells n).size = n := by simp [Builtin.zeroCells, Value.cells]
theorem zW {w w1 : World} {B : Nat} (h : Below B w.drew w1) : Below B w w1 := ⟨h.os, h.tape.trans rfl, h.output, h.size, h.block⟩
theorem Um (w : World) (base : Nat) (hbase : base ≤ w.heap.size) (v : Value) (xs : List Int) (x : Int) (vb vc : Nat) (hs : w.ownsRow base 3 1 v xs.length (encs (Value.int .i64) xs)) (hv : w.heap[vb]? = some (.cells #[.int .i64 x] 3 (0, 0))) (hne : v.ownBlock ≠ some vb) (hlen : xs.length ≤ 1000000) :
  Calls Try.prog 150 #[v, .int .i64 0, .slice (some ⟨vb, 0, none⟩) 1 vc] w fun e w' => ∃ v', e = .returned v' ∧ w'.ownsRow base 3 1 v' (x :: xs).length (encs (Value.int .i64) (x :: xs)) ∧ Below base w w' := by
 have hvs : ∀ j u, [Value.int .i64 x][j]? = some u → w.cell? ⟨vb, 0 + j, none⟩ = some u := by
  intro j u hj
  cases j with
  | zero => rw [af hv 0]; exact hj
  | succ j => simp at hj
 have h1v : ∀ u ∈ [Value.int .i64 x], u.oneCell' = true := by simp [Value.oneCell']
 have h1c : ∀ u ∈ encs (Value.int .i64) xs, u.oneCell' = true := by
  intro u hu
  obtain ⟨i, _, rfl⟩ := List.mem_map.1 hu
  rfl
 obtain ⟨hl, hcase⟩ := hs
 rcases hcase with ⟨rfl, h0⟩ | ⟨g, cap, cur, rfl, hbg, hh, hnc, hcm, hcs, htk⟩
 ·obtain rfl : xs = [] := List.eq_nil_of_length_eq_zero h0
  refine (Any2.slices_Insert_int_end_grow GN none 0 0 vb 0 1 vc [] [.int .i64 x] w (by omega) (by omega) (by omega) (by omega) rfl rfl (fun _ => rfl) (fun a h => by cases h) hvs h1v).mono ?_
  rintro e w' ⟨rfl, rfl⟩
  have hg := grownCap_ge w (0 + 1) 0 3
  have hg2 := grownCap_le_maxLen w (0 + 1) 0 3 (by unfold maxLen; omega)
  refine ⟨_, rfl, ⟨rfl, .inr ⟨w.heap.size, _, _, rfl, hbase, heap_alloc_new w.drew _, hg, hg2, ?_, ?_⟩⟩, zW ((Below.refl base w.drew).alloc hbase _)⟩
  ·rw [Array.size_append, DX]
   show 1 + (grownCap w (0 + 1) 0 3 - (0 + 1)) = grownCap w (0 + 1) 0 3 * 1
   omega
  ·simp [encs]
 ·have hcl : (encs (Value.int .i64) xs).length = xs.length := sH xs
  have hlt := eH hh
  have hgv : vb ≠ g := fun e => hne (by rw [e]; rfl)
  have hcells : ∀ j u, (encs (Value.int .i64) xs)[j]? = some u → w.cell? ⟨g, 0 + j, none⟩ = some u := by
   intro j u hj
   rw [af hh, Nat.zero_add, ← Array.getElem?_toList]
   rw [← htk, Nat.mul_one, List.getElem?_take] at hj
   split at hj
   ·exact hj
   ·cases hj
  have hsp : ∀ j, j < cap → (w.cell? ⟨g, 0 + j, none⟩).isSome = true := by
   intro j hj
   rw [af hh, Nat.zero_add, Array.getElem?_eq_getElem (by omega)]
   rfl
  have hfz : ∀ j, w.frozen? ⟨g, 0 + j, none⟩ = false := fun j => ah hh _
  by_cases h0 : xs.length = 0
  ·obtain rfl : xs = [] := List.eq_nil_of_length_eq_zero h0
   by_cases hr : 0 + 1 ≤ cap
   ·refine (Any2.slices_Insert_int_end_room GN g 0 0 cap vb 0 1 vc [.int .i64 x] w (by omega) hr (by unfold maxLen at hcm; omega) rfl (fun j hj => by rw [Nat.add_assoc]; exact hsp (0 + j) (by omega)) (fun j _ => by rw [Nat.add_assoc]; exact hfz (0 + j)) hvs h1v).mono ?_
    rintro e w' ⟨rfl, rfl⟩
    obtain ⟨cur', h3, h4, h5⟩ := kR [Value.int .i64 x] (0 + 0) w cur hh (by simp; omega)
    obtain ⟨_, hgr⟩ := pJ hh (show (0 + 0) + [Value.int .i64 x].length ≤ cur.size by simp; omega) (cs' := cur') h5.symm
    refine ⟨_, rfl, ⟨rfl, .inr ⟨g, cap, cur', rfl, hbg, h3, hr, hcm, by rw [h4, hcs], ?_⟩⟩, grown_below (Below.refl base w) hgr hbg hbase⟩
    rw [h5]
    simp [encs]
   ·refine (Any2.slices_Insert_int_end_grow GN (some ⟨g, 0, none⟩) 0 cap vb 0 1 vc [] [.int .i64 x] w (by omega) (by omega) (by omega) (by omega) rfl rfl (fun h => by cases h) (fun a h j u hj => by simp at hj) hvs h1v).mono ?_
    rintro e w' ⟨rfl, rfl⟩
    have hg := grownCap_ge w (0 + 1) cap 3
    have hg2 := grownCap_le_maxLen w (0 + 1) cap 3 (by unfold maxLen; omega)
    refine ⟨_, rfl, ⟨rfl, .inr ⟨w.heap.size, _, _, rfl, hbase, heap_alloc_new w.drew _, hg, hg2, ?_, ?_⟩⟩, zW ((Below.refl base w.drew).alloc hbase _)⟩
    ·rw [Array.size_append, DX]
     show 1 + (grownCap w (0 + 1) cap 3 - (0 + 1)) = grownCap w (0 + 1) cap 3 * 1
     omega
    ·simp [encs]
  ·by_cases hr : xs.length + 1 ≤ cap
   ·refine (Any2.slices_Insert_int_shift GN g 0 xs.length cap 0 vb 0 1 vc (encs (Value.int .i64) xs) [.int .i64 x] w (by omega) (by omega) hr (by unfold maxLen at hcm; omega) hgv hcl rfl hcells (fun j hj => hsp j (by omega)) (fun j _ => hfz j) hvs h1c h1v
     3 3 1 cap (by simp [World.shape?, hv]) (by simp [World.shape?, hh, hcs]) (by omega) (ah hv 0) (ah hv 1)).mono ?_
    rintro e w' ⟨rfl, rfl⟩
    have hh' : w.drew.heap[g]? = some (.cells cur 3 (0, 0)) := hh
    have e1 : 0 + (0 + 1) + ((encs (Value.int .i64) xs).drop 0).length ≤ cur.size := by rw [List.drop_zero, hcl]; omega
    obtain ⟨c1, h3, h4, h5⟩ := kR ((encs (Value.int .i64) xs).drop 0) (0 + (0 + 1)) w.drew cur hh' e1
    obtain ⟨_, Nr⟩ := pJ hh' e1 (cs' := c1) h5.symm
    have e2 : (0 + 0) + [Value.int .i64 x].length ≤ c1.size := by simp; omega
    obtain ⟨c2, h6, h7, h8⟩ := kR [Value.int .i64 x] (0 + 0) _ c1 h3 e2
    obtain ⟨_, VZ⟩ := pJ h3 e2 (cs' := c2) h8.symm
    refine ⟨_, rfl, ⟨by rw [sH, Nat.mul_one], .inr ⟨g, cap, c2, rfl, hbg, h6, hr, hcm, by rw [h7, h4, hcs], ?_⟩⟩, zW (grown_below (grown_below (Below.refl base w.drew) Nr hbg hbase) VZ hbg (Nat.le_trans hbase Nr.size))⟩
    rw [h8, h5]
    have hc1 : cur.toList.length = cap := by rw [Array.length_toList]; omega
    simp only [List.drop_zero, Nat.zero_add, List.take_zero, List.nil_append, List.length_singleton, List.length_cons, List.length_nil]
    have ht : (cur.toList.take 1).length = 1 := by rw [List.length_take]; omega
    rw [List.append_assoc, List.drop_left' ht, Nat.mul_one]
    show (Value.int .i64 x :: (encs (Value.int .i64) xs ++ cur.toList.drop (1 + (encs (Value.int .i64) xs).length))).take (xs.length + 1) = encs (Value.int .i64) (x :: xs)
    rw [List.take_succ_cons, List.take_append_of_le_length (by omega), List.take_of_length_le (by omega)]
    rfl
   ·refine (Any2.slices_Insert_int_grow GN g 0 xs.length cap 0 vb 0 1 vc (encs (Value.int .i64) xs) [.int .i64 x] w (by omega) (by omega) hnc (by omega) (by omega) hcl rfl hcells hvs h1c h1v).mono ?_
    rintro e w' ⟨rfl, rfl⟩
    have hg := grownCap_ge w (xs.length + 1) cap 3
    have hg2 := grownCap_le_maxLen w (xs.length + 1) cap 3 (by unfold maxLen; omega)
    have hh0 := heap_alloc_new w (.cells (((encs (Value.int .i64) xs).take 0).toArray ++ Builtin.zeroCells (Value.int .i64 0).cells (xs.length + 1 - 0) ++ Builtin.zeroCells (Value.int .i64 0).cells (grownCap w (xs.length + 1) cap (DT.t 3) - (xs.length + 1))) (DT.t 3))
    generalize xU : ((((encs (Value.int .i64) xs).take 0).toArray ++ Builtin.zeroCells (Value.int .i64 0).cells (xs.length + 1 - 0) ++ Builtin.zeroCells (Value.int .i64 0).cells (grownCap w (xs.length + 1) cap (DT.t 3) - (xs.length + 1)))) = jq at hh0 ⊢
    have hsz0 : jq.size = grownCap w (xs.length + 1) cap 3 := by
     rw [← xU, Array.size_append, Array.size_append, DX, DX]
     show 0 + (xs.length + 1 - 0) + (grownCap w (xs.length + 1) cap 3 - (xs.length + 1)) = _
     omega
    have hal : Below base w (w.alloc (.cells jq (DT.t 3))) := (Below.refl base w).alloc hbase _
    generalize w.alloc (.cells jq (DT.t 3)) = wa at hh0 hal ⊢
    have hh1 : wa.drew.heap[w.heap.size]? = some (.cells jq 3 (0, 0)) := hh0
    have e1 : 0 + [Value.int .i64 x].length ≤ jq.size := by rw [hsz0]; simp; omega
    obtain ⟨c1, h3, h4, h5⟩ := kR [Value.int .i64 x] 0 wa.drew jq hh1 e1
    obtain ⟨_, Nr⟩ := pJ hh1 e1 (cs' := c1) h5.symm
    generalize wa.drew.setCells w.heap.size 0 [Value.int .i64 x] = wb at h3 Nr ⊢
    have hh2 : wb.drew.heap[w.heap.size]? = some (.cells c1 3 (0, 0)) := h3
    have e2 : (0 + 1) + ((encs (Value.int .i64) xs).drop 0).length ≤ c1.size := by rw [List.drop_zero, hcl, h4, hsz0]; omega
    obtain ⟨c2, h6, h7, h8⟩ := kR ((encs (Value.int .i64) xs).drop 0) (0 + 1) wb.drew c1 hh2 e2
    obtain ⟨_, VZ⟩ := pJ hh2 e2 (cs' := c2) h8.symm
    have hB1 : Below base w wa.drew := bJ hal
    have hB2 : Below base w wb := grown_below hB1 Nr hbase (Nat.le_trans hbase hB1.size)
    refine ⟨_, rfl, ⟨by rw [sH, Nat.mul_one], .inr ⟨w.heap.size, _, c2, rfl, hbase, h6, hg, hg2, by rw [h7, h4, hsz0]; exact (Nat.mul_one _).symm, ?_⟩⟩, grown_below (bJ hB2) VZ hbase (Nat.le_trans hbase hB2.size)⟩
    rw [h8, h5]
    simp only [List.drop_zero, Nat.zero_add, List.take_zero, List.nil_append, List.length_singleton, List.length_cons]
    rw [List.singleton_append, List.take_succ_cons, List.take_zero, Nat.mul_one, List.append_assoc]
    show (Value.int .i64 x :: (encs (Value.int .i64) xs ++ _)).take (xs.length + 1) = encs (Value.int .i64) (x :: xs)
    rw [List.take_succ_cons, List.take_append_of_le_length (by omega), List.take_of_length_le (by omega)]
    rfl
end Go.Proofs.Ytfdmfgaiblfbhaa.P
namespace Go.Proofs.Ytfdmfgaiblfbhaa.P
open Go.RowKit Go.Proofs.ag.aA Go.Proofs.ag.a_ Go.Proofs.ag.bG
section
variable {P : Program} {ops : Array Oper} {rest : List Oper} {o : Oper} {a : Act} {Q : Exit → Act → World → Prop}
theorem JS {W : World} (hgd : o.guard = none) {N : Tmp} (_hd : o.dst = some N) {cs : Array Value} {t : TypeId} {n c : Nat}
  (hrun : (execOp a.eval o).run P W = .ok (.value (.slice (some ⟨W.heap.size, 0, none⟩) n c)) (W.alloc (.cells cs t (0, 0))))
  (h : ∀ g, g = W.heap.size → ∀ w1, w1.heap[g]? = some (.cells cs t (0, 0)) → Below W.heap.size W w1 → wpList P ops Q rest (a.put o.dst (.slice (some ⟨g, 0, none⟩) n c)) w1) : wpList P ops Q (o :: rest) a W :=
 Kd.yE hgd hrun (h _ rfl _ (Ic W _) (aW (Below.refl _ _) _))
end
mutual
def dI (id : Int) : ai → Option (List Int)
 | ⟨a, _, d, l⟩ => if a = 1 ∧ d = id then some [] else nN id 0 l
def nN (id : Int) : Nat → List ai → Option (List Int)
 | _, [] => none
 | i, k :: ks => match dI id k with
  | some p => some ((i : Int) :: p)
  | none => nN id (i + 1) ks
end
theorem p_ (id : Int) (c : ai) : dI id c = if c.f0 = 1 ∧ c.f2 = id then some [] else nN id 0 c.f3 := by cases c; simp [dI]
theorem mM (id : Int) (i : Nat) : nN id i [] = none := by simp [nN]
theorem mD (id : Int) (i : Nat) (k : ai) (ks : List ai) : nN id i (k :: ks) = match dI id k with | some p => some ((i : Int) :: p) | none => nN id (i + 1) ks := by simp [nN]
theorem EG (id : Int) : ∀ (N : Nat), (∀ c : ai, sz c ≤ N → ∀ p, dI id c = some p → p.length ≤ sz c) ∧ (∀ l : List ai, dM l ≤ N → ∀ i p, nN id i l = some p → p.length ≤ 1 + dM l) := by
 intro N
 induction N with
 | zero =>
  refine ⟨fun c h => ?_, fun l h => ?_⟩
  ·rw [dB] at h; omega
  ·cases l with
   | nil => intro i p hp; rw [mM] at hp; cases hp
   | cons z zs => rw [b_, dB] at h; omega
 | succ N ih =>
  have hC : ∀ c : ai, sz c ≤ N + 1 → ∀ p, dI id c = some p → p.length ≤ sz c := by
   intro c h p hp
   have hs := dB c
   rw [p_] at hp
   split at hp
   ·injection hp with hp; subst hp; simp
   ·have := ih.2 c.f3 (by omega) 0 p hp
    omega
  refine ⟨hC, fun l => ?_⟩
  induction l with
  | nil => intro _ i p hp; rw [mM] at hp; cases hp
  | cons z zs ihl =>
   intro h i p hp
   rw [b_] at h ⊢
   rw [mD] at hp
   cases hz : dI id z with
   | some q =>
    rw [hz] at hp
    injection hp with hp
    have := hC z (by omega) q hz
    rw [← hp, List.length_cons]
    omega
   | none =>
    rw [hz] at hp
    have := ihl (by omega) (i + 1) p hp
    omega
def adK (w : World) (r : Option (List Int)) (e : Ending) (w' : World) : Prop := ∃ v : Value, e = .returned (.tuple #[v, .bool r.isSome]) ∧ (Kd.int .i64).R 3 w' w.heap.size (fun _ => True) v (r.getD []) ∧ Below w.heap.size w w'
theorem abW (id : Int) : ∀ (N : Nat) (c : ai), sz c ≤ N → N ≤ 1000000 → ∀ (A : Option Addr) (cc : Nat) (w : World), Kd.C k26 w A c.f3.length c.f3 → c.f3.length ≤ cc →
  Calls Try.prog 89 #[.agg #[.int .u8 c.f0, .int .i64 c.f1.f0, .int .i64 c.f1.f1, .int .i64 c.f1.f2, .int .i64 c.f1.f3, .int .i64 c.f2, .slice A c.f3.length cc], .int .i64 id] w (adK w (dI id c)) := by
 intro N
 induction N with
 | zero => intro c h; rw [dB] at h; omega
 | succ N ih =>
  intro c hc hN A cc w hr hlc
  have hsz := dB c
  have hlen := ku c.f3
  have hkz : ∀ k : ai, k ∈ c.f3 → sz k ≤ N := by
   intro k hk
   have : sz k ≤ dM c.f3 := by
    obtain ⟨p, q, e⟩ := List.append_of_mem hk
    rw [e, jH, b_]; omega
   omega
  have IH := ae.mk fun (k : ai) (hk : k ∈ c.f3) => ih k (hkz k hk) (by omega)
  have D5 := ae.mk fun (k : ai) (hk : k ∈ c.f3) (p : List Int) (hp : dI id k = some p) => Nat.le_trans ((EG id (sz k)).1 k (Nat.le_refl _) p hp) (Nat.le_trans (hkz k hk) (by omega : N ≤ 1000000))
  have HR := ae.mk hr
  have HLC := ae.mk hlc
  have HL := ae.mk (show c.f3.length ≤ 1000000 by omega)
  have HB := ae.mk (Below.refl w.heap.size w)
  rw [p_]
  clear ih hkz hr hlc hc hN hsz hlen
  obtain ⟨ck, ⟨cx, cy, cw, ch⟩, aV, l⟩ := c
  simp only [] at HR HLC HL IH D5 ⊢
  by_cases h1 : ck = 1
  ·have h1b : (ck == 1) = true := beq_iff_eq.mpr h1
   by_cases h2 : aV = id
   ·have h2b : (aV == id) = true := beq_iff_eq.mpr h2
    rw [if_pos ⟨h1, h2⟩]
    clear h1 h2
    go_enter Try.func89, Try.ntmps89
    go_wp2_with (((with_reducible refine ay (N := 2) rfl ?_); refine aG ?hg (N := 2) ?hd (cs := #[.int .u8 ck, .int .i64 cx, .int .i64 cy, .int .i64 cw, .int .i64 ch, .int .i64 aV, .slice A l.length cc]) (t := 26) ?hr ?_; (case hd => rfl); (case hg => rfl); (case hr => (go_simp; done)); intro b2 hg w2 hbox hb; have K2 := ae.mk hbox; have q_ := ae.mk (ak HB.out hb); clear HB; have HB := q_; clear q_; clear hb hbox hg; have c0 := (af K2.out 0).trans rfl; have c1 := (af K2.out 1).trans rfl; have c2 := (af K2.out 2).trans rfl; have c3 := (af K2.out 3).trans rfl; have c4 := (af K2.out 4).trans rfl; have c5 := (af K2.out 5).trans rfl; have c6 := (af K2.out 6).trans rfl))
    go_ret2
    exact ⟨_, rfl, Kd.uy _ _ _ _ _, HB.out⟩
   ·have h2b : (aV == id) = false := beq_eq_false_iff_ne.mpr h2
    rw [if_neg (fun h => h2 h.2)]
    clear h1 h2
    go_enter Try.func89, Try.ntmps89
    go_wp2_with (((with_reducible refine ay (N := 2) rfl ?_); refine aG ?hg (N := 2) ?hd (cs := #[.int .u8 ck, .int .i64 cx, .int .i64 cy, .int .i64 cw, .int .i64 ch, .int .i64 aV, .slice A l.length cc]) (t := 26) ?hr ?_; (case hd => rfl); (case hg => rfl); (case hr => (go_simp; done)); intro b2 hg w2 hbox hb; have K2 := ae.mk hbox; have q_ := ae.mk (ak HB.out hb); clear HB; have HB := q_; clear q_; clear hb hbox hg; have c0 := (af K2.out 0).trans rfl; have c1 := (af K2.out 1).trans rfl; have c2 := (af K2.out 2).trans rfl; have c3 := (af K2.out 3).trans rfl; have c4 := (af K2.out 4).trans rfl; have c5 := (af K2.out 5).trans rfl; have c6 := (af K2.out 6).trans rfl))
    clear c0 c1 c2 c3 c4 c5 c6
    go_loopg [22] l.length (fun gg v22 wr => ∃ (pre rest : List ai), v22 = .int .i64 (pre.length : Int) ∧ ae (pre ++ rest = l) ∧ rest.length ≤ gg ∧ ae (nN id 0 l = nN id pre.length rest) ∧ ae (Below w.heap.size w wr))
    case atStart => exact ⟨[], l, rfl, ⟨rfl⟩, Nat.le_refl _, ⟨rfl⟩, HB⟩
    case round =>
     clear HB K2
     obtain ⟨pre, rest, rfl, HE, hgg, HF, HB⟩ := hrel
     cases rest with
     | nil =>
      have hlt : ¬ ((pre.length : Int) < (l.length : Int)) := by have := HE.out; rw [List.append_nil] at this; rw [this]; omega
      clear hgg
      go_wp2
      go_ret2
      rw [HF.out, mM]
      exact ⟨_, rfl, Kd.uy _ _ _ _ _, HB.out⟩
     | cons k rest =>
      have hk : k ∈ l := by rw [← HE.out]; simp
      have hlt : (pre.length : Int) < (l.length : Int) := by rw [← HE.out, List.length_append, List.length_cons]; omega
      have hw : wrap64 ((pre.length : Int) + 1) = ((pre ++ [k]).length : Int) := by rw [List.length_append, List.length_singleton]; unfold wrap64; have := HL.out; omega
      have hrd : aj l (pre.length : Int) = k := by rw [← HE.out]; simp [aj, List.getD_eq_getElem?_getD]
      obtain ⟨ad, ua, uc, rfl, h0, h1, h2, h3, h4, h5, h6, JH, hgu⟩ := n_ HR.out (pre.length : Int) (Int.natCast_nonneg _) hlt
      rw [hrd] at h0 h1 h2 h3 h4 h5 h6 JH hgu
      simp only [Int.toNat_natCast] at h0 h1 h2 h3 h4 h5 h6
      replace h0 := (HB.out.cell (World.block_lt_of_cell? w _ h0)).trans h0
      replace h1 := (HB.out.cell (World.block_lt_of_cell? w _ h1)).trans h1
      replace h2 := (HB.out.cell (World.block_lt_of_cell? w _ h2)).trans h2
      replace h3 := (HB.out.cell (World.block_lt_of_cell? w _ h3)).trans h3
      replace h4 := (HB.out.cell (World.block_lt_of_cell? w _ h4)).trans h4
      replace h5 := (HB.out.cell (World.block_lt_of_cell? w _ h5)).trans h5
      replace h6 := (HB.out.cell (World.block_lt_of_cell? w _ h6)).trans h6
      have HU := ae.mk hgu
      have LU := ae.mk JH
      have HW := ae.mk hw
      have HK := ae.mk hk
      have HG := ae.mk hgg
      clear hgu JH hw hk hgg hrd
      go_wp2_with (first | ((with_reducible refine ay (N := 7) rfl ?_); refine aG ?hg (N := 7) ?hd (cs := #[.int .u8 0, .int .i64 0, .int .i64 0, .int .i64 0, .int .i64 0, .int .i64 0, .slice none 0 0]) (t := 26) ?hr ?_; (case hd => rfl); (case hg => rfl); (case hr => (go_simp; done)); intro b7 hg w7 hbox hb; have K7 := ae.mk hbox; have G7 := ae.mk (show w.heap.size ≤ b7 by rw [hg]; exact HB.out.size); have q_ := ae.mk (ak HB.out hb); clear HB; have HB := q_; clear q_; clear hb hbox hg) | ((with_reducible refine lq (.store 26 (.tmp 7) (.tmp 26)) rfl ?_); go_loud (refine fO (w0 := w) rfl rfl 26 (.tmp 7) (.tmp 26) rfl (g := b7) (j := 0) (base := w.heap.size) #[.int .u8 k.f0, .int .i64 k.f1.f0, .int .i64 k.f1.f1, .int .i64 k.f1.f2, .int .i64 k.f1.f3, .int .i64 k.f2, .slice ua k.f3.length uc] (u := .agg #[.int .u8 k.f0, .int .i64 k.f1.f0, .int .i64 k.f1.f1, .int .i64 k.f1.f2, .int .i64 k.f1.f3, .int .i64 k.f2, .slice ua k.f3.length uc]) (bF := [.int .u8 k.f0, .int .i64 k.f1.f0, .int .i64 k.f1.f1, .int .i64 k.f1.f2, .int .i64 k.f1.f3, .int .i64 k.f2, .slice ua k.f3.length uc]) ?sA ?sX rfl ?sT ?s1 K7.out ?sJ rfl HB.out HB.out.size G7.out ?_; (case sA => rfl); (case sX => rfl); (case sT => rfl); (case s1 => (simp [Value.oneCell'])); (case sJ => (simp)); intro ws hbk hbb hgg; clear K7 HB; have K7 := ae.mk hbk; have HB := ae.mk hbb; clear hbk hbb hgg h0 h1 h2 h3 h4 h5 h6; have d0 := (af K7.out 0).trans rfl; have d1 := (af K7.out 1).trans rfl; have d2 := (af K7.out 2).trans rfl; have d3 := (af K7.out 3).trans rfl; have d4 := (af K7.out 4).trans rfl; have d5 := (af K7.out 5).trans rfl; have d6 := (af K7.out 6).trans rfl)))
      clear d0 d1 d2 d3 d4 d5 d6 K7
      refine (IH.out k HK.out ua uc _ (Kd.dL HU.out HB.out) LU.out).mono ?_
      rintro e wk ⟨v, rfl, ho, hb⟩
      have HO := ae.mk (Kd.qA ho HB.out.size)
      have q_ := ae.mk (ak HB.out hb); clear HB; have HB := q_; clear q_
      clear ho hb
      cases hf : dI id k with
      | none =>
       rw [hf] at HO
       have HF2 := ae.mk hf
       simp only [hf, Option.isSome_none]
       clear hf
       go_wp2
       go_roundg rest.length
       case measure => exact Nat.lt_of_lt_of_le (Nat.lt_succ_self _) HG.out
       case rel => exact ⟨pre ++ [k], rest, (by rw [HW.out]), ⟨by rw [List.append_assoc]; exact HE.out⟩, Nat.le_refl _, ⟨by rw [HF.out, mD, HF2.out, List.length_append]; rfl⟩, HB⟩
      | some p =>
       rw [hf] at HO
       have HF2 := ae.mk hf
       have HP := ae.mk (D5.out k HK.out p hf)
       simp only [hf, Option.isSome_some]
       clear hf
       obtain ⟨Ap, cp, ep⟩ := Kd.ja HO.out
       subst ep
       go_wp2_with (((with_reducible refine ay (N := 36) rfl ?_); refine JS ?hg (N := 36) ?hd (cs := #[.int .i64 (pre.length : Int)]) (t := 3) (n := 1) (c := 1) ?hr ?_; (case hd => rfl); (case hg => rfl); (case hr => (go_simp; done)); intro b9 hg w9 hbox hb; have K9 := ae.mk hbox; have NE := ae.mk (fun e_ => Nat.lt_irrefl _ (hg ▸ Kd.Et HO.out b9 e_) : ¬ (Value.slice Ap ((some p).getD []).length cp).ownBlock = some b9); have dQ := ae.mk (Kd.kU HO.out hb); clear HO; have HO := dQ; clear dQ; have q_ := ae.mk (ak HB.out hb); clear HB; have HB := q_; clear q_; clear hb hbox hg))
       refine (Um _ w.heap.size HB.out.size _ p (pre.length : Int) b9 1 (Kd.NP HO.out) K9.out NE.out HP.out).mono ?_
       rintro e wi ⟨v', rfl, ho, hb⟩
       have qH := ae.mk ho
       have HB2 := ae.mk (HB.out.trans hb)
       clear ho hb
       go_wp2
       go_ret2
       rw [HF.out, mD, HF2.out]
       exact ⟨_, rfl, Kd.Lp qH.out (fun _ _ => trivial), HB2.out⟩
  ·have h1b : (ck == 1) = false := beq_eq_false_iff_ne.mpr h1
   rw [if_neg (fun h => h1 h.1)]
   clear h1
   go_enter Try.func89, Try.ntmps89
   go_wp2_with (((with_reducible refine ay (N := 2) rfl ?_); refine aG ?hg (N := 2) ?hd (cs := #[.int .u8 ck, .int .i64 cx, .int .i64 cy, .int .i64 cw, .int .i64 ch, .int .i64 aV, .slice A l.length cc]) (t := 26) ?hr ?_; (case hd => rfl); (case hg => rfl); (case hr => (go_simp; done)); intro b2 hg w2 hbox hb; have K2 := ae.mk hbox; have q_ := ae.mk (ak HB.out hb); clear HB; have HB := q_; clear q_; clear hb hbox hg; have c0 := (af K2.out 0).trans rfl; have c1 := (af K2.out 1).trans rfl; have c2 := (af K2.out 2).trans rfl; have c3 := (af K2.out 3).trans rfl; have c4 := (af K2.out 4).trans rfl; have c5 := (af K2.out 5).trans rfl; have c6 := (af K2.out 6).trans rfl))
   clear c0 c1 c2 c3 c4 c5 c6
   go_loopg [22] l.length (fun gg v22 wr => ∃ (pre rest : List ai), v22 = .int .i64 (pre.length : Int) ∧ ae (pre ++ rest = l) ∧ rest.length ≤ gg ∧ ae (nN id 0 l = nN id pre.length rest) ∧ ae (Below w.heap.size w wr))
   case atStart => exact ⟨[], l, rfl, ⟨rfl⟩, Nat.le_refl _, ⟨rfl⟩, HB⟩
   case round =>
    clear HB K2
    obtain ⟨pre, rest, rfl, HE, hgg, HF, HB⟩ := hrel
    cases rest with
    | nil =>
     have hlt : ¬ ((pre.length : Int) < (l.length : Int)) := by have := HE.out; rw [List.append_nil] at this; rw [this]; omega
     clear hgg
     go_wp2
     go_ret2
     rw [HF.out, mM]
     exact ⟨_, rfl, Kd.uy _ _ _ _ _, HB.out⟩
    | cons k rest =>
     have hk : k ∈ l := by rw [← HE.out]; simp
     have hlt : (pre.length : Int) < (l.length : Int) := by rw [← HE.out, List.length_append, List.length_cons]; omega
     have hw : wrap64 ((pre.length : Int) + 1) = ((pre ++ [k]).length : Int) := by rw [List.length_append, List.length_singleton]; unfold wrap64; have := HL.out; omega
     have hrd : aj l (pre.length : Int) = k := by rw [← HE.out]; simp [aj, List.getD_eq_getElem?_getD]
     obtain ⟨ad, ua, uc, rfl, h0, h1, h2, h3, h4, h5, h6, JH, hgu⟩ := n_ HR.out (pre.length : Int) (Int.natCast_nonneg _) hlt
     rw [hrd] at h0 h1 h2 h3 h4 h5 h6 JH hgu
     simp only [Int.toNat_natCast] at h0 h1 h2 h3 h4 h5 h6
     replace h0 := (HB.out.cell (World.block_lt_of_cell? w _ h0)).trans h0
     replace h1 := (HB.out.cell (World.block_lt_of_cell? w _ h1)).trans h1
     replace h2 := (HB.out.cell (World.block_lt_of_cell? w _ h2)).trans h2
     replace h3 := (HB.out.cell (World.block_lt_of_cell? w _ h3)).trans h3
     replace h4 := (HB.out.cell (World.block_lt_of_cell? w _ h4)).trans h4
     replace h5 := (HB.out.cell (World.block_lt_of_cell? w _ h5)).trans h5
     replace h6 := (HB.out.cell (World.block_lt_of_cell? w _ h6)).trans h6
     have HU := ae.mk hgu
     have LU := ae.mk JH
     have HW := ae.mk hw
     have HK := ae.mk hk
     have HG := ae.mk hgg
     clear hgu JH hw hk hgg hrd
     go_wp2_with (first | ((with_reducible refine ay (N := 7) rfl ?_); refine aG ?hg (N := 7) ?hd (cs := #[.int .u8 0, .int .i64 0, .int .i64 0, .int .i64 0, .int .i64 0, .int .i64 0, .slice none 0 0]) (t := 26) ?hr ?_; (case hd => rfl); (case hg => rfl); (case hr => (go_simp; done)); intro b7 hg w7 hbox hb; have K7 := ae.mk hbox; have G7 := ae.mk (show w.heap.size ≤ b7 by rw [hg]; exact HB.out.size); have q_ := ae.mk (ak HB.out hb); clear HB; have HB := q_; clear q_; clear hb hbox hg) | ((with_reducible refine lq (.store 26 (.tmp 7) (.tmp 26)) rfl ?_); go_loud (refine fO (w0 := w) rfl rfl 26 (.tmp 7) (.tmp 26) rfl (g := b7) (j := 0) (base := w.heap.size) #[.int .u8 k.f0, .int .i64 k.f1.f0, .int .i64 k.f1.f1, .int .i64 k.f1.f2, .int .i64 k.f1.f3, .int .i64 k.f2, .slice ua k.f3.length uc] (u := .agg #[.int .u8 k.f0, .int .i64 k.f1.f0, .int .i64 k.f1.f1, .int .i64 k.f1.f2, .int .i64 k.f1.f3, .int .i64 k.f2, .slice ua k.f3.length uc]) (bF := [.int .u8 k.f0, .int .i64 k.f1.f0, .int .i64 k.f1.f1, .int .i64 k.f1.f2, .int .i64 k.f1.f3, .int .i64 k.f2, .slice ua k.f3.length uc]) ?sA ?sX rfl ?sT ?s1 K7.out ?sJ rfl HB.out HB.out.size G7.out ?_; (case sA => rfl); (case sX => rfl); (case sT => rfl); (case s1 => (simp [Value.oneCell'])); (case sJ => (simp)); intro ws hbk hbb hgg; clear K7 HB; have K7 := ae.mk hbk; have HB := ae.mk hbb; clear hbk hbb hgg h0 h1 h2 h3 h4 h5 h6; have d0 := (af K7.out 0).trans rfl; have d1 := (af K7.out 1).trans rfl; have d2 := (af K7.out 2).trans rfl; have d3 := (af K7.out 3).trans rfl; have d4 := (af K7.out 4).trans rfl; have d5 := (af K7.out 5).trans rfl; have d6 := (af K7.out 6).trans rfl)))
     clear d0 d1 d2 d3 d4 d5 d6 K7
     refine (IH.out k HK.out ua uc _ (Kd.dL HU.out HB.out) LU.out).mono ?_
     rintro e wk ⟨v, rfl, ho, hb⟩
     have HO := ae.mk (Kd.qA ho HB.out.size)
     have q_ := ae.mk (ak HB.out hb); clear HB; have HB := q_; clear q_
     clear ho hb
     cases hf : dI id k with
     | none =>
      rw [hf] at HO
      have HF2 := ae.mk hf
      simp only [hf, Option.isSome_none]
      clear hf
      go_wp2
      go_roundg rest.length
      case measure => exact Nat.lt_of_lt_of_le (Nat.lt_succ_self _) HG.out
      case rel => exact ⟨pre ++ [k], rest, (by rw [HW.out]), ⟨by rw [List.append_assoc]; exact HE.out⟩, Nat.le_refl _, ⟨by rw [HF.out, mD, HF2.out, List.length_append]; rfl⟩, HB⟩
     | some p =>
      rw [hf] at HO
      have HF2 := ae.mk hf
      have HP := ae.mk (D5.out k HK.out p hf)
      simp only [hf, Option.isSome_some]
      clear hf
      obtain ⟨Ap, cp, ep⟩ := Kd.ja HO.out
      subst ep
      go_wp2_with (((with_reducible refine ay (N := 36) rfl ?_); refine JS ?hg (N := 36) ?hd (cs := #[.int .i64 (pre.length : Int)]) (t := 3) (n := 1) (c := 1) ?hr ?_; (case hd => rfl); (case hg => rfl); (case hr => (go_simp; done)); intro b9 hg w9 hbox hb; have K9 := ae.mk hbox; have NE := ae.mk (fun e_ => Nat.lt_irrefl _ (hg ▸ Kd.Et HO.out b9 e_) : ¬ (Value.slice Ap ((some p).getD []).length cp).ownBlock = some b9); have dQ := ae.mk (Kd.kU HO.out hb); clear HO; have HO := dQ; clear dQ; have q_ := ae.mk (ak HB.out hb); clear HB; have HB := q_; clear q_; clear hb hbox hg))
      refine (Um _ w.heap.size HB.out.size _ p (pre.length : Int) b9 1 (Kd.NP HO.out) K9.out NE.out HP.out).mono ?_
      rintro e wi ⟨v', rfl, ho, hb⟩
      have qH := ae.mk ho
      have HB2 := ae.mk (HB.out.trans hb)
      clear ho hb
      go_wp2
      go_ret2
      rw [HF.out, mD, HF2.out]
      exact ⟨_, rfl, Kd.Lp qH.out (fun _ _ => trivial), HB2.out⟩
def afq.f (a0 a1 a2 a3 a4 a5 : Int) (l : List ai) (id : Int) : Option (List Int × Bool) := if sz ⟨a0, ⟨a1, a2, a3, a4⟩, a5, l⟩ ≤ 1000000 then some ((dI id ⟨a0, ⟨a1, a2, a3, a4⟩, a5, l⟩).getD [], (dI id ⟨a0, ⟨a1, a2, a3, a4⟩, a5, l⟩).isSome) else none
theorem OV : ∀ (is : List Int) (c x : ai), iU c is = some x → sz x ≤ sz c := by
 intro is
 induction is with
 | nil => intro c x h; injection h with h; rw [h]; exact Nat.le_refl _
 | cons i is ih =>
  intro c x h
  simp only [iU] at h
  split at h
  ·cases h
  ·rename_i hi
   have h1 := ih _ x h
   have h2 := yt (Ci c.f3 i (by omega) (by omega))
   have h3 := dB c
   omega
theorem xG (id : Int) : ∀ (N : Nat), (∀ c : ai, sz c ≤ N → ∀ p, dI id c = some p → ∃ z, iU c p = some z ∧ z.f0 = 1 ∧ z.f2 = id) ∧
  (∀ l : List ai, dM l ≤ N → ∀ (pre : List ai) (p : List Int), nN id pre.length l = some p → ∃ i is z, p = i :: is ∧ 0 ≤ i ∧ i < ((pre ++ l).length : Int) ∧ iU (aj (pre ++ l) i) is = some z ∧ z.f0 = 1 ∧ z.f2 = id) := by
 intro N
 induction N with
 | zero =>
  refine ⟨fun c h => ?_, fun l h => ?_⟩
  ·rw [dB] at h; omega
  ·cases l with
   | nil => intro pre p hp; rw [mM] at hp; cases hp
   | cons z zs => rw [b_, dB] at h; omega
 | succ N ih =>
  have hC : ∀ c : ai, sz c ≤ N + 1 → ∀ p, dI id c = some p → ∃ z, iU c p = some z ∧ z.f0 = 1 ∧ z.f2 = id := by
   intro c h p hp
   have hs := dB c
   rw [p_] at hp
   split at hp
   ·rename_i hq
    injection hp with hp
    subst hp
    exact ⟨c, rfl, hq.1, hq.2⟩
   ·obtain ⟨i, is, z, rfl, h0, h1, h2, h3⟩ := ih.2 c.f3 (by omega) [] p hp
    refine ⟨z, ?_, h3⟩
    rw [List.nil_append] at h1 h2
    simp only [iU]
    rw [if_neg (by omega)]
    exact h2
  refine ⟨hC, fun l => ?_⟩
  induction l with
  | nil => intro _ pre p hp; rw [mM] at hp; cases hp
  | cons x xs ihl =>
   intro h pre p hp
   rw [b_] at h
   rw [mD] at hp
   cases hx : dI id x with
   | some q =>
    rw [hx] at hp
    injection hp with hp
    obtain ⟨z, hz, h3⟩ := hC x (by omega) q hx
    refine ⟨(pre.length : Int), q, z, hp.symm, by omega, by rw [List.length_append, List.length_cons]; omega, ?_, h3⟩
    rw [mV]
    exact hz
   | none =>
    rw [hx] at hp
    have e := ihl (by omega) (pre ++ [x]) p (by rw [List.length_append]; exact hp)
    rwa [List.append_assoc] at e
def afX (ax : Int) (c : ai) (p : List Int) (d : Nat) : Bool := match iU c (p.take d) with
 | some z => iT ax z.f0
 | none => false
def frD (ax : Int) (c : ai) (p : List Int) : Option Nat := gDn (afX ax c p) p.length
theorem abd : ∀ (p : List Int) (c x : ai), iU c p = some x → ∀ d, d < p.length → ∃ z, iU c (p.take d) = some z ∧ 0 ≤ rd p (d : Int) ∧ rd p (d : Int) < (z.f3.length : Int) := by
 intro p
 induction p with
 | nil => intro c x _ d h; simp at h
 | cons i is ih =>
  intro c x h d hd
  simp only [iU] at h
  split at h
  ·cases h
  ·rename_i hi
   cases d with
   | zero =>
    refine ⟨c, rfl, ?_⟩
    have e : rd (i :: is) ((0 : Nat) : Int) = i := rfl
    rw [e]
    omega
   | succ d =>
    obtain ⟨z, h1, h2⟩ := ih _ x h d (by simpa using hd)
    refine ⟨z, ?_, ?_⟩
    ·rw [List.take_succ_cons]
     simp only [iU]
     rw [if_neg hi]
     exact h1
    ·have e : rd (i :: is) ((d + 1 : Nat) : Int) = rd is (d : Int) := by unfold rd; rw [Int.toNat_natCast, Int.toNat_natCast]; rfl
     rw [e]
     exact h2
theorem Vw : ∀ (p : List Int) (c z : ai), bW c = true → iU c p = some z → bW z = true := by
 intro p
 induction p with
 | nil => intro c z h e; simp only [iU] at e; injection e with e; rwa [← e]
 | cons i is ih =>
  intro c z h e
  simp only [iU] at e
  split at e
  ·cases e
  ·rename_i hi
   exact ih _ z (Pure.wU h (Ci c.f3 i (by omega) (by omega))) e
structure HY (ax : Int) (c : ai) (p : List Int) (d : Nat) (z : ai) (q : Nat) : Prop where
 hd : d < p.length
 at' : iU c (p.take d) = some z
 al : iT ax z.f0 = true
 i0 : 0 ≤ rd p (d : Int)
 i1 : rd p (d : Int) < (z.f3.length : Int)
 len : 2 ≤ z.f3.length
 hq : (q : Int) = mn (rd p (d : Int)) ((z.f3.length : Int) - 2)
theorem HY.next {ax : Int} {c : ai} {p : List Int} {d : Nat} {z : ai} {q : Nat} (h : HY ax c p d z q) : q + 1 < z.f3.length := by
 have h1 := h.hq
 have h2 := h.len
 unfold mn at h1
 split at h1 <;> omega
theorem QF {ax : Int} {z : ai} (hax : ax = 1 ∨ ax = 2) (ht : bW z = true) (ha : iT ax z.f0 = true) : xn ax (aI ax z.f1 - ((z.f3.length : Int) - 1)) z.f3 := by
 have hm := lS ht
 have hB := E_ ht
 have TE : l7 z = true := by rw [rM, Bool.and_eq_true] at hB; exact hB.1
 have hs := ou hm
 have hz := dB z
 have hl := ku z.f3
 have e : z.f0 - 1 = ax ∧ (z.f0 = 2 ∨ z.f0 = 3) := by
  unfold iT at ha
  simp at ha
  omega
 obtain ⟨g1, _⟩ := Aw TE e.2 (by omega)
 rw [e.1] at g1
 have hg := Pure.mO hax ht
 have hk : 2 ≤ z.f3.length := by
  rcases vG (nU (sO hm)) with ⟨a, _⟩ | ⟨_, b⟩
  ·omega
  ·exact b
 exact ⟨fun k hk => Pure.wU ht hk, by omega, by omega⟩
noncomputable def frN (ax id : Int) (c : ai) : Int := if bW c = true ∧ (ax = 1 ∨ ax = 2) then (match dI id c with
 | none => 6
 | some p => match frD ax c p with
  | none => 10
  | some _ => 0) else 1
def mi.T5 : Bool × List (List Nat × List Nat) := (true, [([], []), ([0], [0]), ([], []), ([], []), ([3], [3]), ([1, 2, 0, 1, 2, 3, 4], [1, 2]), ([5, 4, 4, 0, 1, 2, 3, 4], [4, 5])])
def mi.B5 : List Nat := [0, 1, 0, 0, 8, 31, 63]
theorem mi.Oa : iJ .any (opsOf Try.f151 5) = mi.T5 := by kernel_rfl
theorem mi.FM : jm mi.T5.2 mi.B5 = true := by kernel_rfl
theorem EC : ∀ (N : Nat) (c : ai), sz c ≤ N → N ≤ 1000000 → ∀ (P : Nat → Prop) (A : Option Addr) (cc : Nat) (w : World), Kd.V k26 26 w w.heap.size P (.slice A c.f3.length cc) c.f3 →
  Calls Try.prog 151 #[.agg #[.int .u8 c.f0, .int .i64 c.f1.f0, .int .i64 c.f1.f1, .int .i64 c.f1.f2, .int .i64 c.f1.f3, .int .i64 c.f2, .slice A c.f3.length cc]] w
   fun e w' => ∃ v : Value, e = .returned (.agg #[.int .u8 c.f0, .int .i64 c.f1.f0, .int .i64 c.f1.f1, .int .i64 c.f1.f2, .int .i64 c.f1.f3, .int .i64 c.f2, v]) ∧ Kd.N k26 26 w' w.heap.size (fun k => P k ∨ w.heap.size ≤ k) v c.f3 ∧ Below w.heap.size w w' := by
 intro N
 induction N with
 | zero => intro c h; rw [dB] at h; omega
 | succ N ih =>
  intro c hc hN P A cc w hs
  have hsz := dB c
  have hlen := ku c.f3
  have IH := ae.mk fun (k : ai) (hk : k ∈ c.f3) => ih k (by
   have : sz k ≤ dM c.f3 := by
    obtain ⟨p, q, e⟩ := List.append_of_mem hk
    rw [e, jH, b_]; omega
   omega) (by omega)
  have KI := ae.mk fun (W : World) (P' : Nat → Prop) (hV : Kd.V k26 26 W w.heap.size P' (.slice A c.f3.length cc) c.f3) => rf.calls P' A cc c.f3 c.f3 W hV (if_pos (by omega))
  have HO := ae.mk hs
  have HL := ae.mk (show c.f3.length ≤ 1000000 by omega)
  have HB := ae.mk (Below.refl w.heap.size w)
  clear ih hs hc hN hsz hlen
  obtain ⟨ck, ⟨cx, cy, cw, ch⟩, aV, l⟩ := c
  simp only [] at HO HL IH KI ⊢
  go_enter Try.func151, Try.ntmps151
  go_upto_region 1 with (first | ((with_reducible refine ay (N := 1) rfl ?_); refine aG ?hg (N := 1) ?hd (cs := #[.int .u8 ck, .int .i64 cx, .int .i64 cy, .int .i64 cw, .int .i64 ch, .int .i64 aV, .slice A l.length cc]) (t := 26) ?hr ?_; (case hd => rfl); (case hg => rfl); (case hr => (go_simp; done)); intro b3 hg U_ hbox hb; have RS := ae.mk (show w.heap.size ≤ b3 by rw [hg]; exact HB.out.size); have kM := ae.mk (ak HB.out hb); have rG := ae.mk (Kd.lH (Kd.oI HO.out b3 (by rw [hg]; exact Nat.le_refl _)) hb); clear HB HO; have HB := kM; have HO := rG; clear kM rG; have bU := ae.mk hbox; clear hb hbox hg) | ((with_reducible refine ay (N := 2) rfl ?_); refine aG ?hg (N := 2) ?hd (cs := #[.int .u8 0, .int .i64 0, .int .i64 0, .int .i64 0, .int .i64 0, .int .i64 0, .slice none 0 0]) (t := 26) ?hr ?_; (case hd => rfl); (case hg => rfl); (case hr => (go_simp; done)); intro b6 hg wb6 hbox hb; have Gb6 := ae.mk (show w.heap.size ≤ b6 by rw [hg]; exact HB.out.size); have tJ := ae.mk (show b3 ≠ b6 by rw [hg]; exact Nat.ne_of_lt (eH bU.out)); have kM := ae.mk (ak HB.out hb); have rG := ae.mk (Kd.lH (Kd.oI HO.out b6 (by rw [hg]; exact Nat.le_refl _)) hb); have iD := ae.mk (aJ bU.out hb); clear HB HO bU; have HB := kM; have HO := rG; have bU := iD; clear kM rG iD; have fJ := ae.mk hbox; clear hb hbox hg))
  have FO : _ = some (Value.slice A l.length cc) := (af bU.out 6).trans rfl
  go_upto_region 2 with (first | ((with_reducible refine kE (f := 137) rfl ?_); refine ny (some 7) rfl rfl Try.func137 (by kernel_rfl) rfl #[.slice A l.length cc] rfl (by (try simp only [List.map_toArray, List.map_cons, List.map_nil]); rfl) ?_; refine (KI.out _ _ HO.out).mono ?_; rintro e wc1 ⟨v1, rfl, ho, hb⟩; refine ⟨_, rfl, ?_⟩; have HN := ae.mk (Lj ho (eH bU.out) (eH fJ.out) HB.out.size); clear ho HO; obtain ⟨A1, c1, e1⟩ := Kd.jE HN.out; subst e1; have kM := ae.mk (ak HB.out hb); have iD := ae.mk (aJ bU.out hb); have iE := ae.mk (aJ fJ.out hb); clear HB bU fJ; have HB := kM; have bU := iD; have fJ := iE; clear kM iD iE; clear hb) | ((with_reducible refine lq (.store 24 (.tmp 8) (.tmp 7)) rfl ?_); go_loud (refine fO (w0 := w) rfl rfl 24 (.tmp 8) (.tmp 7) rfl (g := b3) (j := 6) (base := w.heap.size) #[.int .u8 ck, .int .i64 cx, .int .i64 cy, .int .i64 cw, .int .i64 ch, .int .i64 aV, .slice A1 l.length c1] (u := .slice A1 l.length c1) (bF := [.slice A1 l.length c1]) ?sA ?sX rfl ?sT ?s1 bU.out ?sJ rfl HB.out HB.out.size RS.out ?_; (case sA => rfl); (case sX => rfl); (case sT => rfl); (case s1 => (simp [Value.oneCell'])); (case sJ => (simp)); intro ws1 hbk hbb hgg; have iE := ae.mk (bP fJ.out hgg (fun e_ => absurd (Option.some.inj e_) (by exact (fun MO => tJ.out MO.symm)))); have kN := ae.mk (Kd.tY HN.out hgg (fun k_ hk e_ => absurd (Option.some.inj e_) hk.1.2)); clear fJ HN; have fJ := iE; have HN := kN; clear iE kN; clear bU HB; have bU := ae.mk hbk; have HB := ae.mk hbb; clear hbk hbb hgg)))
  clear FO
  have FO : _ = some (Value.slice A1 l.length c1) := (af bU.out 6).trans rfl
  go_wp2
  clear FO
  go_loopg [12] l.length (fun gg v22 wr => ∃ (pre rest : List ai), v22 = .int .i64 (pre.length : Int) ∧ ae (pre ++ rest = l) ∧ rest.length ≤ gg ∧ ae (Kd.N k26 26 wr w.heap.size (fun q => ((P q ∨ w.heap.size ≤ q) ∧ q ≠ b3) ∧ q ≠ b6) (.slice A1 l.length c1) l) ∧ ae (wr.heap[b3]? = some (.cells #[.int .u8 ck, .int .i64 cx, .int .i64 cy, .int .i64 cw, .int .i64 ch, .int .i64 aV, .slice A1 l.length c1] 26 (0, 0))) ∧ ae (wr.heap[b6]? = some (.cells #[.int .u8 0, .int .i64 0, .int .i64 0, .int .i64 0, .int .i64 0, .int .i64 0, .slice none 0 0] 26 (0, 0))) ∧ ae (Below w.heap.size w wr))
  case atStart => exact ⟨[], l, rfl, ⟨rfl⟩, Nat.le_refl _, HN, bU, fJ, HB⟩
  case round =>
   clear HN bU fJ HB
   obtain ⟨pre, rest, rfl, HE, hgg, HN, bU, fJ, HB⟩ := hrel
   cases rest with
   | nil =>
    have hpl : pre = l := by have := HE.out; rwa [List.append_nil] at this
    have hlt : ¬ ((pre.length : Int) < (l.length : Int)) := by rw [hpl]; omega
    clear hpl hgg
    have c30 := (af bU.out 0).trans rfl
    have c31 := (af bU.out 1).trans rfl
    have c32 := (af bU.out 2).trans rfl
    have c33 := (af bU.out 3).trans rfl
    have c34 := (af bU.out 4).trans rfl
    have c35 := (af bU.out 5).trans rfl
    have FO := (af bU.out 6).trans rfl
    go_wp2_with (((with_reducible refine lq (.store 26 (.tmp 2) (.tmp 24)) rfl ?_); go_loud (refine fO (w0 := w) rfl rfl 26 (.tmp 2) (.tmp 24) rfl (g := b6) (j := 0) (base := w.heap.size) #[.int .u8 ck, .int .i64 cx, .int .i64 cy, .int .i64 cw, .int .i64 ch, .int .i64 aV, .slice A1 l.length c1] (u := .agg #[.int .u8 ck, .int .i64 cx, .int .i64 cy, .int .i64 cw, .int .i64 ch, .int .i64 aV, .slice A1 l.length c1]) (bF := [.int .u8 ck, .int .i64 cx, .int .i64 cy, .int .i64 cw, .int .i64 ch, .int .i64 aV, .slice A1 l.length c1]) ?sA ?sX rfl ?sT ?s1 fJ.out ?sJ rfl HB.out HB.out.size Gb6.out ?_; (case sA => rfl); (case sX => rfl); (case sT => rfl); (case s1 => (simp [Value.oneCell'])); (case sJ => (simp)); intro agN hbk hbb hgg; have kN := ae.mk (Kd.tY HN.out hgg (fun k_ hk e_ => absurd (Option.some.inj e_) hk.2)); have iD := ae.mk (bP bU.out hgg (fun e_ => absurd (Option.some.inj e_) tJ.out)); clear HN bU; have HN := kN; have bU := iD; clear kN iD; clear fJ HB; have fJ := ae.mk hbk; have HB := ae.mk hbb; clear hbk hbb hgg)))
    refine bodyPost_ret (results_cell_row rfl _ _ b6 26 _ (0, 0) _ rfl fJ.out Try.underlying26 rfl (by kernel_rfl)) rfl ?_
    exact ⟨_, rfl, Kd.iM HN.out (fun q hq => hq.1.1), HB.out⟩
   | cons k rest =>
    have hk : k ∈ l := by rw [← HE.out]; simp
    have hlt : (pre.length : Int) < (l.length : Int) := by rw [← HE.out, List.length_append, List.length_cons]; omega
    have hw : wrap64 ((pre.length : Int) + 1) = ((pre ++ [k]).length : Int) := by rw [List.length_append, List.length_singleton]; unfold wrap64; have := HL.out; omega
    obtain ⟨g, cap, he, hgb, VY, _⟩ := Kd.su HN.out (by omega)
    injection he with ea en ec
    subst ea
    subst ec
    clear en
    have HGB := ae.mk hgb
    obtain ⟨ce, hcl, hM, hcc, hfr⟩ := Kd.wC HN.out z26 (pre.length : Int) (Int.natCast_nonneg _) hlt
    have hrd : l.getD (pre.length : Int).toNat z26 = k := by rw [← HE.out, Int.toNat_natCast]; simp [List.getD_eq_getElem?_getD]
    rw [hrd] at hM
    obtain ⟨ua, uc, rfl, ul, ge⟩ := mP hM
    have HV := ae.mk (show Kd.V k26 26 wr w.heap.size _ (.slice ua k.f3.length uc) k.f3 from Kd.tK ul ge)
    have HRD := ae.mk hrd
    have x0 : wr.cell? ⟨g, pre.length * 7, none⟩ = some (.int .u8 k.f0) := hcc 0 _ rfl
    have x1 : wr.cell? ⟨g, pre.length * 7 + 1, none⟩ = some (.int .i64 k.f1.f0) := hcc 1 _ rfl
    have x2 : wr.cell? ⟨g, pre.length * 7 + 2, none⟩ = some (.int .i64 k.f1.f1) := hcc 2 _ rfl
    have x3 : wr.cell? ⟨g, pre.length * 7 + 3, none⟩ = some (.int .i64 k.f1.f2) := hcc 3 _ rfl
    have x4 : wr.cell? ⟨g, pre.length * 7 + 4, none⟩ = some (.int .i64 k.f1.f3) := hcc 4 _ rfl
    have x5 : wr.cell? ⟨g, pre.length * 7 + 5, none⟩ = some (.int .i64 k.f2) := hcc 5 _ rfl
    have x6 : wr.cell? ⟨g, pre.length * 7 + 6, none⟩ = some (.slice ua k.f3.length uc) := hcc 6 _ rfl
    have HW1 := ae.mk hw
    have HK := ae.mk hk
    have kX := ae.mk hgg
    clear hcl hM hcc hfr hrd ul ge hgb VY hw hk hgg
    go_upto_region 5 with (first | ((with_reducible refine ay (N := 4) rfl ?_); refine aG ?hg (N := 4) ?hd (cs := #[.int .u8 0, .int .i64 0, .int .i64 0, .int .i64 0, .int .i64 0, .int .i64 0, .slice none 0 0]) (t := 26) ?hr ?_; (case hd => rfl); (case hg => rfl); (case hr => (go_simp; done)); intro b8 hg wb8 hbox hb; have Gb8 := ae.mk (show w.heap.size ≤ b8 by rw [hg]; exact HB.out.size); have Ej := ae.mk (show b3 ≠ b8 by rw [hg]; exact Nat.ne_of_lt (eH bU.out)); have Em := ae.mk (show b6 ≠ b8 by rw [hg]; exact Nat.ne_of_lt (eH fJ.out)); have kM := ae.mk (ak HB.out hb); have kN := ae.mk (Kd.qy (Kd.zJ HN.out b8 (by rw [hg]; exact Nat.le_refl _)) hb); have rH := ae.mk (Kd.lH (Kd.oI HV.out b8 (by rw [hg]; exact Nat.le_refl _)) hb); have iD := ae.mk (aJ bU.out hb); have iE := ae.mk (aJ fJ.out hb); clear HB HN HV bU fJ; have HB := kM; have HN := kN; have HV := rH; have bU := iD; have fJ := iE; clear kM kN rH iD iE; have Kb8 := ae.mk hbox; clear hb hbox hg) | ((with_reducible refine lq (.store 26 (.tmp 4) (.tmp 16)) rfl ?_); go_loud (refine fO (w0 := w) rfl rfl 26 (.tmp 4) (.tmp 16) rfl (g := b8) (j := 0) (base := w.heap.size) #[.int .u8 k.f0, .int .i64 k.f1.f0, .int .i64 k.f1.f1, .int .i64 k.f1.f2, .int .i64 k.f1.f3, .int .i64 k.f2, .slice ua k.f3.length uc] (u := .agg #[.int .u8 k.f0, .int .i64 k.f1.f0, .int .i64 k.f1.f1, .int .i64 k.f1.f2, .int .i64 k.f1.f3, .int .i64 k.f2, .slice ua k.f3.length uc]) (bF := [.int .u8 k.f0, .int .i64 k.f1.f0, .int .i64 k.f1.f1, .int .i64 k.f1.f2, .int .i64 k.f1.f3, .int .i64 k.f2, .slice ua k.f3.length uc]) ?sA ?sX rfl ?sT ?s1 Kb8.out ?sJ rfl HB.out HB.out.size Gb8.out ?_; (case sA => rfl); (case sX => rfl); (case sT => rfl); (case s1 => (simp [Value.oneCell'])); (case sJ => (simp)); intro WY hbk hbb hgg; have kN := ae.mk (Kd.tY HN.out hgg (fun k_ hk e_ => absurd (Option.some.inj e_) hk.2)); have rH := ae.mk (Kd.tZ HV.out hgg (fun k_ hk e_ => absurd (Option.some.inj e_) hk.2)); have iD := ae.mk (bP bU.out hgg (fun e_ => absurd (Option.some.inj e_) Ej.out)); have iE := ae.mk (bP fJ.out hgg (fun e_ => absurd (Option.some.inj e_) Em.out)); clear HN HV bU fJ; have HN := kN; have HV := rH; have bU := iD; have fJ := iE; clear kN rH iD iE; clear Kb8 HB; have Kb8 := ae.mk hbk; have HB := ae.mk hbb; clear hbk hbb hgg)))
    clear x0 x1 x2 x3 x4 x5 x6
    have q_ := ae.mk (bJ HB.out)
    clear HB
    have HB := q_
    clear q_
    have q_ := ae.mk (Kd.SA HN.out)
    clear HN
    have HN := q_
    clear q_
    have q_ := ae.mk (Kd.SK HV.out)
    clear HV
    have HV := q_
    clear q_
    have q_ := ae.mk (dS bU.out)
    clear bU
    have bU := q_
    clear q_
    have q_ := ae.mk (dS fJ.out)
    clear fJ
    have fJ := q_
    clear q_
    have q_ := ae.mk (dS Kb8.out)
    clear Kb8
    have Kb8 := q_
    clear q_
    refine jL (n := 7) (S := fun w' => w'.heap[b3]? = some (.cells #[.int .u8 ck, .int .i64 cx, .int .i64 cy, .int .i64 cw, .int .i64 ch, .int .i64 aV, .slice (some ⟨g, 0, none⟩) l.length c1] 26 (0, 0)) ∧ w'.heap[b8]? = some (.cells #[.int .u8 k.f0, .int .i64 k.f1.f0, .int .i64 k.f1.f1, .int .i64 k.f1.f2, .int .i64 k.f1.f3, .int .i64 k.f2, .slice ua k.f3.length uc] 26 (0, 0))) (ds := [6]) #[false, false, false, false, false, false, false] (by kernel_rfl) rfl rfl ⟨bU.out, Kb8.out⟩ (fun hHeld => ?_); refine fP mi.Oa mi.FM (fun au fE => ?_)
    generalize WY.drew = wd at HB HN HV bU fJ Kb8 hHeld ⊢
    refine vV (i := 0) (N := some 17) (v := ?_) (a' := ?_) #[true, false, false, false, false, false, false] rfl rfl (sD au.out (by kernel_rfl)) (fun _ _ _ h => h) (Or.inl ⟨by rfl, ?_⟩) ?_ ?_
    rotate_left
    ·intro w'; go_simp; with_reducible rfl
    rotate_left
    ·simp only [Act.put, List.setIfInBounds_toArray, List.set_cons_zero, List.set_cons_succ, lU, lT]
     rfl
    refine Bd (i := 1) (N := some 18) (v := ?_) (a' := ?_) #[true, true, false, false, false, false, false] rfl rfl (yu au.out fE.out (by kernel_rfl)) (fun _ _ _ h => h) (Or.inl ⟨by rfl, ?_⟩) hHeld ?_ ?_
    rotate_left
    ·intro w' hs_
     have c := (af hs_.1 6).trans rfl
     go_simp; with_reducible rfl
    rotate_left
    ·simp only [Act.put, List.setIfInBounds_toArray, List.set_cons_zero, List.set_cons_succ, lU, lT]
     rfl
    refine vV (i := 2) (N := some 19) (v := ?_) (a' := ?_) #[true, true, true, false, false, false, false] rfl rfl (sD au.out (by kernel_rfl)) (fun _ _ _ h => h) (Or.inl ⟨by rfl, ?_⟩) ?_ ?_
    rotate_left
    ·intro w'; go_simp; with_reducible rfl
    rotate_left
    ·simp only [Act.put, List.setIfInBounds_toArray, List.set_cons_zero, List.set_cons_succ, lU, lT]
     rfl
    refine Bd (i := 3) (N := some 20) (v := ?_) (a' := ?_) #[true, true, true, true, false, false, false] rfl rfl (yu au.out fE.out (by kernel_rfl)) (fun _ _ _ h => h) (Or.inl ⟨by rfl, ?_⟩) hHeld ?_ ?_
    rotate_left
    ·intro w' hs_
     have c0 := (af hs_.2 0).trans rfl
     have c1 := (af hs_.2 1).trans rfl
     have c2 := (af hs_.2 2).trans rfl
     have c3 := (af hs_.2 3).trans rfl
     have c4 := (af hs_.2 4).trans rfl
     have c5 := (af hs_.2 5).trans rfl
     have c6 := (af hs_.2 6).trans rfl
     go_simp; with_reducible rfl
    rotate_left
    ·simp only [Act.put, List.setIfInBounds_toArray, List.set_cons_zero, List.set_cons_succ, lU, lT]
     rfl
    refine Wq (i := 4) (N := some 21) #[true, true, true, true, true, false, false] rfl rfl (zo au.out (by kernel_rfl)) (by decide) (fun K hK => ?_)
    refine zZ Try.func151 (by kernel_rfl) rfl #[.agg #[.int .u8 k.f0, .int .i64 k.f1.f0, .int .i64 k.f1.f1, .int .i64 k.f1.f2, .int .i64 k.f1.f3, .int .i64 k.f2, .slice ua k.f3.length uc]] (by rfl) rfl rfl (by (try simp only [List.map_toArray, List.map_cons, List.map_nil]); rfl) ?_
    refine (IH.out k HK.out _ ua uc wd HV.out).mono ?_
    rintro e wk ⟨v, rfl, ho, hb⟩
    refine ⟨_, rfl, ?_⟩
    have HE3 := ae.mk (eH bU.out)
    have HE6 := ae.mk (eH fJ.out)
    have HE8 := ae.mk (eH Kb8.out)
    have HEG := ae.mk (Kd.Bq HN.out g rfl)
    have HS := ae.mk HB.out.size
    have kM := ae.mk (ak HB.out hb); have kN := ae.mk (Kd.qy HN.out hb); have rH := ae.mk (Kd.lH HV.out hb); have iD := ae.mk (aJ bU.out hb); have iE := ae.mk (aJ fJ.out hb); have G5 := ae.mk (aJ Kb8.out hb); clear HB HN HV bU fJ Kb8; have HB := kM; have HN := kN; have HV := rH; have bU := iD; have fJ := iE; have Kb8 := G5; clear kM kN rH iD iE G5
    clear HV hb
    obtain ⟨Av, cv, ev⟩ := Kd.jE ho
    subst ev
    have qH := ae.mk ho
    clear ho
    refine hK.out _ _ ⟨bU.out, Kb8.out⟩ (fun hHeld => ?_)
    clear hK K
    refine qQ (a' := ?_) ?_ ?_
    rotate_left
    ·show Act.put _ (some 21) _ = _
     simp only [Act.put, List.setIfInBounds_toArray, List.set_cons_zero, List.set_cons_succ, lU, lT]
     rfl
    refine vV (i := 5) (N := some 22) (v := ?_) (a' := ?_) #[true, true, true, true, true, true, false] rfl rfl (sD au.out (by kernel_rfl)) (fun _ _ _ h => h) (Or.inl ⟨by rfl, ?_⟩) ?_ ?_
    rotate_left
    ·intro w'; go_simp; with_reducible rfl
    rotate_left
    ·simp only [Act.put, List.setIfInBounds_toArray, List.set_cons_zero, List.set_cons_succ, lU, lT]
     rfl
    refine QR (i := 6) (N := none) #[true, true, true, true, true, true, true] rfl rfl (zo au.out (by kernel_rfl)) (by decide) (fun K hK => ?_)
    obtain ⟨ce, hcl, hM, hcc, hfr⟩ := Kd.wC HN.out z26 (pre.length : Int) (Int.natCast_nonneg _) hlt
    rw [HRD.out] at hM
    obtain ⟨ub, ud, rfl, _, _⟩ := mP hM
    have x0 : wk.cell? ⟨g, pre.length * 7, none⟩ = some (.int .u8 k.f0) := hcc 0 _ rfl
    have f0 : wk.frozen? ⟨g, pre.length * 7, none⟩ = false := hfr 0
    have x1 : wk.cell? ⟨g, pre.length * 7 + 1, none⟩ = some (.int .i64 k.f1.f0) := hcc 1 _ rfl
    have f1 : wk.frozen? ⟨g, pre.length * 7 + 1, none⟩ = false := hfr 1
    have x2 : wk.cell? ⟨g, pre.length * 7 + 2, none⟩ = some (.int .i64 k.f1.f1) := hcc 2 _ rfl
    have f2 : wk.frozen? ⟨g, pre.length * 7 + 2, none⟩ = false := hfr 2
    have x3 : wk.cell? ⟨g, pre.length * 7 + 3, none⟩ = some (.int .i64 k.f1.f2) := hcc 3 _ rfl
    have f3 : wk.frozen? ⟨g, pre.length * 7 + 3, none⟩ = false := hfr 3
    have x4 : wk.cell? ⟨g, pre.length * 7 + 4, none⟩ = some (.int .i64 k.f1.f3) := hcc 4 _ rfl
    have f4 : wk.frozen? ⟨g, pre.length * 7 + 4, none⟩ = false := hfr 4
    have x5 : wk.cell? ⟨g, pre.length * 7 + 5, none⟩ = some (.int .i64 k.f2) := hcc 5 _ rfl
    have f5 : wk.frozen? ⟨g, pre.length * 7 + 5, none⟩ = false := hfr 5
    have x6 : wk.cell? ⟨g, pre.length * 7 + 6, none⟩ = some (.slice ub k.f3.length ud) := hcc 6 _ rfl
    have f6 : wk.frozen? ⟨g, pre.length * 7 + 6, none⟩ = false := hfr 6
    have iG : ∀ q, (((fun q => ((P q ∨ w.heap.size ≤ q) ∧ q ≠ b3) ∧ q ≠ b6) q ∧ q ≠ g) ∧ q ≠ b8) ∨ wd.heap.size ≤ q → ((fun q => ((P q ∨ w.heap.size ≤ q) ∧ q ≠ b3) ∧ q ≠ b6) q ∧ q ≠ b8) ∧ q ≠ g := fun q hq => hq.elim (fun h => ⟨⟨h.1.1, h.2⟩, h.1.2⟩) (fun hn => ⟨⟨⟨⟨.inr (Nat.le_trans HS.out hn), Nat.ne_of_gt (Nat.lt_of_lt_of_le HE3.out hn)⟩, Nat.ne_of_gt (Nat.lt_of_lt_of_le HE6.out hn)⟩, Nat.ne_of_gt (Nat.lt_of_lt_of_le HE8.out hn)⟩, Nat.ne_of_gt (Nat.lt_of_lt_of_le HEG.out hn)⟩)
    have JD := o8 wk _ k (A6 := Av) (c6 := cv) (Kd.jo qH.out).2.1 (Kd.Xi qH.out)
    have hseg := Kd.Qm HN.out (pre.length : Int) (Int.natCast_nonneg _) hlt (bF := [.int .u8 k.f0, .int .i64 k.f1.f0, .int .i64 k.f1.f1, .int .i64 k.f1.f2, .int .i64 k.f1.f3, .int .i64 k.f2, .slice Av k.f3.length cv]) (j := 0) hcl hcc (show 0 + 7 ≤ 7 from by decide) (x' := k) JD iG
    rw [show l.set (pre.length : Int).toNat k = l from by rw [← HE.out, Int.toNat_natCast]; simp] at hseg
    obtain ⟨w9, BV⟩ : ∃ w9, w9 = wk.setCells g ((pre.length : Int).toNat * 7 + 0) [.int .u8 k.f0, .int .i64 k.f1.f0, .int .i64 k.f1.f1, .int .i64 k.f1.f2, .int .i64 k.f1.f3, .int .i64 k.f2, .slice Av k.f3.length cv] := ⟨_, rfl⟩
    replace hseg : Kd.N k26 26 w9 w.heap.size (fun q => (fun q => ((P q ∨ w.heap.size ≤ q) ∧ q ≠ b3) ∧ q ≠ b6) q ∧ q ≠ b8) (.slice (some ⟨g, 0, none⟩) l.length c1) l ∧ wk.grownBy w9 (some g) := by rw [BV]; exact hseg
    have Sj := ae.mk (Kd.SB hseg.1)
    have KJ := ae.mk (grown_below HB.out hseg.2 HGB.out HB.out.size)
    have wW := ae.mk (bP bU.out hseg.2 (fun e_ => (HN.out.1 g rfl).1.1.2 (Option.some.inj e_).symm))
    have Lc := ae.mk (bP fJ.out hseg.2 (fun e_ => (HN.out.1 g rfl).1.2 (Option.some.inj e_).symm))
    clear hseg JD iG hcl hcc hfr hM HN HB bU fJ Kb8 hHeld qH
    refine Hl (w1 := w9) (by rfl) rfl ?_ ?_
    ·rw [BV]; go_simp; rfl
    refine hK.out _ _ ?_
    clear hK K x0 x1 x2 x3 x4 x5 x6 f0 f1 f2 f3 f4 f5 f6 BV
    refine lh (jb au.out (by kernel_rfl)) ?_
    have hw := HW1.out
    go_wp2
    go_roundg rest.length
    case measure => exact Nat.lt_of_lt_of_le (Nat.lt_succ_self _) kX.out
    case rel => exact ⟨pre ++ [k], rest, (by rw [hw]), ⟨by rw [List.append_assoc]; exact HE.out⟩, Nat.le_refl _, Sj, wW, Lc, KJ⟩
def mi.f (a0 a1 a2 a3 a4 a5 : Int) (l : List ai) : Option (Int × Int × Int × Int × Int × Int × List ai) := if sz ⟨a0, ⟨a1, a2, a3, a4⟩, a5, l⟩ ≤ 1000000 then some (a0, a1, a2, a3, a4, a5, l) else none
def wM.T6 : Bool × List (List Nat × List Nat) := (true, [([], []), ([0], [0]), ([], []), ([1, 2], [1, 2]), ([3], [3]), ([], []), ([], []), ([6], [6]), ([4, 5, 7], [4, 5, 7]), ([8], [8]), ([9], [9]), ([9], [9]), ([], []), ([12, 10, 8, 0, 1, 2, 3, 4, 5, 6, 7, 8, 9, 10, 12], [10, 12]), ([11, 13, 0, 1, 2, 3, 4, 5, 6, 7, 8, 9, 10, 11, 12, 13], [11])])
def wM.B6 : List Nat := [0, 1, 0, 7, 15, 0, 0, 64, 255, 511, 1023, 1023, 0, 6143, 16383]
theorem wM.tab6 : iJ .any (opsOf Try.f102 6) = wM.T6 := by kernel_rfl
theorem wM.FN : jm wM.T6.2 wM.B6 = true := by kernel_rfl
def uI (kid : ai) : List Int → ai → Option ai
 | [], _ => some kid
 | i :: is, c => if i < 0 ∨ i ≥ (c.f3.length : Int) then none else match uI kid is (aj c.f3 i) with
  | none => none
  | some k => some ⟨c.f0, c.f1, c.f2, c.f3.set i.toNat k⟩
abbrev Vj (w : World) (P : Nat → Prop) : Option ai → Ending → World → Prop
 | none, e, w' => e = .returned (.tuple #[.agg #[.int .u8 0, .int .i64 0, .int .i64 0, .int .i64 0, .int .i64 0, .int .i64 0, .slice none 0 0], .bool false]) ∧ Below w.heap.size w w'
 | some z, e, w' => ∃ A c, e = .returned (.tuple #[.agg #[.int .u8 z.f0, .int .i64 z.f1.f0, .int .i64 z.f1.f1, .int .i64 z.f1.f2, .int .i64 z.f1.f3, .int .i64 z.f2, .slice A z.f3.length c], .bool true]) ∧ Kd.N k26 26 w' w.heap.size (fun k => P k ∨ w.heap.size ≤ k) (.slice A z.f3.length c) z.f3 ∧ Below w.heap.size w w'
section
variable {c x z : ai} {path p L : _} {en id : Int}
end
def qI (p : List Int) (d : Nat) (z : ai) : Nat := (mn (rd p (d : Int)) ((z.f3.length : Int) - 2)).toNat
structure vZ (ax id : Int) (c : ai) (p : List Int) (d : Nat) (z : ai) (q : Nat) : Prop where
 xA : bW c = true
 hax : ax = 1 ∨ ax = 2
 find : dI id c = some p
 frd : frD ax c p = some d
 fr : HY ax c p d z q
 zt : bW z = true
theorem vZ.n {ax id : Int} {c : ai} {p : List Int} {d : Nat} {z : ai} {q : Nat} (h : vZ ax id c p d z q) : frN ax id c = 0 := by
 unfold frN
 rw [if_pos ⟨h.xA, h.hax⟩, h.find]
 simp only [h.frd]
theorem vZ.q {ax id : Int} {c : ai} {p : List Int} {d : Nat} {z : ai} {q : Nat} (h : vZ ax id c p d z q) : qI p d z = q := by
 unfold qI
 rw [← h.fr.hq]
 exact Int.toNat_natCast _
theorem vZ.good {ax id : Int} {c : ai} {p : List Int} {d : Nat} {z : ai} {q : Nat} (h : vZ ax id c p d z q) : xn ax (aI ax z.f1 - ((z.f3.length : Int) - 1)) z.f3 := QF h.hax h.zt h.fr.al
theorem vZ.zs {ax id : Int} {c : ai} {p : List Int} {d : Nat} {z : ai} {q : Nat} (h : vZ ax id c p d z q) : 1 + dM z.f3 ≤ sz c ∧ sz c ≤ 20000 := by
 have h1 := OV _ _ _ h.fr.at'
 have h2 := dB z
 exact ⟨by omega, ou (lS h.xA)⟩
end Go.Proofs.Ytfdmfgaiblfbhaa.P
namespace Go.Proofs.Ytfdmfgaiblfbhaa.P
open Go.RowKit Go.Proofs.ag.aA Go.Proofs.ag.a_ Go.Proofs.ag.bG
attribute [local go_sem] jf jr jG jR iV iW jB jC
def afr.f (az : Int) (aN : Int) (aH : Int) (aK : Int) (a1 : Int) : Option (Int × Int × Int × Int × Int × Int × (List (ai))) := some (1, az, aN, aH, aK, a1, ([] : List (ai)))
mutual
def fF.l0 : Nat → Int → List (ai) → Int → Int → Option (Int)
 | 0, _, _, _, _ => none
 | k + 1, x3, x8, x9, x10 => if x10 < x9 then (if 0 ≤ x10 then (if x10 < (x8.length : Int) then ((fF.f k ((aj x8 x10).f3)).bind fun N_ => (fF.l0 k (wrap64 (x3 + N_)) x8 x9 (wrap64 (x10 + 1)))) else (none)) else (none)) else (some x3)
def fF.f : Nat → List (ai) → Option (Int)
 | 0, _ => none
 | k + 1, l0 => fF.l0 k (l0.length : Int) l0 (l0.length : Int) 0
end
theorem fF.calls (k : Nat) : ∀ (A0 : Option Addr) (c0 : Nat) (l0 : List (ai)) (r : Int) (w : World) (hr0 : Kd.C k26 w A0 l0.length l0) (hc0 : l0.length ≤ c0) (h : fF.f k l0 = some r),
  Calls Try.prog 82 #[.slice A0 l0.length c0] w fun e w' => e = .returned (.int .i64 r) ∧ Below w.heap.size w w' := by
 induction k using Nat.strongRecOn with
 | _ k ih =>
 intro A0 c0 l0 r w hr0 hc0 h
 cases k with
 | zero => exact absurd h (by simp [fF.f])
 | succ k =>
 simp only [fF.f] at h
 have IJ := Try.underlying26
 have HR0 := ae.mk hr0
 have Xb := ae.mk hc0
 clear hr0 hc0
 have HB := ae.mk (Below.refl w.heap.size w)
 have H : (fF.l0 k (l0.length : Int) l0 (l0.length : Int) 0) = some r := h
 clear h
 have H' := ae.mk H
 clear H
 go_enter Try.func82, Try.ntmps82
 go_wp2
 go_loopg [3, 10] k (fun kq v3 v10 w' => ∃ (jI : Int) (aY : Int), v3 = .int .i64 jI ∧ v10 = .int .i64 aY ∧ ae (fF.l0 kq jI l0 (l0.length : Int) aY = some r) ∧ ae (kq ≤ k) ∧ ae (Below w.heap.size w w'))
 case atStart => exact ⟨((l0.length : Int)), (0), (by first | rfl | (simp; done) | (simp [*]; done)), (by first | rfl | (simp; done) | (simp [*]; done)), H', ⟨Nat.le_refl _⟩, ⟨by repeat (first | (with_reducible first | exact HB.out | apply aW | apply aQ | apply bJ) | exact HB.out)⟩⟩
 case round =>
  clear H'
  obtain ⟨jI, aY, rfl, rfl, HA, pI, HB⟩ := hrel
  cases gk with
  | zero => exact absurd HA.out (by simp [fF.l0])
  | succ k1 =>
   have H := HA.out
   clear HA
   simp only [fF.l0] at H
   by_cases c2 : aY < (l0.length : Int)
   ·rw [if_pos c2] at H
    have Ew : decide (aY < (l0.length : Int)) = true := decide_eq_true c2
    clear c2
    by_cases c3 : 0 ≤ aY
    ·rw [if_pos c3] at H
     have uT : decide (0 ≤ aY) = true := decide_eq_true c3
     clear c3
     by_cases c4 : aY < (l0.length : Int)
     ·rw [if_pos c4] at H
      have uU : decide (aY < (l0.length : Int)) = true := decide_eq_true c4
      clear c4
      replace H := Option.bind_eq_some_iff.mp H
      obtain ⟨N_, A50, H⟩ := H
      replace H : (fF.l0 k1 (wrap64 (jI + N_)) l0 (l0.length : Int) (wrap64 (aY + 1))) = some r := H
      have A5 := ae.mk A50
      clear A50
      have H' := ae.mk H
      clear H
      have Wx : 0 ≤ (aY : Int) := of_decide_eq_true (by first | (with_reducible assumption) | assumption)
      have WC : aY < (l0.length : Int) := of_decide_eq_true (by first | (with_reducible assumption) | assumption)
      obtain ⟨ajX, RP, SY, aga, IW, IX, IY, IZ, I4, I5, I7, PK, PH⟩ := n_ HR0.out aY Wx WC
      cases aga
      replace IW := (HB.out.cell (World.block_lt_of_cell? w _ IW)).trans IW
      replace IX := (HB.out.cell (World.block_lt_of_cell? w _ IX)).trans IX
      replace IY := (HB.out.cell (World.block_lt_of_cell? w _ IY)).trans IY
      replace IZ := (HB.out.cell (World.block_lt_of_cell? w _ IZ)).trans IZ
      replace I4 := (HB.out.cell (World.block_lt_of_cell? w _ I4)).trans I4
      replace I5 := (HB.out.cell (World.block_lt_of_cell? w _ I5)).trans I5
      replace I7 := (HB.out.cell (World.block_lt_of_cell? w _ I7)).trans I7
      have X4 := ae.mk PH
      have X0 := ae.mk PK
      clear PH PK
      replace Wx := eq_true Wx
      replace WC := eq_true WC
      go_wp2_with (first | ((with_reducible refine ay (N := 5) rfl ?_); refine aG ?hg (N := 5) ?hd (cs := #[.int .u8 0, .int .i64 0, .int .i64 0, .int .i64 0, .int .i64 0, .int .i64 0, .slice none 0 0]) (t := 26) ?hr ?_; (case hd => rfl); (case hg => rfl); (case hr => first | (go_simp; done) | (go_simp; rfl)); intro vO hg w6 hbox hb; have pM := ae.mk (ak (by repeat (first | (with_reducible first | exact HB.out | apply aW | apply aQ | apply bJ) | exact HB.out)) hb); have pO := ae.mk (hbox); have rF := ae.mk ((by rw [hg]; exact (dC (by repeat (first | (with_reducible first | exact HB.out | apply aW | apply aQ | apply bJ) | exact HB.out))) : w.heap.size ≤ vO)); have ui := ae.mk ((by rw [hg]; exact (dC (by repeat (first | (with_reducible first | exact HB.out | apply aW | apply aQ | apply bJ) | exact HB.out))) : w.heap.size ≤ vO)); clear HB; have HB := pM; have nY := pO; have ajT := rF; have Qe := ui; clear pM pO rF ui; clear hb hbox hg; have TL : w6.cell? ⟨vO, 0, none⟩ = some (.int .u8 0) := (af nY.out 0).trans rfl; have TM : w6.cell? ⟨vO, 1, none⟩ = some (.int .i64 0) := (af nY.out 1).trans rfl; have TN : w6.cell? ⟨vO, 2, none⟩ = some (.int .i64 0) := (af nY.out 2).trans rfl; have TP : w6.cell? ⟨vO, 3, none⟩ = some (.int .i64 0) := (af nY.out 3).trans rfl; have ajb : w6.cell? ⟨vO, 4, none⟩ = some (.int .i64 0) := (af nY.out 4).trans rfl; have ajc : w6.cell? ⟨vO, 5, none⟩ = some (.int .i64 0) := (af nY.out 5).trans rfl; have ajd : w6.cell? ⟨vO, 6, none⟩ = some (.slice none 0 0) := (af nY.out 6).trans rfl; have Ub := ah nY.out 0; have Uc := ah nY.out 1; have Ud := ah nY.out 2; have Ue := ah nY.out 3; have ajl := ah nY.out 4; have ajm := ah nY.out 5; have ajn := ah nY.out 6) | ((with_reducible refine kE (f := 82) rfl ?_); refine ny (some 17) rfl rfl Try.func82 (by kernel_rfl) rfl #[.slice RP ((aj l0 aY).f3).length SY] rfl (by (try simp only [List.map_toArray, List.map_cons, List.map_nil]); first | done | rfl | (simp only [List.length_drop, List.length_take]; rfl)) ?_; (with_reducible refine (ih k1 (by have := pI.out; omega) _ _ ((aj l0 aY).f3) N_ _ ?ql ?uN A5.out).mono ?_); (case ql => exact Kd.dL X4.out (by repeat (first | (with_reducible first | exact HB.out | apply aW | apply aQ | apply bJ | refine gG ?_ Qe.out) | exact HB.out))); (case uN => exact X0.out); rintro e w8 ⟨rfl, hb⟩; refine ⟨_, rfl, ?_⟩; have pM := ae.mk (aJ (g := vO) (o := .cells #[.int .u8 ((aj l0 aY).f0), .int .i64 ((aj l0 aY).f1.f0), .int .i64 ((aj l0 aY).f1.f1), .int .i64 ((aj l0 aY).f1.f2), .int .i64 ((aj l0 aY).f1.f3), .int .i64 ((aj l0 aY).f2), .slice RP ((aj l0 aY).f3).length SY] 26 (0, 0)) (by (with_reducible repeat (first | refine ed ?_ _ | refine dS ?_ | refine d_ ?_ _)); refine dP (cs := #[.int .u8 ((aj l0 aY).f0), .int .i64 ((aj l0 aY).f1.f0), .int .i64 ((aj l0 aY).f1.f1), .int .i64 ((aj l0 aY).f1.f2), .int .i64 ((aj l0 aY).f1.f3), .int .i64 ((aj l0 aY).f2), .slice none 0 0]) ?_ 6 _ rfl; (with_reducible repeat (first | refine ed ?_ _ | refine dS ?_ | refine d_ ?_ _)); refine dP (cs := #[.int .u8 ((aj l0 aY).f0), .int .i64 ((aj l0 aY).f1.f0), .int .i64 ((aj l0 aY).f1.f1), .int .i64 ((aj l0 aY).f1.f2), .int .i64 ((aj l0 aY).f1.f3), .int .i64 0, .slice none 0 0]) ?_ 5 _ rfl; (with_reducible repeat (first | refine ed ?_ _ | refine dS ?_ | refine d_ ?_ _)); refine dP (cs := #[.int .u8 ((aj l0 aY).f0), .int .i64 ((aj l0 aY).f1.f0), .int .i64 ((aj l0 aY).f1.f1), .int .i64 ((aj l0 aY).f1.f2), .int .i64 0, .int .i64 0, .slice none 0 0]) ?_ 4 _ rfl; (with_reducible repeat (first | refine ed ?_ _ | refine dS ?_ | refine d_ ?_ _)); refine dP (cs := #[.int .u8 ((aj l0 aY).f0), .int .i64 ((aj l0 aY).f1.f0), .int .i64 ((aj l0 aY).f1.f1), .int .i64 0, .int .i64 0, .int .i64 0, .slice none 0 0]) ?_ 3 _ rfl; (with_reducible repeat (first | refine ed ?_ _ | refine dS ?_ | refine d_ ?_ _)); refine dP (cs := #[.int .u8 ((aj l0 aY).f0), .int .i64 ((aj l0 aY).f1.f0), .int .i64 0, .int .i64 0, .int .i64 0, .int .i64 0, .slice none 0 0]) ?_ 2 _ rfl; (with_reducible repeat (first | refine ed ?_ _ | refine dS ?_ | refine d_ ?_ _)); refine dP (cs := #[.int .u8 ((aj l0 aY).f0), .int .i64 0, .int .i64 0, .int .i64 0, .int .i64 0, .int .i64 0, .slice none 0 0]) ?_ 1 _ rfl; (with_reducible repeat (first | refine ed ?_ _ | refine dS ?_ | refine d_ ?_ _)); refine dP (cs := #[.int .u8 0, .int .i64 0, .int .i64 0, .int .i64 0, .int .i64 0, .int .i64 0, .slice none 0 0]) ?_ 0 _ rfl; (with_reducible repeat (first | refine ed ?_ _ | refine dS ?_ | refine d_ ?_ _)); exact nY.out) hb); have pO := ae.mk (ak (by repeat (first | (with_reducible first | exact HB.out | apply aW | apply aQ | apply bJ | refine gG ?_ Qe.out) | exact HB.out)) hb); clear nY; clear HB; have nY := pM; have HB := pO; clear pM pO; (try clear hb); (try clear hb2); (try clear hk); (try clear hi)))
      go_roundg k1
      case measure => have := pI.out; omega
      case rel => exact ⟨(wrap64 (jI + N_)), (wrap64 (aY + 1)), (by first | rfl | (simp; done) | (simp [*]; done)), (by first | rfl | (simp; done) | (simp [*]; done)), H', ⟨by have := pI.out; omega⟩, ⟨by repeat (first | (with_reducible first | exact HB.out | apply aW | apply aQ | apply bJ | refine gG ?_ Qe.out) | exact HB.out)⟩⟩
     ·rw [if_neg c4] at H
      exact absurd H (by simp)
    ·rw [if_neg c3] at H
     exact absurd H (by simp)
   ·rw [if_neg c2] at H
    have Ew : decide (aY < (l0.length : Int)) = false := decide_eq_false c2
    clear c2
    obtain rfl := Option.some.inj H
    go_wp2
    go_ret
    exact ⟨by first | rfl | (simp [kZ, lg] <;> rfl) | (simp [*, kZ, lg] <;> rfl), by repeat (first | (with_reducible first | exact HB.out | apply aW | apply aQ | apply bJ) | exact HB.out)⟩
end Go.Proofs.Ytfdmfgaiblfbhaa.P
namespace Go.Proofs.Ytfdmfgaiblfbhaa.P
open Go.RowKit Go.Proofs.ag.aA Go.Proofs.ag.a_ Go.Proofs.ag.bG
theorem MH : ∀ (N : Nat) (l : List ai), dM l ≤ N → N ≤ 1048576000 → Ev (fun k => fF.f k l) (dM l : Int) := by
 intro N
 induction N with
 | zero =>
  intro l h _
  cases l with
  | nil =>
   refine ⟨2, fun k hk => ?_⟩
   obtain ⟨m, rfl⟩ : ∃ m, k = m + 2 := ⟨k - 2, by omega⟩
   simp [fF.f, fF.l0, lW]
  | cons x xs => rw [b_, dB] at h; omega
 | succ N ih =>
  intro l hl hN
  have hlen := ku l
  have key : ∀ (rest pre : List ai), pre ++ rest = l → Ev (fun k => fF.l0 k ((l.length : Int) + ((dM pre : Int) - (pre.length : Int))) l (l.length : Int) (pre.length : Int)) (dM l : Int) := by
   intro rest
   induction rest with
   | nil =>
    intro pre hp
    rw [List.append_nil] at hp
    refine Ev.step (f := fun _ => some (dM l : Int)) (fun k => ?_) (Ev.now _)
    simp only [fF.l0]
    rw [if_neg (by rw [hp]; omega), hp]
    congr 1
    omega
   | cons x xs ihr =>
    intro pre hp
    have hs := dB x
    have hlt : (pre.length : Int) < (l.length : Int) := by rw [← hp, List.length_append, List.length_cons]; omega
    have hsum : dM l = dM pre + (sz x + dM xs) := by rw [← hp, jH, b_]
    have hpl := ku pre
    have e2 := ihr (pre ++ [x]) (by rw [List.append_assoc]; exact hp)
    have hr : aj l (pre.length : Int) = x := by rw [← hp]; exact mV pre x xs
    have hu : wrap64 ((pre.length : Int) + 1) = ((pre ++ [x]).length : Int) := DV pre x xs (by rw [hp]; omega)
    have hpn : dM (pre ++ [x]) = dM pre + sz x := by rw [jH, b_, lW]; omega
    have hw : wrap64 ((l.length : Int) + ((dM pre : Int) - (pre.length : Int)) + (dM x.f3 : Int)) = (l.length : Int) + ((dM (pre ++ [x]) : Int) - ((pre ++ [x]).length : Int)) := by
     rw [wq (by omega) (by omega), hpn, List.length_append, List.length_singleton]
     omega
    refine Ev.step (f := fun k => (fF.f k x.f3).bind fun t => fF.l0 k (wrap64 ((l.length : Int) + ((dM pre : Int) - (pre.length : Int)) + t)) l (l.length : Int) ((pre ++ [x]).length : Int)) (fun k => ?_) (Ev.bind (ih x.f3 (by omega) (by omega)) ?_)
    ·simp only [fF.l0]
     rw [if_pos hlt, if_pos (by omega), if_pos hlt, hr, hu]
    ·rw [hw]
     exact e2
  have e := key l [] rfl
  rw [lW] at e
  refine Ev.step (fun k => ?_) e
  simp only [fF.f]
  rw [show (l.length : Int) + (((0 : Nat) : Int) - (([] : List ai).length : Int)) = (l.length : Int) by simp]
  rfl
def xE.T2 : Bool × List (List Nat × List Nat) := (true, [([], []), ([], []), ([1], [1]), ([], []), ([3, 2], [3]), ([2, 4], [2, 4]), ([0, 5], [0, 5]), ([], []), ([7, 6, 4, 0, 1, 2, 3, 4, 5, 6, 7], [6, 7])])
def xE.B2 : List Nat := [0, 0, 2, 0, 14, 30, 63, 0, 255]
theorem xE.WV : iJ .any (opsOf Try.f75 2) = xE.T2 := by kernel_rfl
theorem xE.Qv : jm xE.T2.2 xE.B2 = true := by kernel_rfl
def XH.f : Option Bool := some true
def aeQ.T6 : Bool × List (List Nat × List Nat) := (true, [([], []), ([0], [0]), ([], []), ([1, 2], [1, 2]), ([3], [3]), ([], []), ([5], [5]), ([], []), ([6, 7], [6, 7]), ([8], [8]), ([4, 9], [4, 9]), ([10], [10])])
def aeQ.B6 : List Nat := [0, 1, 0, 7, 15, 0, 32, 0, 224, 480, 1023, 2047]
def AtN (w : World) (P : Nat → Prop) : Option ai → Ending → World → Prop
 | none, e, w' => ∃ A2 c2, e = .returned (.tuple #[.agg #[.int .u8 0, .int .i64 0, .int .i64 0, .int .i64 0, .int .i64 0, .int .i64 0, .slice A2 0 c2], .bool false]) ∧ Kd.N k26 26 w' w.heap.size (fun k => P k ∨ w.heap.size ≤ k) (.slice A2 0 c2) [] ∧ Below w.heap.size w w'
 | some z, e, w' => ∃ A2 c2, e = .returned (.tuple #[.agg #[.int .u8 z.f0, .int .i64 z.f1.f0, .int .i64 z.f1.f1, .int .i64 z.f1.f2, .int .i64 z.f1.f3, .int .i64 z.f2, .slice A2 z.f3.length c2], .bool true]) ∧ Kd.N k26 26 w' w.heap.size (fun k => P k ∨ w.heap.size ≤ k) (.slice A2 z.f3.length c2) z.f3 ∧ Below w.heap.size w w'
theorem afY (c : ai) (path : List Int) (r : Option ai) (hr : iU c path = r) (hp : path.length ≤ 1048576) (hc : sz c ≤ 1000000) (b : Nat) (P : Nat → Prop) (A : Option Addr) (cc : Nat) (B : Option Addr) (cb : Nat) (w : World) (hv : Kd.V k26 26 w b P (.slice A c.f3.length cc) c.f3) (hi : Kd.C (Kd.int .i64) w B path.length path) :
  Calls Try.prog 91 #[.agg #[.int .u8 c.f0, .int .i64 c.f1.f0, .int .i64 c.f1.f1, .int .i64 c.f1.f2, .int .i64 c.f1.f3, .int .i64 c.f2, .slice A c.f3.length cc], .slice B path.length cb] w (AtN w P r) := by
 have S := ae.mk (St.start (ts := [(.slice A c.f3.length cc, c.f3)]) (b0 := w.heap.size) (w := w) (P := P) (fun t ht => by rw [List.mem_singleton.1 ht]; exact fC hv))
 have HI := ae.mk hi
 have nP := ae.mk hp
 have HZ := ae.mk hc
 have HR := ae.mk hr
 clear hi hp hc hr hv
 go_enter Try.func91, Try.ntmps91
 go_wp2_with (first
  | (refine boxS 2 _ 26 S ?_; clear S; intro b2 fH S)
  | (refine boxS 4 _ 26 S ?_; clear S; intro b4 ik S)
  | fail)
 go_loopg [10] path.length (fun gg v10 wr => ∃ (pre rest : List Int) (z : ai) (Az : Option Addr) (cz : Nat), v10 = .int .i64 (pre.length : Int) ∧ ae (pre ++ rest = path) ∧ ae (iU z rest = r) ∧ ae (sz z ≤ 1000000) ∧ rest.length ≤ gg ∧ ae (St w P [(some b4, .cells #[.int .u8 0, .int .i64 0, .int .i64 0, .int .i64 0, .int .i64 0, .int .i64 0, .slice none 0 0] 26 (0, 0)), (some b2, .cells #[.int .u8 z.f0, .int .i64 z.f1.f0, .int .i64 z.f1.f1, .int .i64 z.f1.f2, .int .i64 z.f1.f3, .int .i64 z.f2, .slice Az z.f3.length cz] 26 (0, 0))] [] [(.slice Az z.f3.length cz, z.f3)] [] wr))
 case atStart => exact ⟨[], path, c, A, cc, rfl, ⟨rfl⟩, HR, HZ, Nat.le_refl _, S⟩
 case round =>
  clear S HR HZ
  obtain ⟨pre, rest, z, Az, cz, rfl, HE, HR, HZ, hgg, S⟩ := hrel
  cases rest with
  | nil =>
   have hr := HR.out
   simp only [iU] at hr
   subst hr
   clear HR
   have hE := HE.out
   rw [List.append_nil] at hE
   have hE2 := hE.symm
   subst hE2
   clear hE HE hgg
   have hlt : ¬ ((path.length : Int) < (path.length : Int)) := by omega
   obtain ⟨FX, zS, zT, zU, FY, Qz, zV⟩ := St.eX S dG
   go_wp2_with (first
    | (refine nO (some 31) Try.func151 (EC 1000000 z HZ.out (Nat.le_refl _) _ Az cz _ (S.out.tree _ (.head _))) ?_; rintro e iq ⟨v, rfl, h1, hb⟩; refine ⟨_, rfl, ?_⟩; obtain ⟨Ac, cc', ev⟩ := Kd.jE h1; subst ev; replace S := ae.mk (S.out.yf h1 hb); clear h1 hb; clear FX zS zT zU FY Qz zV)
    | (refine jg 26 4 31 #[.int .u8 z.f0, .int .i64 z.f1.f0, .int .i64 z.f1.f1, .int .i64 z.f1.f2, .int .i64 z.f1.f3, .int .i64 z.f2, .slice Ac z.f3.length cc'] 0 7 S ?_; clear S; intro nI S)
    | fail)
   refine bodyPost_ret (gy rfl _ _ b4 26 _ (0, 0) _ rfl (S.out.blk _ (.head _) _ rfl) Try.underlying26 rfl (by kernel_rfl)) rfl ?_
   exact ⟨_, _, rfl, S.out.I_, S.out.below⟩
  | cons i is =>
   have hlt : (pre.length : Int) < (path.length : Int) := by rw [← HE.out, List.length_append, List.length_cons]; omega
   have acN : pre.length < path.length := by omega
   have hw1 : wrap64 ((pre.length : Int) + 1) = ((pre ++ [i]).length : Int) := by have := nP.out; rw [List.length_append, List.length_singleton]; unfold wrap64; omega
   have HW1 := ae.mk hw1
   have kX := ae.mk hgg
   have OG := ae.mk hlt
   have hrd : rd path (pre.length : Int) = i := by rw [← HE.out]; simp [rd, List.getD_eq_getElem?_getD]
   obtain ⟨D7, ek, xi⟩ := Kd.o5 (Kd.dL HI.out S.out.below) (pre.length : Int) (Int.natCast_nonneg _) hlt
   subst ek
   have uP := ae.mk (fun (W : World) (h : Below w.heap.size w W) => (show W.cell? (D7.add pre.length) = some (.int .i64 i) by have h2 := Kd.o5 (Kd.dL HI.out h) (pre.length : Int) (Int.natCast_nonneg _) OG.out; obtain ⟨ad, e1, e2⟩ := h2; injection e1 with e1; subst e1; simp only [Int.toNat_natCast] at e2; rw [e2, hrd]))
   clear hrd xi hgg hw1
   have hr := HR.out
   simp only [iU] at hr
   by_cases h0 : i < 0
   case pos =>
    rw [if_pos (.inl h0)] at hr
    subst hr
    clear HR
    obtain ⟨JC, Gf⟩ := qO (a := i) (b := 0) (by omega)
    have xi := uP.out _ S.out.below
    go_wp2_with (first
     | (refine jg 26 4 23 #[.int .u8 0, .int .i64 0, .int .i64 0, .int .i64 0, .int .i64 0, .int .i64 0, .slice none 0 0] 0 7 S ?_; clear S; intro fH S; clear xi)
     | fail)
    refine bodyPost_ret (gy rfl _ _ b4 26 _ (0, 0) _ rfl (S.out.blk _ (.head _) _ rfl) Try.underlying26 rfl (by kernel_rfl)) rfl ?_
    exact ⟨none, 0, rfl, Kd.sZ _ _ _ _ _, S.out.below⟩
   by_cases h1 : i ≥ (z.f3.length : Int)
   case pos =>
    rw [if_pos (.inr h1)] at hr
    subst hr
    clear HR
    obtain ⟨JC, Gf⟩ := lu (a := i) (b := 0) (by omega)
    have h1b : decide (i ≥ (z.f3.length : Int)) = true := decide_eq_true h1
    have h1c : decide ((z.f3.length : Int) ≤ i) = true := decide_eq_true h1
    have xi := uP.out _ S.out.below
    have zV := (S.out.at dG 6).trans rfl
    go_wp2_with (first
     | (refine jg 26 4 23 #[.int .u8 0, .int .i64 0, .int .i64 0, .int .i64 0, .int .i64 0, .int .i64 0, .slice none 0 0] 0 7 S ?_; clear S; intro fH S; clear xi zV)
     | fail)
    refine bodyPost_ret (gy rfl _ _ b4 26 _ (0, 0) _ rfl (S.out.blk _ (.head _) _ rfl) Try.underlying26 rfl (by kernel_rfl)) rfl ?_
    exact ⟨none, 0, rfl, Kd.sZ _ _ _ _ _, S.out.below⟩
   rw [if_neg (fun h => h.elim h0 h1)] at hr
   obtain ⟨JC, Gf⟩ := lu (a := i) (b := 0) (by omega)
   have h1b : decide (i ≥ (z.f3.length : Int)) = false := decide_eq_false h1
   have h1c : decide ((z.f3.length : Int) ≤ i) = false := decide_eq_false h1
   have hi0 : 0 ≤ i := by omega
   have hi1 : i < (z.f3.length : Int) := by omega
   obtain ⟨kY, ua, uc, ek, S1⟩ := S.out.elem (.head _) i hi0 hi1
   subst ek
   have hkz : sz (aj z.f3 i) ≤ 1000000 := by have h2 := yt (Ci z.f3 i hi0 hi1); have h3 := dB z; have := HZ.out; omega
   obtain ⟨k, hk⟩ : ∃ k, k = aj z.f3 i := ⟨_, rfl⟩
   rw [← hk] at S1 hr hkz
   replace S := ae.mk S1
   replace HR := ae.mk hr
   have xk := ae.mk hkz
   clear S1 hk hr hkz
   obtain ⟨nR, lX, lY, lL, lM, oP, pW⟩ := St.O3 S
   have xi := uP.out _ S.out.below
   have zV := (S.out.at dG 6).trans rfl
   go_wp2_with (first
    | (refine NR 26 2 28 #[.int .u8 k.f0, .int .i64 k.f1.f0, .int .i64 k.f1.f1, .int .i64 k.f1.f2, .int .i64 k.f1.f3, .int .i64 k.f2, .slice ua k.f3.length uc] 0 7 S ?_; clear S; intro fH S; clear nR lX lY lL lM oP pW xi zV)
    | fail)
   have hw1 := HW1.out
   go_wp2
   go_roundg is.length
   case measure => exact Nat.lt_of_lt_of_le (Nat.lt_succ_self _) kX.out
   case rel => exact ⟨pre ++ [i], is, k, ua, uc, (by rw [hw1]), ⟨by rw [List.append_assoc]; exact HE.out⟩, HR, xk, Nat.le_refl _, ⟨S.out.bM.bM.bM.bM.bM.bM.bM.aeK (.head _)⟩⟩
section
variable {W : World} {b : Nat} {P : Nat → Prop} {A : Option Addr} {cc cb : Nat}
theorem yM (c : ai) (path : List Int) (z : ai) (hz : iU c path = some z) (hp : path.length ≤ 1048576) (hc : sz c ≤ 1000000) {B : Option Addr} (hV : Kd.V k26 26 W b P (.slice A c.f3.length cc) c.f3) (hi : Kd.C (Kd.int .i64) W B path.length path) (_ : path.length ≤ cb) :
  Calls Try.prog 91 #[.agg #[.int .u8 c.f0, .int .i64 c.f1.f0, .int .i64 c.f1.f1, .int .i64 c.f1.f2, .int .i64 c.f1.f3, .int .i64 c.f2, .slice A c.f3.length cc], .slice B path.length cb] W fun e w' => ∃ A2 c2, e = .returned (.tuple #[.agg #[.int .u8 z.f0, .int .i64 z.f1.f0, .int .i64 z.f1.f1, .int .i64 z.f1.f2, .int .i64 z.f1.f3, .int .i64 z.f2, .slice A2 z.f3.length c2], .bool true]) ∧ Kd.N k26 26 w' W.heap.size (fun k => P k ∨ W.heap.size ≤ k) (.slice A2 z.f3.length c2) z.f3 ∧ Below W.heap.size W w' := afY c path (some z) hz hp hc b P A cc B cb W hV hi
end
section
variable {W : World} {b b' : Nat} {P P' : Nat → Prop} {A A' : Option Addr} {cc cc' : Nat}
theorem y9 (c : ai) (g : Bool) (hg : ∃ k, iF.f k c.f0 c.f1.f0 c.f1.f1 c.f1.f2 c.f1.f3 c.f2 c.f3 = some g) (hV : Kd.V k26 26 W b P (.slice A c.f3.length cc) c.f3) :
  Calls Try.prog 34 #[.agg #[.int .u8 c.f0, .int .i64 c.f1.f0, .int .i64 c.f1.f1, .int .i64 c.f1.f2, .int .i64 c.f1.f3, .int .i64 c.f2, .slice A c.f3.length cc]] W fun e w' => e = .returned (.bool g) ∧ Below W.heap.size W w' := by
 obtain ⟨k, hk⟩ := hg
 have h := Kd.oJ hV
 exact iF.calls k _ _ _ _ _ _ A cc c.f3 g W h.2.2 h.2.1 hk
end
section
variable {Pr : Program} {ops : Array Oper} {rest : List Oper} {op : Oper} {a : Act} {Q : Exit → Act → World → Prop} {w W : World} {P : Nat → Prop} {bs : List (Option Nat × Obj)} {ts : List (Value × List ai)} {ro : List (Addr × Value)}
end
def ads.T5 : Bool × List (List Nat × List Nat) := (true, [([], []), ([0], [0]), ([], []), ([2], [2]), ([3], [3]), ([1, 4], [1, 4]), ([5], [5]), ([], []), ([], []), ([8], [8]), ([6, 7, 9], [6, 7, 9]), ([10], [10]), ([11], [11]), ([11], [11]), ([], []), ([14, 12, 10, 0, 1, 2, 3, 4, 5, 6, 7, 8, 9, 10, 11, 12, 14], [12, 14]), ([13, 15, 0, 1, 2, 3, 4, 5, 6, 7, 8, 9, 10, 11, 12, 13, 14, 15], [13])])
def ads.B5 : List Nat := [0, 1, 0, 4, 12, 31, 63, 0, 0, 256, 1023, 2047, 4095, 4095, 0, 24575, 65535]
def adt.T9 : Bool × List (List Nat × List Nat) := (true, [([], []), ([], []), ([1], [1]), ([2], [2]), ([], []), ([0, 3, 0, 1, 2, 3, 4], [0, 3]), ([5, 4, 0, 1, 2, 3, 4], [4, 5])])
def adt.B9 : List Nat := [0, 0, 2, 6, 0, 31, 63]
section
variable {Pr : Program} {ops : Array Oper} {rest : List Oper} {op : Oper} {a : Act} {Q : Exit → Act → World → Prop} {w W : World} {P : Nat → Prop} {bs : List (Option Nat × Obj)} {ow : List (Value × List ai)} {ts : List (Value × List ai)} {ro : List (Addr × Value)}
end
abbrev Qo (W : World) (p : List Int) (t : Bool) (e : Ending) (w' : World) : Prop := ∃ A c, e = .returned (.tuple #[.slice A p.length c, .bool t]) ∧ (Kd.int .i64).R 3 w' W.heap.size (fun _ => True) (.slice A p.length c) p ∧ Below W.heap.size W w'
def aeR.T3 : Bool × List (List Nat × List Nat) := (true, [([], []), ([0], [0]), ([1], [1]), ([2], [2]), ([3], [3]), ([4], [4]), ([5, 4], [4, 5]), ([6, 4], [4, 6]), ([4], [4]), ([8, 4], [4, 8]), ([9, 4], [4, 9]), ([7, 10, 4], [4, 7, 10]), ([4, 11], [4, 11])])
def aeR.B3 : List Nat := [0, 1, 3, 7, 15, 31, 63, 127, 31, 287, 799, 2047, 4095]
def aeS.T5 : Bool × List (List Nat × List Nat) := (true, [([], []), ([0], [0]), ([], []), ([2], [2]), ([3], [3]), ([1, 4], [1, 4]), ([5], [5]), ([], []), ([7], [7]), ([6, 8], [6, 8]), ([9], [9]), ([9], [9]), ([10, 9, 0, 1, 2, 3, 4, 5, 6, 7, 8, 9, 10, 11], [10]), ([11, 12, 0, 1, 2, 3, 4, 5, 6, 7, 8, 9, 10, 11, 12], [11])])
def aeS.B5 : List Nat := [0, 1, 0, 4, 12, 31, 63, 0, 128, 511, 1023, 1023, 4095, 8191]
section
variable {W : World} {b : Nat} {P : Nat → Prop} {A B : Option Addr} {cc cb : Nat}
end
theorem ZJ : ∀ (is : List Int) (c kid : ai) (P : Nat → Prop) (A : Option Addr) (cc : Nat) (Ak : Option Addr) (yX : Nat) (B : Option Addr) (cb : Nat) (w : World), sz c ≤ 1000000 → sz kid ≤ 1000000 →
  Kd.V k26 26 w w.heap.size P (.slice A c.f3.length cc) c.f3 → Kd.V k26 26 w w.heap.size P (.slice Ak kid.f3.length yX) kid.f3 → Kd.C (Kd.int .i64) w B is.length is → is.length ≤ cb → uI kid is c ≠ none →
  Calls Try.prog 102 #[.agg #[.int .u8 c.f0, .int .i64 c.f1.f0, .int .i64 c.f1.f1, .int .i64 c.f1.f2, .int .i64 c.f1.f3, .int .i64 c.f2, .slice A c.f3.length cc], .agg #[.int .u8 kid.f0, .int .i64 kid.f1.f0, .int .i64 kid.f1.f1, .int .i64 kid.f1.f2, .int .i64 kid.f1.f3, .int .i64 kid.f2, .slice Ak kid.f3.length yX], .slice B is.length cb] w (Vj w P (uI kid is c)) := by
 intro is
 induction is with
 | nil =>
  intro c kid P A cc Ak yX B cb w hz Uk hv hvk hi hb _
  show Calls Try.prog 102 #[.agg #[.int .u8 c.f0, .int .i64 c.f1.f0, .int .i64 c.f1.f1, .int .i64 c.f1.f2, .int .i64 c.f1.f3, .int .i64 c.f2, .slice A c.f3.length cc], .agg #[.int .u8 kid.f0, .int .i64 kid.f1.f0, .int .i64 kid.f1.f1, .int .i64 kid.f1.f2, .int .i64 kid.f1.f3, .int .i64 kid.f2, .slice Ak kid.f3.length yX], .slice B 0 cb] w (Vj w P (some kid))
  have S := ae.mk (St.start (ts := [(.slice A c.f3.length cc, c.f3), (.slice Ak kid.f3.length yX, kid.f3)]) (b0 := w.heap.size) (w := w) (P := P) (fun t ht => by
   rcases List.mem_cons.1 ht with rfl | ht
   ·exact hv
   ·rw [List.mem_singleton.1 ht]; exact hvk))
  have HZ := ae.mk hz
  have HZK := ae.mk Uk
  clear hz Uk hv hvk hi hb
  obtain ⟨ck, ⟨cx, cy, cw, ch⟩, aV, l⟩ := c
  obtain ⟨kk, ⟨kx, ky, kw, kh⟩, kid, m⟩ := kid
  simp only [] at S ⊢
  go_enter Try.func102, Try.ntmps102
  go_wp2_with (first
   | (refine boxS 3 _ 26 S ?_; clear S; intro b3 fH S)
   | (refine boxS 4 _ 26 S ?_; clear S; intro b4 ik S)
   | (refine boxS 6 _ 26 S ?_; clear S; intro b6 iq S; obtain ⟨Dt, Du, Dv, Dw, Xr, Xt, Xu⟩ := St.eX S dG)
   | (refine nO (some 15) Try.func151 (EC 1000000 ⟨kk, ⟨kx, ky, kw, kh⟩, kid, m⟩ HZK.out (Nat.le_refl _) _ Ak yX _ (S.out.tree _ dG)) ?_; rintro e nI ⟨v, rfl, h1, hb⟩; refine ⟨_, rfl, ?_⟩; obtain ⟨afN, af6, ev⟩ := Kd.jE h1; subst ev; replace S := ae.mk (S.out.yf h1 hb); clear h1 hb; clear Dt Du Dv Dw Xr Xt Xu)
   | (refine jg 26 6 15 #[.int .u8 kk, .int .i64 kx, .int .i64 ky, .int .i64 kw, .int .i64 kh, .int .i64 kid, .slice afN m.length af6] 0 7 S ?_; clear S; intro oH S)
   | fail)
  refine bodyPost_ret (gy rfl _ _ b6 26 _ (0, 0) _ rfl (S.out.blk _ (.head _) _ rfl) Try.underlying26 rfl (by kernel_rfl)) rfl ?_
  exact ⟨_, _, rfl, S.out.I_, S.out.below⟩
 | cons i is ih =>
  intro c kid P A cc Ak yX B cb w hz Uk hv hvk hi hb hne
  have IH := ae.mk ih
  have HI := ae.mk hi
  have LI := ae.mk hb
  have S := ae.mk (St.start (ts := [(.slice A c.f3.length cc, c.f3), (.slice Ak kid.f3.length yX, kid.f3)]) (b0 := w.heap.size) (w := w) (P := P) (fun t ht => by
   rcases List.mem_cons.1 ht with rfl | ht
   ·exact hv
   ·rw [List.mem_singleton.1 ht]; exact hvk))
  obtain ⟨SN, rfl, xi⟩ := Kd.o5 hi 0 (by omega) (by simp)
  rw [show ((0 : Int)).toNat = 0 from rfl, Addr.add_zero'] at xi
  have xi : w.cell? SN = some (.int .i64 i) := xi
  replace S := ae.mk (S.out.X8 xi)
  have hlen0 : (0 : Int) < ((is.length : Int) + 1) := by omega
  have hl0 : ((is.length + 1 : Nat) : Int) = (is.length : Int) + 1 := by omega
  have HZ := ae.mk hz
  have HZK := ae.mk Uk
  have Sl := ae.mk hne
  clear ih hv hvk hi hb hne xi hz Uk
  simp only [uI] at Sl ⊢
  obtain ⟨ck, ⟨cx, cy, cw, ch⟩, aV, l⟩ := c
  obtain ⟨kk, ⟨kx, ky, kw, kh⟩, kid, m⟩ := kid
  simp only [] at S Sl ⊢
  simp only [List.length_cons] at HI LI ⊢
  have h0 : ¬ i < 0 := fun h => Sl.out (if_pos (.inl h))
  by_cases h1 : i ≥ (l.length : Int)
  ·exact absurd (if_pos (.inr h1)) Sl.out
  ·rw [if_neg (fun h => h.elim h0 h1)]
   have hne := Sl.out
   rw [if_neg (fun h => h.elim h0 h1)] at hne
   have Gf : decide (i < 0) = false := decide_eq_false h0
   have h1b : decide (i ≥ (l.length : Int)) = false := decide_eq_false h1
   have h1c : decide ((l.length : Int) ≤ i) = false := decide_eq_false h1
   have h0z : 0 ≤ i := by omega
   have h1z : i < (l.length : Int) := by omega
   obtain ⟨kY, ua, uc, ek, S1⟩ := S.out.elem (.head _) i h0z h1z
   subst ek
   replace S := ae.mk S1
   have xk := ae.mk (show sz (aj l i) ≤ 1000000 by have := yt (Ci l i h0z h1z); have := HZ.out; rw [dB] at this; simp only [] at this; omega)
   clear S1
   generalize aj l i = k at S xk hne ⊢
   obtain ⟨i0, hi0, _, hsz, _⟩ := info_parts info3
   have hcut := VK (P := Try.prog) 41 3 .i64 Try.underlying41 hi0 1 hsz (some SN) (is.length + 1) cb 1 (by omega) (by omega)
   have hdrop := Kd.aaA HI.out (m := 1) (by rw [List.length_cons]; omega) LI.out
   obtain ⟨A2, hA2⟩ : ∃ A2, A2 = (if cb = (1 : Int).toNat then (some SN) else ((some SN) : Option Addr).map (·.add ((1 : Int).toNat * 1))) := ⟨_, rfl⟩
   obtain ⟨c2, hc2⟩ : ∃ c2, c2 = cb - (1 : Int).toNat := ⟨_, rfl⟩
   rw [← hA2, ← hc2, show is.length + 1 - (1 : Int).toNat = is.length by simp] at hcut
   have HI2 := ae.mk (show Kd.C (Kd.int .i64) w A2 is.length is by rw [hA2]; exact hdrop)
   have LI2 := ae.mk (show is.length ≤ c2 by have h3 := LI.out; rw [hc2]; simp; omega)
   have afQ := ae.mk hcut
   clear hdrop hA2 hc2 hi0 hsz hcut h0 h1
   have H0Z := ae.mk h0z
   have H1Z := ae.mk h1z
   cases hp : uI ⟨kk, ⟨kx, ky, kw, kh⟩, kid, m⟩ is k with
   | none => rw [hp] at hne; exact absurd rfl hne
   | some z =>
    have IHk := fun Q W h1 h2 h3 => IH.out k ⟨kk, ⟨kx, ky, kw, kh⟩, kid, m⟩ Q ua uc Ak yX A2 c2 W xk.out HZK.out h1 h2 h3 LI2.out (by rw [hp]; simp)
    simp only [hp] at IHk ⊢
    clear hne
    have hcut := afQ.out
    go_enter Try.func102, Try.ntmps102
    go_wp2_with (first
     | (refine boxS 3 _ 26 S ?_; clear S; intro b3 fH S)
     | (refine boxS 4 _ 26 S ?_; clear S; intro b4 ik S)
     | (refine boxS 6 _ 26 S ?_; clear S; intro b6 iq S; have y7_ := (S.out.cell _ mm7).1; have cZ := (S.out.at dX 6).trans rfl)
     | fail)
    clear y7_ cZ
    refine jL (n := 15) (S := fun w' => St w _ _ _ _ _ w') (ds := [13]) (bA 15 0) (by kernel_rfl) rfl rfl (S.out.call (bC (Below.refl _ _))) (fun hHeld => ?_); refine fP wM.tab6 wM.FN (fun au fE => ?_)
    replace S := ae.mk (S.out.call (bC (Below.refl _ _)))
    generalize iq.drew = wd4 at S hHeld ⊢
    refine aC 0 30 (bA 15 1) au ?_
    refine eQ 1 31 (bA 15 3) au fE hHeld ?_ (hv := by intro w' hs_; have cZ := (hs_.at dX 6).trans rfl; go_simp; with_reducible rfl)
    refine aC 2 32 (bA 15 7) au ?_
    refine aC 3 33 (bA 15 15) au ?_
    refine eQ 4 34 (bA 15 31) au fE hHeld ?_ (hv := by intro w' hs_; have nR := (hs_.cell _ (.head _)).1; have lX := (hs_.cell _ dG).1; have lY := (hs_.cell _ dX).1; have lL := (hs_.cell _ jT).1; have lM := (hs_.cell _ wG).1; have oP := (hs_.cell _ Ea).1; have pW := (hs_.cell _ GV).1; go_simp; with_reducible rfl)
    refine eQ 5 35 (bA 15 63) au fE hHeld ?_ (hv := by intro w' hs_; have Dt := (hs_.at dG 0).trans rfl; have Du := (hs_.at dG 1).trans rfl; have Dv := (hs_.at dG 2).trans rfl; have Dw := (hs_.at dG 3).trans rfl; have Xr := (hs_.at dG 4).trans rfl; have Xt := (hs_.at dG 5).trans rfl; have Xu := (hs_.at dG 6).trans rfl; go_simp; with_reducible rfl)
    refine aC 6 36 (bA 15 127) au ?_
    refine aC 7 37 (bA 15 255) au ?_
    refine GL (σ := Option Addr × Nat × Nat) 2 (bA 15 8191) (fun s_ => [(38, .tuple #[.agg #[.int .u8 z.f0, .int .i64 z.f1.f0, .int .i64 z.f1.f1, .int .i64 z.f1.f2, .int .i64 z.f1.f3, .int .i64 z.f2, .slice s_.1 z.f3.length s_.2.1], .bool true]), (29, .tuple #[.agg #[.int .u8 z.f0, .int .i64 z.f1.f0, .int .i64 z.f1.f1, .int .i64 z.f1.f2, .int .i64 z.f1.f3, .int .i64 z.f2, .slice s_.1 z.f3.length s_.2.1], .bool true]), (39, .agg #[.int .u8 z.f0, .int .i64 z.f1.f0, .int .i64 z.f1.f1, .int .i64 z.f1.f2, .int .i64 z.f1.f3, .int .i64 z.f2, .slice s_.1 z.f3.length s_.2.1]), (40, .bool true), (9, .pointer (some ⟨s_.2.2, 0, none⟩))]) (fun s_ w' => St w P [(some s_.2.2, .cells #[.int .u8 0, .int .i64 0, .int .i64 0, .int .i64 0, .int .i64 0, .int .i64 0, .slice none 0 0] 26 (0, 0)), (some b6, .cells #[.int .u8 0, .int .i64 0, .int .i64 0, .int .i64 0, .int .i64 0, .int .i64 0, .slice none 0 0] 26 (0, 0)), (some b4, .cells #[.int .u8 kk, .int .i64 kx, .int .i64 ky, .int .i64 kw, .int .i64 kh, .int .i64 kid, .slice Ak m.length yX] 26 (0, 0)), (some b3, .cells #[.int .u8 ck, .int .i64 cx, .int .i64 cy, .int .i64 cw, .int .i64 ch, .int .i64 aV, .slice (some kY) l.length cc] 26 (0, 0))] [] [(.slice s_.1 z.f3.length s_.2.1, z.f3), (.slice ua k.f3.length uc, k.f3), (.slice (some kY) l.length cc, l), (.slice Ak m.length yX, m)] [((kY.add (i.toNat * 7)), .int .u8 k.f0), (⟨(kY.add (i.toNat * 7)).block, (kY.add (i.toNat * 7)).off + 1, none⟩, .int .i64 k.f1.f0), (⟨(kY.add (i.toNat * 7)).block, (kY.add (i.toNat * 7)).off + 2, none⟩, .int .i64 k.f1.f1), (⟨(kY.add (i.toNat * 7)).block, (kY.add (i.toNat * 7)).off + 3, none⟩, .int .i64 k.f1.f2), (⟨(kY.add (i.toNat * 7)).block, (kY.add (i.toNat * 7)).off + 4, none⟩, .int .i64 k.f1.f3), (⟨(kY.add (i.toNat * 7)).block, (kY.add (i.toNat * 7)).off + 5, none⟩, .int .i64 k.f2), (⟨(kY.add (i.toNat * 7)).block, (kY.add (i.toNat * 7)).off + 6, none⟩, .slice ua k.f3.length uc), (SN, .int .i64 i)] w') ?_ ?_
    rotate_left
    ·intro qf
     refine Je (i := 8) (j := 12) (Ni := some 38) (Nj := some 9) (bA 15 511) (bA 15 4351) rfl rfl rfl rfl (zy au.out (by kernel_rfl)) (by decide) (by decide) (fun K hK => ?_) (fun K hK => ?_)
     ·skip
      refine mG Try.func102 #[.agg #[.int .u8 k.f0, .int .i64 k.f1.f0, .int .i64 k.f1.f1, .int .i64 k.f1.f2, .int .i64 k.f1.f3, .int .i64 k.f2, .slice ua k.f3.length uc], .agg #[.int .u8 kk, .int .i64 kx, .int .i64 ky, .int .i64 kw, .int .i64 kh, .int .i64 kid, .slice Ak m.length yX], .slice A2 is.length c2] ?_
      refine (IHk _ _ (fC (S.out.tree _ (.head _))) (fC (S.out.tree _ dX)) (Kd.dL HI2.out S.out.below)).mono ?_
      rintro e oH ⟨Eg, ED, rfl, h1, hb⟩
      refine ⟨_, rfl, ?_⟩
      replace S := ae.mk (S.out.res (Kd.D6 (base' := 0) h1) hb)
      clear h1 hb
      refine hK.out _ _ S.out.eU (fun hHeld => ?_)
      clear hK K
      refine fK 38 ?_
      refine aC 9 29 (bA 15 1023) au ?_
      refine aC 10 39 (bA 15 2047) au ?_
      refine aC 11 40 (bA 15 4095) au ?_
      refine lI 12 (some 9) (bA 15 8191) au (fun K hK => ?_)
      refine m_ ?hg (N := 9) ?hd (cs := #[.int .u8 0, .int .i64 0, .int .i64 0, .int .i64 0, .int .i64 0, .int .i64 0, .slice none 0 0]) (t := 26) ?hr ?_; (case hd => rfl); (case hg => rfl); (case hr => first | (go_simp; done) | (go_simp; rfl))
      intro b9 hg uo hbox hb
      replace S := ae.mk (S.out.box hg hbox hb)
      clear hg hbox hb
      refine hK.out _ _ S.out.gX.eU (fun hHeld => ?_)
      clear hK K
      refine fK 9 ?_
      exact qQ (by simp only [kL, Act.put, List.setIfInBounds_toArray, List.set_cons_zero, List.set_cons_succ] <;> rfl) (qf (Eg, ED, b9) _ S.out)
     ·skip
      refine m_ ?hg (N := 9) ?hd (cs := #[.int .u8 0, .int .i64 0, .int .i64 0, .int .i64 0, .int .i64 0, .int .i64 0, .slice none 0 0]) (t := 26) ?hr ?_; (case hd => rfl); (case hg => rfl); (case hr => first | (go_simp; done) | (go_simp; rfl))
      intro b9 hg wV hbox hb
      replace S := ae.mk (S.out.box hg hbox hb)
      clear hg hbox hb
      refine hK.out _ _ S.out.gX (fun hHeld => ?_)
      clear hK K
      refine fK 9 ?_
      refine lI 8 (some 38) (bA 15 4607) au (fun K hK => ?_)
      refine mG Try.func102 #[.agg #[.int .u8 k.f0, .int .i64 k.f1.f0, .int .i64 k.f1.f1, .int .i64 k.f1.f2, .int .i64 k.f1.f3, .int .i64 k.f2, .slice ua k.f3.length uc], .agg #[.int .u8 kk, .int .i64 kx, .int .i64 ky, .int .i64 kw, .int .i64 kh, .int .i64 kid, .slice Ak m.length yX], .slice A2 is.length c2] ?_
      refine (IHk _ _ (fC (S.out.tree _ (.head _))) (fC (S.out.tree _ dX)) (Kd.dL HI2.out S.out.below)).mono ?_
      rintro e Hw ⟨Eg, ED, rfl, h1, hb⟩
      refine ⟨_, rfl, ?_⟩
      replace S := ae.mk (S.out.res (Kd.D6 (base' := 0) h1) hb)
      clear h1 hb
      refine hK.out _ _ S.out.gX.eU (fun hHeld => ?_)
      clear hK K
      refine fK 38 ?_
      refine aC 9 29 (bA 15 5119) au ?_
      refine aC 10 39 (bA 15 6143) au ?_
      refine aC 11 40 (bA 15 8191) au ?_
      exact qQ (by simp only [kL, Act.put, List.setIfInBounds_toArray, List.set_cons_zero, List.set_cons_succ] <;> rfl) (qf (Eg, ED, b9) _ S.out)
    rintro ⟨Eg, ED, b9⟩ wj9 S1
    simp only [kL, Act.put, List.setIfInBounds_toArray, List.set_cons_zero, List.set_cons_succ]
    replace S := ae.mk S1
    clear S1 hHeld
    have hHeld := S.out.gX.eU
    refine uG 13 none (bA 15 16383) au (fun K hK => ?_)
    refine xJ 0 rfl 26 (.tmp 9) (.tmp 39) rfl #[.int .u8 z.f0, .int .i64 z.f1.f0, .int .i64 z.f1.f1, .int .i64 z.f1.f2, .int .i64 z.f1.f3, .int .i64 z.f2, .slice Eg z.f3.length ED] (j := 0) (u := .agg #[.int .u8 z.f0, .int .i64 z.f1.f0, .int .i64 z.f1.f1, .int .i64 z.f1.f2, .int .i64 z.f1.f3, .int .i64 z.f2, .slice Eg z.f3.length ED]) (bF := [.int .u8 z.f0, .int .i64 z.f1.f0, .int .i64 z.f1.f1, .int .i64 z.f1.f2, .int .i64 z.f1.f3, .int .i64 z.f2, .slice Eg z.f3.length ED]) S.out (by rfl) rfl rfl rfl rfl (by kernel_rfl) (by simp [Value.oneCell']) (by first | decide | simp) rfl ?_
    intro Fb S1
    simp only [List.set_cons_zero, List.set_cons_succ] at S1
    replace S := ae.mk S1
    clear S1
    refine hK.out _ _ ?_
    clear hK K
    refine aC 14 10 (bA 15 32767) au ?_
    refine lh (jb au.out (by kernel_rfl)) ?_
    clear hHeld
    obtain ⟨bf, bg, bu, bz, dD, dE, cZ⟩ := St.eX S jT
    go_wp2_with (first
     | (refine nO (some 45) Try.func151 (EC 1000000 ⟨ck, ⟨cx, cy, cw, ch⟩, aV, l⟩ HZ.out (Nat.le_refl _) _ (some kY) cc _ (fC (S.out.tree _ dX))) ?_; rintro e Oe ⟨v, rfl, h1, hb⟩; refine ⟨_, rfl, ?_⟩; obtain ⟨g45, Xq, ev, _⟩ := Kd.su h1 (by have := H1Z.out; have := H0Z.out; simp only []; omega); subst ev; replace S := ae.mk (S.out.yf h1 hb); clear h1 hb; clear bf bg bu bz dD dE cZ)
     | (refine ac8 26 3 45 #[.int .u8 ck, .int .i64 cx, .int .i64 cy, .int .i64 cw, .int .i64 ch, .int .i64 aV, .slice (some ⟨g45, 0, none⟩) l.length Xq] 0 7 S ?_; clear S; intro WX S; obtain ⟨uB, FZ, xx, F5, aek, ael, aem⟩ := St.eX S (.head _); have cZ := (S.out.at jT 6).trans rfl)
     | ((with_reducible refine lq (.store 26 (.tmp 50) (.tmp 49)) rfl ?_); go_loud (refine adg i z (.tmp 50) (.tmp 49) rfl S.out H0Z.out H1Z.out ?sA ?sX (by kernel_rfl) (.head _) rfl rfl ?_; (case sA => first | rfl | (go_simp; rfl)); (case sX => rfl); intro RD S1; replace S := ae.mk S1; clear S1); clear uB FZ xx F5 aek ael aem cZ; obtain ⟨bf, bg, bu, bz, dD, dE, cZ⟩ := St.eX S jT)
     | (refine NR 26 6 51 #[.int .u8 ck, .int .i64 cx, .int .i64 cy, .int .i64 cw, .int .i64 ch, .int .i64 aV, .slice (some ⟨g45, 0, none⟩) l.length Xq] 0 7 S ?_; clear S; intro Og S; clear bf bg bu bz dD dE cZ)
     | fail)
    refine bodyPost_ret (gy rfl _ _ b6 26 _ (0, 0) _ rfl (S.out.blk _ dG _ rfl) Try.underlying26 rfl (by kernel_rfl)) rfl ?_
    simp only [Vj, List.length_set]
    exact ⟨_, _, rfl, S.out.I_, S.out.below⟩
def Z7.T5 : Bool × List (List Nat × List Nat) := (true, [([], []), ([0], [0]), ([], []), ([2], [2]), ([3], [3]), ([1, 4], [1, 4]), ([5], [5]), ([], []), ([], []), ([8], [8]), ([6, 7, 9], [6, 7, 9]), ([10], [10]), ([11], [11]), ([11], [11]), ([], []), ([14, 12, 10, 0, 1, 2, 3, 4, 5, 6, 7, 8, 9, 10, 11, 12, 14], [12, 14]), ([13, 15, 0, 1, 2, 3, 4, 5, 6, 7, 8, 9, 10, 11, 12, 13, 14, 15], [13])])
def Z7.B5 : List Nat := [0, 1, 0, 4, 12, 31, 63, 0, 0, 256, 1023, 2047, 4095, 4095, 0, 24575, 65535]
def Z8.T9 : Bool × List (List Nat × List Nat) := (true, [([], []), ([], []), ([1], [1]), ([2], [2]), ([], []), ([0, 3, 0, 1, 2, 3, 4], [0, 3]), ([5, 4, 0, 1, 2, 3, 4], [4, 5])])
def Z8.B9 : List Nat := [0, 0, 2, 6, 0, 31, 63]
section
variable {W : World} {b b' : Nat} {P : Nat → Prop} {A A' B : Option Addr} {cc cc' cb : Nat}
theorem Kz (c kid : ai) (path : List Int) (z : ai) (hz : uI kid path c = some z) (hc : sz c ≤ 1000000) (hk : sz kid ≤ 1000000) (hV : Kd.V k26 26 W b P (.slice A c.f3.length cc) c.f3) (hV' : Kd.V k26 26 W b' P (.slice A' kid.f3.length cc') kid.f3) (hi : Kd.C (Kd.int .i64) W B path.length path) (hb : path.length ≤ cb) :
  Calls Try.prog 102 #[.agg #[.int .u8 c.f0, .int .i64 c.f1.f0, .int .i64 c.f1.f1, .int .i64 c.f1.f2, .int .i64 c.f1.f3, .int .i64 c.f2, .slice A c.f3.length cc], .agg #[.int .u8 kid.f0, .int .i64 kid.f1.f0, .int .i64 kid.f1.f1, .int .i64 kid.f1.f2, .int .i64 kid.f1.f3, .int .i64 kid.f2, .slice A' kid.f3.length cc'], .slice B path.length cb] W fun e w' => ∃ A2 c2, e = .returned (.tuple #[.agg #[.int .u8 z.f0, .int .i64 z.f1.f0, .int .i64 z.f1.f1, .int .i64 z.f1.f2, .int .i64 z.f1.f3, .int .i64 z.f2, .slice A2 z.f3.length c2], .bool true]) ∧ Kd.N k26 26 w' W.heap.size (fun k => P k ∨ W.heap.size ≤ k) (.slice A2 z.f3.length c2) z.f3 ∧ Below W.heap.size W w' := by
 have h := ZJ path c kid P A cc A' cc' B cb W hc hk (fC hV) (fC hV') hi hb (by rw [hz]; simp)
 rw [hz] at h
 exact h
theorem Tv (id : Int) (c : ai) (r : Option (List Int)) (h : dI id c = r) (hc : sz c ≤ 1000000) (hV : Kd.V k26 26 W b P (.slice A c.f3.length cc) c.f3) :
  Calls Try.prog 89 #[.agg #[.int .u8 c.f0, .int .i64 c.f1.f0, .int .i64 c.f1.f1, .int .i64 c.f1.f2, .int .i64 c.f1.f3, .int .i64 c.f2, .slice A c.f3.length cc], .int .i64 id] W (Qo W (r.getD []) r.isSome) := by
 have h2 := Kd.oJ hV
 refine (abW id 1000000 c hc (Nat.le_refl _) A cc W h2.2.2 h2.2.1).mono (fun e w' ⟨v, he, hR, hB⟩ => ?_)
 rw [h] at he hR
 obtain ⟨A2, c2, rfl⟩ := Kd.ja hR
 exact ⟨A2, c2, he, hR, hB⟩
theorem yF (id : Int) (c : ai) (p : List Int) (h : dI id c = some p) (hc : sz c ≤ 1000000) (hV : Kd.V k26 26 W b P (.slice A c.f3.length cc) c.f3) :
  Calls Try.prog 89 #[.agg #[.int .u8 c.f0, .int .i64 c.f1.f0, .int .i64 c.f1.f1, .int .i64 c.f1.f2, .int .i64 c.f1.f3, .int .i64 c.f2, .slice A c.f3.length cc], .int .i64 id] W (Qo W p true) := Tv id c (some p) h hc hV
theorem O7 (id : Int) (c : ai) (h : dI id c = none) (hc : sz c ≤ 1000000) (hV : Kd.V k26 26 W b P (.slice A c.f3.length cc) c.f3) :
  Calls Try.prog 89 #[.agg #[.int .u8 c.f0, .int .i64 c.f1.f0, .int .i64 c.f1.f1, .int .i64 c.f1.f2, .int .i64 c.f1.f3, .int .i64 c.f2, .slice A c.f3.length cc], .int .i64 id] W (Qo W [] false) := Tv id c none h hc hV
end
section
variable {Pr : Program} {ops : Array Oper} {rest : List Oper} {op : Oper} {a : Act} {Q : Exit → Act → World → Prop} {w W : World} {P : Nat → Prop} {bs : List (Option Nat × Obj)} {ow : List (Value × List ai)} {ts : List (Value × List ai)} {ro : List (Addr × Value)}
theorem DF (N : Option Tmp) {f : FuncId} {fn : Func} (hf : Pr.funcs[f]? = some fn) {ar : Array Operand} {Hr : Array TypeId} {args : Array Value} {l : List Int} {F : Option Addr → Nat → Value} (S : ae (St w P bs ow ts ro W))
  (hc : Calls Pr f args W fun e w' => ∃ A c, e = .returned (F A c) ∧ (Kd.int .i64).R 3 w' W.heap.size (fun _ => True) (.slice A l.length c) l ∧ Below W.heap.size W w')
  (h : ∀ A c o w1, ae (St w P (((Value.slice A l.length c).ownBlock, o) :: bs) ow ts ro w1) → ae (IR w.heap.size (.slice A l.length c) l o) → wpList Pr ops Q rest (a.put N (F A c)) w1) (hd : op.dst = N := by rfl) (hg : op.guard = none := by rfl) (hop : op.op = .call { callee := .value (.func f), args := ar, argTypes := Hr } := by rfl)
  (hname : (fn.name == "runtime.NumGoroutine") = false := by kernel_rfl) (hb : fn.body.isSome = true := by rfl) (hargs : ar.map a.eval = args := by ((try simp only [List.map_toArray, List.map_cons, List.map_nil]); first | done | rfl)) : wpList Pr ops Q (op :: rest) a W :=
 ny N hd hg hf hname hb args hop hargs (hc.mono fun e w1 ⟨A, c, he, h1, hb⟩ => by
  obtain ⟨o, S1, HI⟩ := S.out.ags h1 hb
  exact ⟨_, he, h A c o w1 ⟨S1⟩ ⟨HI⟩⟩)
end
section
variable {base : Nat} {W : World} {A : Option Addr} {c : Nat} {l : List Int} {o : Obj} {w : World} {P : Nat → Prop} {bs : List (Option Nat × Obj)} {ow : List (Value × List ai)} {ts : List (Value × List ai)} {ro : List (Addr × Value)}
theorem uS (HI : IR base (.slice A l.length c) l o) (S : St w P bs ow ts ro W) (hm : ((Value.slice A l.length c).ownBlock, o) ∈ bs) : Kd.C (Kd.int .i64) W A l.length l ∧ l.length ≤ c :=
 have h := Kd.fD (HI W (S.blk _ hm))
 ⟨h.2.2, h.2.1⟩
end
section
end
mutual
def BX (id ax : Int) (L : List ai) : ai → ai
 | ⟨a, r, d, l⟩ => if a = 1 then (if d = id then ⟨ax + 1, r, 0, L⟩ else ⟨a, r, d, l⟩) else ⟨a, r, d, xZ id ax L (iT ax a) l⟩
def xZ (id ax : Int) (L : List ai) (al : Bool) : List ai → List ai
 | [] => []
 | k :: ks => (if k.f0 = 1 ∧ k.f2 = id ∧ al = true then L else [BX id ax L k]) ++ xZ id ax L al ks
end
theorem zi (id ax : Int) (L : List ai) (c : ai) : BX id ax L c = if c.f0 = 1 then (if c.f2 = id then ⟨ax + 1, c.f1, 0, L⟩ else c) else ⟨c.f0, c.f1, c.f2, xZ id ax L (iT ax c.f0) c.f3⟩ := by cases c; simp [BX]
theorem I8 (id ax : Int) (L : List ai) (al : Bool) : xZ id ax L al [] = [] := by simp [xZ]
theorem vF (id ax : Int) (L : List ai) (al : Bool) (k : ai) (ks : List ai) : xZ id ax L al (k :: ks) = (if k.f0 = 1 ∧ k.f2 = id ∧ al = true then L else [BX id ax L k]) ++ xZ id ax L al ks := by simp [xZ]
theorem PM (id ax : Int) (L : List ai) (al : Bool) : ∀ a b : List ai, xZ id ax L al (a ++ b) = xZ id ax L al a ++ xZ id ax L al b := by
 intro a
 induction a with
 | nil => intro b; rw [I8, List.nil_append, List.nil_append]
 | cons k ks ih => intro b; rw [List.cons_append, vF, vF, ih, List.append_assoc]
def AL (ax : Int) (leaf : ai) (L : List ai) : ai := ⟨ax + 1, leaf.f1, 0, L⟩
def vW (l : List ai) (i : Nat) (L : List ai) : List ai := l.take i ++ L ++ l.drop (i + 1)
def Ah (ax : Int) (L : List ai) (c : ai) (p : List Int) (leaf : ai) : Option ai :=
 if p.length = 0 then uI (AL ax leaf L) p c else match iU c (p.take (p.length - 1)) with
 | none => none
 | some par => if iT ax par.f0 = true then uI ⟨par.f0, par.f1, par.f2, vW par.f3 (rd p ((p.length - 1 : Nat) : Int)).toNat L⟩ (p.take (p.length - 1)) c else uI (AL ax leaf L) p c
theorem uC {id : Int} {c : ai} (h : dI id c = none) : ¬ (c.f0 = 1 ∧ c.f2 = id) ∧ nN id 0 c.f3 = none := by
 rw [p_] at h
 split at h
 ·cases h
 ·rename_i hh; exact ⟨hh, h⟩
theorem QD {id : Int} : ∀ {l : List ai} {i : Nat}, nN id i l = none → ∀ k, k ∈ l → dI id k = none := by
 intro l
 induction l with
 | nil => intro i _ k h; cases h
 | cons x xs ih =>
  intro i h k hk
  rw [mD] at h
  cases hx : dI id x with
  | some p => rw [hx] at h; cases h
  | none =>
   rw [hx] at h
   rcases List.mem_cons.1 hk with rfl | hk
   ·exact hx
   ·exact ih h k hk
theorem zX {id : Int} : ∀ {l : List ai} {i : Nat} {p : List Int}, nN id i l = some p → ∃ pre k post q, l = pre ++ k :: post ∧ (∀ x, x ∈ pre → dI id x = none) ∧ dI id k = some q ∧ p = ((i + pre.length : Nat) : Int) :: q := by
 intro l
 induction l with
 | nil => intro i p h; rw [mM] at h; cases h
 | cons x xs ih =>
  intro i p h
  rw [mD] at h
  cases hx : dI id x with
  | some q =>
   rw [hx] at h
   injection h with h
   exact ⟨[], x, xs, q, rfl, fun y hy => (by cases hy), hx, by rw [← h]; simp⟩
  | none =>
   rw [hx] at h
   obtain ⟨pre, k, post, q, e, h1, h2, h3⟩ := ih h
   refine ⟨x :: pre, k, post, q, by rw [e]; rfl, fun y hy => ?_, h2, by rw [h3, List.length_cons]; congr 1; omega⟩
   rcases List.mem_cons.1 hy with rfl | hy
   ·exact hx
   ·exact h1 y hy
theorem Zu (id ax : Int) (L : List ai) : ∀ (N : Nat) (c : ai), sz c ≤ N → dI id c = none → BX id ax L c = c := by
 intro N
 induction N with
 | zero => intro c h; rw [dB] at h; omega
 | succ N ih =>
  intro c hc h
  obtain ⟨h1, h2⟩ := uC h
  rw [zi]
  by_cases h0 : c.f0 = 1
  ·rw [if_pos h0, if_neg (fun e => h1 ⟨h0, e⟩)]
  ·rw [if_neg h0]
   have key : ∀ l : List ai, (∀ k, k ∈ l → sz k ≤ N ∧ dI id k = none) → xZ id ax L (iT ax c.f0) l = l := by
    intro l
    induction l with
    | nil => intro _; exact I8 ..
    | cons k ks ihl =>
     intro hk
     have hk1 := hk k (by simp)
     rw [vF, if_neg (fun e => (uC hk1.2).1 ⟨e.1, e.2.1⟩), ih k hk1.1 hk1.2, ihl (fun x hx => hk x (by simp [hx]))]
     rfl
   rw [key c.f3 (fun k hk => ⟨by have := yt hk; have := dB c; omega, QD h2 k hk⟩)]
   cases c
   rfl
theorem Ag (id ax : Int) (L : List ai) (al : Bool) : ∀ l : List ai, (∀ k, k ∈ l → dI id k = none) → xZ id ax L al l = l := by
 intro l
 induction l with
 | nil => intro _; exact I8 ..
 | cons k ks ihl =>
  intro hk
  have hk1 := hk k (by simp)
  rw [vF, if_neg (fun e => (uC hk1).1 ⟨e.1, e.2.1⟩), Zu id ax L _ k (Nat.le_refl _) hk1, ihl (fun x hx => hk x (by simp [hx]))]
  rfl
theorem at_mem : ∀ (p : List Int) (c z : ai), iU c p = some z → z ∈ dZ c := by
 intro p
 induction p with
 | nil => intro c z h; simp only [iU] at h; injection h with h; rw [← h, jY]; simp
 | cons i is ih =>
  intro c z h
  simp only [iU] at h
  split at h
  ·cases h
  ·rename_i hi
   have hm := Ci c.f3 i (by omega) (by omega)
   obtain ⟨a, b, e⟩ := List.append_of_mem hm
   have := ih _ z h
   rw [jY, e, oK, g_]
   simp [this]
theorem Ii : ∀ (a b : List ai), dH (a ++ b) = true → ∀ x y, x ∈ a → y ∈ b → x.f2 ≠ y.f2 := by
 intro a
 induction a with
 | nil => intro b _ x y h; cases h
 | cons z zs ih =>
  intro b h x y hx hy
  rw [List.cons_append] at h
  simp only [dH, Bool.and_eq_true] at h
  rcases List.mem_cons.1 hx with rfl | hx
  ·have h1 := List.all_eq_true.1 h.1 y (by simp [hy])
   simpa [eq_comm] using of_decide_eq_true h1
  ·exact ih b h.2 x y hx hy
theorem JA {id : Int} {c : ai} {p : List Int} (h : dI id c = some p) : ∃ z, z ∈ (dZ c).filter (fun x => decide (x.f0 = 1)) ∧ z.f2 = id := by
 obtain ⟨z, h1, h2, h3⟩ := (xG id _).1 c (Nat.le_refl _) p h
 exact ⟨z, List.mem_filter.2 ⟨at_mem p c z h1, decide_eq_true h2⟩, h3⟩
theorem MP {id : Int} {pre post : List ai} {k : ai} {q : List Int} (hd : dH ((allL (pre ++ k :: post)).filter fun x => decide (x.f0 = 1)) = true) (hk : dI id k = some q) : ∀ x, x ∈ post → dI id x = none := by
 intro x hx
 cases hf : dI id x with
 | none => rfl
 | some r =>
  obtain ⟨z1, m1, e1⟩ := JA hk
  obtain ⟨z2, m2, e2⟩ := JA hf
  obtain ⟨a, b, e⟩ := List.append_of_mem hx
  rw [e, oK, g_, oK, g_, List.filter_append, List.filter_append] at hd
  have h1 := Pure.tq _ _ hd
  have h2 := Ii _ _ h1 z1 z2 m1 (by rw [List.filter_append, List.filter_append]; simp [m2])
  rw [e1, e2] at h2
  exact absurd rfl h2
theorem ER {kid c z : ai} {i : Nat} {is : List Int} (hi : i < c.f3.length) (h : uI kid is (kd c.f3 i) = some z) : uI kid ((i : Int) :: is) c = some ⟨c.f0, c.f1, c.f2, c.f3.set i z⟩ := by
 simp only [uI]
 rw [if_neg (by omega), GM, h, Int.toNat_natCast]
theorem XA (pre : List ai) (k : ai) (post : List ai) : kd (pre ++ k :: post) pre.length = k := by
 unfold kd
 simp [List.getD_eq_getElem?_getD]
theorem Jc (pre : List ai) (k z : ai) (post : List ai) : (pre ++ k :: post).set pre.length z = pre ++ z :: post := by simp
theorem U2 (i : Int) (q : List Int) (h : q ≠ []) : (i :: q).take ((i :: q).length - 1) = i :: q.take (q.length - 1) := by
 cases q with
 | nil => exact absurd rfl h
 | cons x xs => simp
theorem ZN (i : Int) (q : List Int) (h : q ≠ []) : rd (i :: q) (((i :: q).length - 1 : Nat) : Int) = rd q ((q.length - 1 : Nat) : Int) := by
 cases q with
 | nil => exact absurd rfl h
 | cons x xs => unfold rd; simp
theorem Zt (id ax : Int) (L : List ai) : ∀ (N : Nat) (c : ai), sz c ≤ N → (dZ c).all lC = true → dH ((dZ c).filter fun x => decide (x.f0 = 1)) = true → ∀ p leaf, dI id c = some p → iU c p = some leaf → Ah ax L c p leaf = some (BX id ax L c) := by
 intro N
 induction N with
 | zero => intro c h; rw [dB] at h; omega
 | succ N ih =>
  intro c hc hok hd p leaf hf hl
  have hoc := nU hok
  rw [p_] at hf
  split at hf
  ·rename_i h1
   injection hf with hf
   subst hf
   simp only [iU] at hl
   injection hl with hl
   subst hl
   unfold Ah
   rw [if_pos (show ([] : List Int).length = 0 from rfl), zi, if_pos h1.1, if_pos h1.2]
   rfl
  ·rename_i h1
   have h0 : c.f0 ≠ 1 := by
    intro e
    rcases vG hoc with ⟨_, h3⟩ | ⟨h3, _⟩
    ·rw [List.eq_nil_of_length_eq_zero h3, mM] at hf; cases hf
    ·omega
   obtain ⟨pre, k, post, q, e, hpre, hk, rfl⟩ := zX hf
   rw [Nat.zero_add] at hl ⊢
   have Ny : k ∈ c.f3 := by rw [e]; simp
   have hdl : dH ((allL (pre ++ k :: post)).filter fun x => decide (x.f0 = 1)) = true := by
    rw [← e]
    rw [jY, List.filter_cons, if_neg (by simpa using h0)] at hd
    exact hd
   have hpost := MP hdl hk
   have hin : xZ id ax L (iT ax c.f0) c.f3 = pre ++ ((if k.f0 = 1 ∧ k.f2 = id ∧ iT ax c.f0 = true then L else [BX id ax L k]) ++ post) := by
    rw [e, PM, vF, Ag id ax L _ pre hpre, Ag id ax L _ post hpost]
   have hil : pre.length < c.f3.length := by rw [e]; simp
   have hkd : kd c.f3 pre.length = k := by rw [e]; exact XA pre k post
   have hak : iU k q = some leaf := by
    simp only [iU] at hl
    rw [if_neg (by omega), GM, hkd] at hl
    exact hl
   rw [zi, if_neg h0, hin]
   by_cases hq : q = []
   ·subst hq
    simp only [iU] at hak
    injection hak with hak
    subst hak
    have Kw : k.f0 = 1 ∧ k.f2 = id := by
     rw [p_] at hk
     split at hk
     ·assumption
     ·obtain ⟨_, _, _, _, _, _, _, h⟩ := zX hk
      cases h
    unfold Ah
    rw [if_neg (by simp)]
    have e1 : ([(pre.length : Int)] : List Int).take ([(pre.length : Int)].length - 1) = [] := rfl
    have e2 : rd [(pre.length : Int)] (([(pre.length : Int)].length - 1 : Nat) : Int) = (pre.length : Int) := rfl
    rw [e1, e2]
    simp only [iU]
    by_cases ha : iT ax c.f0 = true
    ·rw [if_pos ha, if_pos ⟨Kw.1, Kw.2, ha⟩]
     simp only [uI]
     unfold vW
     rw [Int.toNat_natCast, e]
     simp
    ·rw [if_neg ha, if_neg (fun h => ha h.2.2)]
     have hp : uI (AL ax k L) [] (kd c.f3 pre.length) = some (AL ax k L) := rfl
     rw [ER hil hp, e, Jc, zi, if_pos Kw.1, if_pos Kw.2]
     rfl
   ·have hnl : ¬ (k.f0 = 1 ∧ k.f2 = id) := by
     intro h
     rw [p_, if_pos h] at hk
     injection hk with hk
     exact hq hk.symm
    have hks : sz k ≤ N := by have := yt Ny; have := dB c; omega
    have hdk : dH ((dZ k).filter fun x => decide (x.f0 = 1)) = true := by
     rw [oK, g_, List.filter_append, List.filter_append] at hdl
     exact Pure.xg _ _ (Pure.tq _ _ hdl)
    have hj := ih k hks (DL hok Ny) hdk q leaf hk hak
    rw [if_neg (fun h => hnl ⟨h.1, h.2.1⟩)]
    unfold Ah at hj ⊢
    rw [if_neg (by simpa using hq)] at hj
    rw [if_neg (by simp), U2 _ _ hq, ZN _ _ hq]
    have hat : iU c ((pre.length : Int) :: q.take (q.length - 1)) = iU k (q.take (q.length - 1)) := by
     simp only [iU]
     rw [if_neg (by omega), GM, hkd]
    rw [hat]
    cases hp : iU k (q.take (q.length - 1)) with
    | none => rw [hp] at hj; cases hj
    | some par =>
     rw [hp] at hj
     simp only [] at hj ⊢
     split at hj
     ·rename_i ha
      rw [if_pos ha, ER hil (by rw [hkd]; exact hj), e, Jc]
      rfl
     ·rename_i ha
      rw [if_neg ha, ER hil (by rw [hkd]; exact hj), e, Jc]
      rfl
theorem Xj {W : World} {base g n cap : Nat} {ok : Nat → Prop} {xs : List ai} (HN : Kd.N k26 26 W base ok (.slice (some ⟨g, 0, none⟩) n cap) xs) : ∃ cur : Array Value, W.heap[g]? = some (.cells cur 26 (0, 0)) ∧ n ≤ cap ∧ cap ≤ maxLen ∧ cur.size = cap * 7 := by
 obtain ⟨h0, rows, hl, ⟨_, inner, ho, hr⟩, hf⟩ := HN
 rcases ho.2 with ⟨hv, _⟩ | ⟨g', cap', cur, hv, hb, hh, h1, h2, h3, h4⟩
 ·cases hv
 ·injection hv with hv1 hv2 hv3
  injection hv1 with hv1
  injection hv1 with hv1
  subst hv1 hv2 hv3
  exact ⟨cur, hh, h1, h2, h3⟩
theorem WJ {l L : List ai} {i : Nat} (hi : i < l.length) : (vW l i L).length = i + L.length + (l.length - (i + 1)) := by
 unfold vW
 rw [List.length_append, List.length_append, List.length_take, List.length_drop]
 omega
theorem ZQ {w W : World} {P : Nat → Prop} {bs : List (Option Nat × Obj)} {ts : List (Value × List ai)} {ro : List (Addr × Value)} {gr ga cap i c : Nat} {ca : Array Value} {l L : List ai} (hi : i < l.length) (hl : l.length ≤ 900000) (hL : L.length = 2) (hga : w.heap[ga]? = some (.cells ca 26 (0, 0))) (hca : ca.size ≠ 0)
  (S0 : St w P bs [(.slice (some ⟨gr, 0, none⟩) l.length cap, l)] ts ro W) (hm0 : (.slice (some ⟨ga, 0, none⟩) L.length c, L) ∈ ts) :
  Calls Try.prog 189 #[.slice (some ⟨gr, 0, none⟩) l.length cap, .int .i64 (i : Int), .int .i64 ((i : Int) + 1), .slice (some ⟨ga, 0, none⟩) L.length c] W fun e w' => ∃ A c', e = .returned (.slice A (vW l i L).length c') ∧ St w P bs [(.slice A (vW l i L).length c', vW l i L)] ts ro w' := by
 obtain ⟨cr, _, hcap, hmx, _⟩ := Xj S0.AP
 have hmx : cap ≤ 9223372036854775807 := hmx
 have hgr := (S0.new gr (eP.2 (.inr rfl))).1
 have hgl : ga < w.heap.size := (Array.getElem?_eq_some_iff.1 hga).1
 have hgW : W.heap[ga]? = some (.cells ca 26 (0, 0)) := aJ hga S0.below
 rw [WJ hi, hL]
 rw [hL] at hm0
 by_cases he : i + 1 = l.length
 ·have h := WI he (by omega) hcap hL S0 hm0
  rw [show i + 2 + (l.length - (i + 1)) = l.length + 1 by omega]
  exact h
 ·obtain ⟨q, hq⟩ : ∃ q, l.length = i + 1 + q := ⟨l.length - (i + 1), by omega⟩
  rw [hq] at S0 hcap ⊢
  rw [show i + 2 + (i + 1 + q - (i + 1)) = i + 2 + q by omega]
  by_cases hr : i + 2 + q ≤ cap
  ·exact UQ (by omega) (by omega) hr hmx hL S0 hm0 hgW (by omega) hca
  ·exact UO (by omega) (by omega) hcap (by omega) hL S0 hm0
end Go.Proofs.Ytfdmfgaiblfbhaa.P
namespace Go.Proofs.Ytfdmfgaiblfbhaa.P
open Go.RowKit Go.Proofs.ag.aA Go.Proofs.ag.a_ Go.Proofs.ag.bG
attribute [local go_sem] jf jr jG jR iV iW jB jC
def iw.j0 : Nat → Int → Int → Bool → Option (Int × Int × Bool)
 | 0, _, _, _ => none
 | k + 1, x0, x1, zC => if zC = true then (some (0, 0, false)) else (if x1 = 0 then (some (wrap64 ((wrap64 (x0 - 1)) - (wrap64 ((wrap64 ((wrap64 (Int.tdiv x0 2)) + (Int.tmod x0 2))) - 1))), wrap64 ((wrap64 ((wrap64 (Int.tdiv x0 2)) + (Int.tmod x0 2))) - 1), true)) else (some (wrap64 ((wrap64 (x0 - 1)) - (mx 1 (mn x1 (wrap64 (x0 - 2))))), mx 1 (mn x1 (wrap64 (x0 - 2))), true)))
def iw.f (k : Nat) (a0 : Int) (a1 : Int) : Option (Int × Int × Bool) := if a0 < 3 then (iw.j0 k a0 a1 true) else (iw.j0 k a0 a1 (decide (a1 < 0)))
theorem iw.calls (k : Nat) (a0 : Int) (a1 : Int) (r1 : Int) (r2 : Int) (r3 : Bool) (w : World) (h : iw.f k a0 a1 = some (r1, r2, r3)) :
  Calls Try.prog 104 #[.int .i64 a0, .int .i64 a1] w fun e w' => e = .returned (.tuple #[.int .i64 r1, .int .i64 r2, .bool r3]) ∧ Below w.heap.size w w' := by
 have HB := ae.mk (Below.refl w.heap.size w)
 have H : (if a0 < 3 then (iw.j0 k a0 a1 true) else (iw.j0 k a0 a1 (decide (a1 < 0)))) = some (r1, r2, r3) := h
 clear h
 have KL := ae.mk H
 clear H
 go_enter Try.func104, Try.ntmps104
 go_upto_region 1 with (fail)
 go_cut [13] (fun v13 wc => ∃ (kq : Nat) (KA : Bool), v13 = .bool KA ∧ ae (iw.j0 kq a0 a1 KA = some (r1, r2, r3)) ∧ ae (kq ≤ k) ∧ ae (Below w.heap.size w wc))
 case first =>
  have H := KL.out
  clear KL
  by_cases c4 : a0 < 3
  ·rw [if_pos c4] at H
   have uU : decide (a0 < 3) = true := decide_eq_true c4
   clear c4
   (first | rw [uU] | (simp only [lU, lT]; rw [uU]) | skip)
   have H' := ae.mk H
   clear H
   go_wp2
   go_meet
   case rel => exact ⟨_, (true), (by first | rfl | (simp; done) | (simp [*]; done)), H', ⟨by first | omega | exact Nat.le_refl _⟩, ⟨by repeat (first | (with_reducible first | exact HB.out | apply aW | apply aQ | apply bJ) | exact HB.out)⟩⟩
  ·rw [if_neg c4] at H
   have uU : decide (a0 < 3) = false := decide_eq_false c4
   clear c4
   (first | rw [uU] | (simp only [lU, lT]; rw [uU]) | skip)
   have H' := ae.mk H
   clear H
   go_wp2
   go_meet
   case rel => exact ⟨_, (decide (a1 < 0)), (by first | rfl | (simp; done) | (simp [*]; done)), H', ⟨by first | omega | exact Nat.le_refl _⟩, ⟨by repeat (first | (with_reducible first | exact HB.out | apply aW | apply aQ | apply bJ) | exact HB.out)⟩⟩
 case rest =>
  clear KL
  try clear c1
  try clear p2
  try clear c4
  try clear uU
  obtain ⟨kq, KA, rfl, HA, HJ2, HB⟩ := hcut
  cases kq with
  | zero => exact absurd HA.out (by simp [iw.j0])
  | succ kj2 =>
   have H := HA.out
   clear HA
   simp only [iw.j0] at H
   by_cases c5 : KA = true
   ·subst c5
    have H1 : (some (0, 0, false)) = some (r1, r2, r3) := by rw [if_pos rfl] at H; exact H
    clear H
    have H := H1
    clear H1
    simp only [Option.some.injEq, Prod.mk.injEq] at H
    obtain ⟨rfl, rfl, rfl⟩ := H
    go_wp2
    go_ret3
    exact ⟨by first | rfl | (simp [kZ, lg] <;> rfl) | (simp [*, kZ, lg] <;> rfl), by repeat (first | (with_reducible first | exact HB.out | apply aW | apply aQ | apply bJ) | exact HB.out)⟩
   ·replace c5 := Bool.eq_false_iff.mpr c5
    subst c5
    have H1 : (if a1 = 0 then (some (wrap64 ((wrap64 (a0 - 1)) - (wrap64 ((wrap64 ((wrap64 (Int.tdiv a0 2)) + (Int.tmod a0 2))) - 1))), wrap64 ((wrap64 ((wrap64 (Int.tdiv a0 2)) + (Int.tmod a0 2))) - 1), true)) else (some (wrap64 ((wrap64 (a0 - 1)) - (mx 1 (mn a1 (wrap64 (a0 - 2))))), mx 1 (mn a1 (wrap64 (a0 - 2))), true))) = some (r1, r2, r3) := by rw [if_neg (show ¬ (false = true) by decide)] at H; exact H
    clear H
    have H := H1
    clear H1
    obtain ⟨PN, Nu⟩ : ∃ j_ : Int, (mn a1 (wrap64 (a0 - 2))) = j_ := ⟨_, rfl⟩
    replace H : (if a1 = 0 then (some (wrap64 ((wrap64 (a0 - 1)) - (wrap64 ((wrap64 ((wrap64 (Int.tdiv a0 2)) + (Int.tmod a0 2))) - 1))), wrap64 ((wrap64 ((wrap64 (Int.tdiv a0 2)) + (Int.tmod a0 2))) - 1), true)) else (some (wrap64 ((wrap64 (a0 - 1)) - (mx 1 (PN))), mx 1 (PN), true))) = some (r1, r2, r3) := by first | (rw [Nu] at H; exact H) | (simp only [Nu] at H ⊢; exact H)
    have aj3 : (if (wrap64 (a0 - 2)) < a1 then (wrap64 (a0 - 2)) else a1) = PN := Nu
    obtain ⟨ji7, Nv⟩ : ∃ j_ : Int, (mx 1 (PN)) = j_ := ⟨_, rfl⟩
    replace H : (if a1 = 0 then (some (wrap64 ((wrap64 (a0 - 1)) - (wrap64 ((wrap64 ((wrap64 (Int.tdiv a0 2)) + (Int.tmod a0 2))) - 1))), wrap64 ((wrap64 ((wrap64 (Int.tdiv a0 2)) + (Int.tmod a0 2))) - 1), true)) else (some (wrap64 ((wrap64 (a0 - 1)) - (ji7)), ji7, true))) = some (r1, r2, r3) := by first | (rw [Nv] at H; exact H) | (simp only [Nv] at H ⊢; exact H)
    have aj6 : (if 1 < (PN) then (PN) else 1) = ji7 := Nv
    by_cases c8 : a1 = 0
    ·rw [if_pos c8] at H
     have Ez : (a1 == 0) = true := beq_iff_eq.mpr c8
     have af4 : (a1 != 0) = false := bne_eq_false_iff_eq.mpr c8
     clear c8
     simp only [Option.some.injEq, Prod.mk.injEq] at H
     obtain ⟨rfl, rfl, rfl⟩ := H
     go_wp2
     go_ret3
     exact ⟨by first | rfl | (simp [kZ, lg] <;> rfl) | (simp only [← Nu, ← Nv]; first | rfl | (simp [kZ, lg] <;> rfl)) | (simp [*, kZ, lg] <;> rfl), by repeat (first | (with_reducible first | exact HB.out | apply aW | apply aQ | apply bJ) | exact HB.out)⟩
    ·rw [if_neg c8] at H
     have Ez : (a1 == 0) = false := beq_eq_false_iff_ne.mpr c8
     have af4 : (a1 != 0) = true := bne_iff_ne.mpr c8
     simp only [Option.some.injEq, Prod.mk.injEq] at H
     obtain ⟨rfl, rfl, rfl⟩ := H
     go_wp2
     go_ret3
     exact ⟨by first | rfl | (simp [kZ, lg] <;> rfl) | (simp only [← Nu, ← Nv]; first | rfl | (simp [kZ, lg] <;> rfl)) | (simp [*, kZ, lg] <;> rfl), by repeat (first | (with_reducible first | exact HB.out | apply aW | apply aQ | apply bJ) | exact HB.out)⟩
mutual
def kQ.j0 : Nat → Int → Int → Bool → Option (Int × Int × Bool)
 | 0, _, _, _ => none
 | k + 1, x0, x1, zC => if zC = true then (some (0, 0, false)) else (if x1 = 0 then (if (Int.tmod x0 2) = 1 then (kQ.j1 k x0 (wrap64 (Int.tdiv x0 2))) else (kQ.j1 k x0 (wrap64 ((wrap64 (Int.tdiv x0 2)) - 1)))) else (kQ.j1 k x0 x1))
def kQ.j1 : Nat → Int → Int → Option (Int × Int × Bool)
 | 0, _, _ => none
 | k + 1, x0, x7 => if x7 < 1 then (if 1 > (wrap64 (x0 - 2)) then (some (wrap64 ((wrap64 (x0 - 1)) - (wrap64 (x0 - 2))), wrap64 (x0 - 2), true)) else (some (wrap64 ((wrap64 (x0 - 1)) - 1), 1, true))) else (if x7 > (wrap64 (x0 - 2)) then (some (wrap64 ((wrap64 (x0 - 1)) - (wrap64 (x0 - 2))), wrap64 (x0 - 2), true)) else (some (wrap64 ((wrap64 (x0 - 1)) - x7), x7, true)))
end
def kQ.f (k : Nat) (a0 : Int) (a1 : Int) : Option (Int × Int × Bool) := if a0 < 3 then (kQ.j0 k a0 a1 true) else (kQ.j0 k a0 a1 (decide (a1 < 0)))
end Go.Proofs.Ytfdmfgaiblfbhaa.P
namespace Go.Proofs.Ytfdmfgaiblfbhaa.P
open Go.RowKit Go.Proofs.ag.aA Go.Proofs.ag.a_ Go.Proofs.ag.bG
open Go.ChangeShapes Go.WideShapes Go.ChangeAt Go.Joins Go.Deep
def I64 (n : Int) : Prop := -9223372036854775808 ≤ n ∧ n ≤ 9223372036854775807
def U8 (n : Int) : Prop := 0 ≤ n ∧ n ≤ 255
def adA (r : dF) : Prop := I64 r.f0 ∧ I64 r.f1 ∧ I64 r.f2 ∧ I64 r.f3
def DW : Nat → ai → Prop
 | 0, _ => False
 | n + 1, c => U8 c.f0 ∧ adA c.f1 ∧ I64 c.f2 ∧ c.f3.length ≤ 9223372036854775807 ∧ ∀ k, k ∈ c.f3 → DW n k
def adC (c : ai) : Prop := ∃ n, DW n c
theorem Oi : ∀ {n m : Nat} (_ : n ≤ m) {c : ai}, DW n c → DW m c
 | 0, _, _, _, h => h.elim
 | n + 1, 0, hm, _, _ => absurd hm (by omega)
 | n + 1, m + 1, hm, _, h => ⟨h.1, h.2.1, h.2.2.1, h.2.2.2.1, fun k hk => Oi (by omega) (h.2.2.2.2 k hk)⟩
section
variable {H : Type} {enc : TypeId × Value → H} {P : Program} {w : World} {base : Nat} {spare : Nat → Bool} {held : Bool}
theorem row_of {α : Type} {Q : Nat → α → Prop} : ∀ (n : Nat), (∀ i, i < n → ∃ p, Q i p) → ∃ l : List α, l.length = n ∧ ∀ i p, l[i]? = some p → Q i p
 | 0, _ => ⟨[], rfl, fun i p h => by simp at h⟩
 | n + 1, h => by
  obtain ⟨l, hl, hq⟩ := row_of n fun i hi => h i (by omega)
  obtain ⟨p, hp⟩ := h n (by omega)
  refine ⟨l ++ [p], by simp [hl], fun i q hi => ?_⟩
  rcases Nat.lt_trichotomy i n with h1 | h1 | h1
  ·rw [List.getElem?_append_left (by omega)] at hi
   exact hq i q hi
  ·subst h1
   rw [List.getElem?_append_right (by omega), hl, Nat.sub_self] at hi
   obtain rfl : p = q := by simpa using hi
   exact hp
  ·rw [List.getElem?_eq_none (by simp; omega)] at hi
   cases hi
theorem cells_at {a : Addr} {n : Nat} {cs : List Value} (h : w.cells? base a n = some cs) : cs.length = n ∧ ∀ i u, cs[i]? = some u → w.cell? (a.add i) = some u := by
 obtain ⟨_, h1, h2⟩ := World.cells?_some h
 exact ⟨h1, fun i u hi => by
  have hlt : i < n := by rw [← h1]; exact (List.getElem?_eq_some_iff.1 hi).1
  rw [h2 i hlt, hi]⟩
end
section
variable {H : Type} {enc : TypeId × Value → H} {w : World} {base : Nat} {spare : Nat → Bool} {held : Bool}
theorem zh {n : Int} (h : (Lit.int .i64 n).wf = true) : I64 n := by
 have := bounds_i64 h
 unfold I64
 omega
theorem XN {n : Int} (h : (Lit.int .u8 n).wf = true) : U8 n := bounds_u8 h
theorem aa_ {a : Array Value} {l : List Value} (h : (Value.agg a).cells.toList = l) : a = l.toArray := by
 subst h
 simp [Value.cells]
theorem cells23 : Try.prog.cellsOf 23 = 4 := by kernel_rfl
theorem cells26 : Try.prog.cellsOf 26 = 7 := by kernel_rfl
theorem cells3 : Try.prog.cellsOf 3 = 1 := by kernel_rfl
theorem cells5 : Try.prog.cellsOf 5 = 1 := by kernel_rfl
theorem cells24 : Try.prog.cellsOf 24 = 1 := by kernel_rfl
theorem ada {fuel : Nat} {cs : List Value} {x : DataW H × List MemPlace} (h : DataW.trod enc Try.prog w base spare held fuel 23 cs = some x) : ∃ r : dF, k23.K w r cs ∧ adA r := by
 obtain ⟨y0, y1, y2, y3, n, _, hl, h0, h1, h2, h3⟩ := trod_struct4 Try.underlying23 h
 rw [cells23] at hl
 match cs, hl with
 | [c0, c1, c2, c3], _ =>
  simp only [cells3, List.drop_zero, List.take_succ_cons, List.take_zero, List.drop_succ_cons] at h0 h1 h2 h3
  obtain ⟨n0, e0, _, w0⟩ := DataW.trod_int Try.underlying3 h0
  obtain ⟨n1, e1, _, w1⟩ := DataW.trod_int Try.underlying3 h1
  obtain ⟨n2, e2, _, w2⟩ := DataW.trod_int Try.underlying3 h2
  obtain ⟨n3, e3, _, w3⟩ := DataW.trod_int Try.underlying3 h3
  simp only [List.cons.injEq, and_true] at e0 e1 e2 e3
  subst e0 e1 e2 e3
  exact ⟨⟨n0, n1, n2, n3⟩, NC w ⟨n0, n1, n2, n3⟩, zh w0, zh w1, zh w2, zh w3⟩
end
end Go.Proofs.Ytfdmfgaiblfbhaa.P
namespace Go.Proofs.Ytfdmfgaiblfbhaa.P
open Go.RowKit Go.Proofs.ag.aA Go.Proofs.ag.a_ Go.Proofs.ag.bG
def Ce (s size : Int) : Int := if size = 0 then s / 2 + s % 2 - 1 else max 1 (min size (s - 2))
def xw (s size : Int) : Int × Int × Bool := if s < 3 ∨ size < 0 then (0, 0, false) else (s - 1 - Ce s size, Ce s size, true)
theorem ZF {s size : Int} (h3 : 3 ≤ s) (_ : 0 ≤ size) : 1 ≤ Ce s size ∧ Ce s size ≤ s - 2 := by
 unfold Ce
 split <;> omega
theorem aeW {s : Int} (h : 0 ≤ s) : Int.tdiv s 2 = s / 2 := Int.tdiv_eq_ediv_of_nonneg h
theorem aeX {s : Int} (h : 0 ≤ s) : Int.tmod s 2 = s % 2 := Int.tmod_eq_emod_of_nonneg h
theorem aeH (a b : Int) : mx a b = max a b := by unfold mx; split <;> omega
theorem aeF (a b : Int) : mn a b = min a b := by unfold mn; split <;> omega
theorem Rn (s size : Int) (hs : I64 s) (hz : I64 size) : Ev (fun k => iw.f k s size) (xw s size) := by
 unfold I64 at hs hz
 have no : Ev (fun k => iw.j0 k s size true) (0, 0, false) := by
  refine Ev.step (f := fun _ => some (0, 0, false)) (fun k => ?_) (Ev.now _)
  simp only [iw.j0]
  rw [if_pos trivial]
 unfold xw iw.f
 by_cases h3 : s < 3
 ·rw [if_pos (.inl h3)]
  exact F8 h3 no
 ·refine abU h3 ?_
  by_cases h0 : size < 0
  ·rw [if_pos (.inr h0), decide_eq_true h0]
   exact no
  ·rw [if_neg (fun h => h.elim h3 h0), decide_eq_false h0]
   have hb := ZF (s := s) (size := size) (by omega) (by omega)
   refine Ev.step (f := fun _ => some (s - 1 - Ce s size, Ce s size, true)) (fun k => ?_) (Ev.now _)
   simp only [iw.j0]
   rw [if_neg (by simp)]
   unfold Ce at hb ⊢
   by_cases hz0 : size = 0
   ·rw [if_pos hz0] at hb
    rw [if_pos hz0, if_pos hz0, aeW (by omega), aeX (by omega), wq (x := s / 2) (by omega) (by omega), wq (x := s / 2 + s % 2) (by omega) (by omega), wq (x := s / 2 + s % 2 - 1) (by omega) (by omega), wq (x := s - 1) (by omega) (by omega), wq (by omega) (by omega)]
   ·rw [if_neg hz0] at hb
    rw [if_neg hz0, if_neg hz0, aeH, aeF, wq (x := s - 2) (by omega) (by omega), wq (x := s - 1) (by omega) (by omega), wq (by omega) (by omega)]
def zx (r : dF) (ax n id : Int) : ai := ⟨1, ⟨r.f0, r.f1, if ax = 1 then n else r.f2, if ax = 1 then r.f3 else n⟩, id, []⟩
def yQ (ax size fresh : Int) (ahead : Bool) (leaf : ai) : List ai :=
 if ahead = true then [zx leaf.f1 ax (xw (aI ax leaf.f1) size).2.1 fresh, zx leaf.f1 ax (xw (aI ax leaf.f1) size).1 leaf.f2]
 else [zx leaf.f1 ax (xw (aI ax leaf.f1) size).1 leaf.f2, zx leaf.f1 ax (xw (aI ax leaf.f1) size).2.1 fresh]
theorem Z_ (ax size fresh : Int) (ahead : Bool) (leaf : ai) : (yQ ax size fresh ahead leaf).length = 2 := by unfold yQ; split <;> rfl
theorem N9 (r : dF) (ax n id : Int) : sz (zx r ax n id) = 1 := by rw [dB]; show 1 + dM [] = 1; rw [lW]
theorem adw (ax size fresh : Int) (ahead : Bool) (leaf : ai) : dM (yQ ax size fresh ahead leaf) = 2 := by
 unfold yQ
 split <;> rw [b_, b_, lW, N9, N9]
def jv (id ax size fresh : Int) (c : ai) : Int :=
 if bW c = false ∨ ¬ (ax = 1 ∨ ax = 2) ∨ size < 0 ∨ fresh < 0 ∨ fresh > 2147483647 ∨ (dI fresh c).isSome = true then 1 else match dI id c with
 | none => 6
 | some p => match iU c p with
  | none => 6
  | some leaf => if aI ax leaf.f1 < 3 then 7 else 0
def Ba (id ax size fresh : Int) (ahead : Bool) (c : ai) : ai := if jv id ax size fresh c = 0 then gz (BX id ax (yQ ax size fresh ahead ((iU c ((dI id c).getD [])).getD z26)) c) c.f1.f0 c.f1.f1 else z26
structure Splits (id ax size fresh : Int) (c : ai) (p : List Int) (leaf : ai) : Prop where
 xA : bW c = true
 hax : ax = 1 ∨ ax = 2
 s0 : 0 ≤ size
 f0 : 0 ≤ fresh ∧ fresh ≤ 2147483647
 new : dI fresh c = none
 find : dI id c = some p
 at' : iU c p = some leaf
 big : 3 ≤ aI ax leaf.f1
theorem splits {id ax size fresh : Int} {c : ai} (h : jv id ax size fresh c = 0) : ∃ p leaf, Splits id ax size fresh c p leaf := by
 unfold jv at h
 split at h
 ·cases h
 ·rename_i h1
  simp only [not_or, Bool.not_eq_false, Bool.not_eq_true, Option.isSome_eq_false_iff, Option.isNone_iff_eq_none, Int.not_lt] at h1
  obtain ⟨a, b, s0, f0, f1, g⟩ := h1
  cases hf : dI id c with
  | none => rw [hf] at h; cases h
  | some p =>
   rw [hf] at h
   simp only [] at h
   cases hx : iU c p with
   | none => rw [hx] at h; cases h
   | some leaf =>
    rw [hx] at h
    simp only [] at h
    split at h
    ·cases h
    ·rename_i h3
     exact ⟨p, leaf, a, by omega, s0, ⟨f0, by omega⟩, g, hf, hx, by omega⟩
theorem rJ {id ax size fresh n : Int} {ahead : Bool} {c : ai} (h : jv id ax size fresh c = n) (h0 : n ≠ 0) : Ba id ax size fresh ahead c = z26 := by
 unfold Ba
 rw [if_neg (by rw [h]; exact h0)]
theorem Splits.z {id ax size fresh : Int} {ahead : Bool} {c : ai} {p : List Int} {leaf : ai} (h : Splits id ax size fresh c p leaf) (h0 : jv id ax size fresh c = 0) : Ba id ax size fresh ahead c = gz (BX id ax (yQ ax size fresh ahead leaf) c) c.f1.f0 c.f1.f1 := by
 unfold Ba
 rw [if_pos h0, h.find]
 simp only [Option.getD_some, h.at']
theorem aew (id ax : Int) (L : List ai) : ∀ (N : Nat), (∀ c : ai, sz c ≤ N → ∀ p, dI id c = some p → (dZ c).all lC = true → dH ((dZ c).filter fun x => decide (x.f0 = 1)) = true → sz (BX id ax L c) ≤ sz c + dM L) := by
 intro N
 induction N with
 | zero => intro c h; rw [dB] at h; omega
 | succ N ih =>
  intro c hc p hf hok hd
  have hoc := nU hok
  have hcs := dB c
  rw [p_] at hf
  split at hf
  ·rename_i h1
   rw [zi, if_pos h1.1, if_pos h1.2, dB]
   show 1 + dM L ≤ _
   omega
  ·have h0 : c.f0 ≠ 1 := by
    intro e
    rcases vG hoc with ⟨_, h3⟩ | ⟨h3, _⟩
    ·rw [List.eq_nil_of_length_eq_zero h3, mM] at hf; cases hf
    ·omega
   obtain ⟨pre, k, post, q, e, hpre, hk, rfl⟩ := zX hf
   have Ny : k ∈ c.f3 := by rw [e]; simp
   have hdl : dH ((allL (pre ++ k :: post)).filter fun x => decide (x.f0 = 1)) = true := by
    rw [← e]
    rw [jY, List.filter_cons, if_neg (by simpa using h0)] at hd
    exact hd
   have hpost := MP hdl hk
   rw [zi, if_neg h0, dB]
   show 1 + dM (xZ id ax L (iT ax c.f0) c.f3) ≤ _
   rw [e, PM, vF, Ag id ax L _ pre hpre, Ag id ax L _ post hpost, jH, jH]
   rw [e, jH, b_] at hcs
   split
   ·omega
   ·have hks : sz k ≤ N := by have := yt Ny; have := dB c; omega
    have hdk : dH ((dZ k).filter fun x => decide (x.f0 = 1)) = true := by
     rw [oK, g_, List.filter_append, List.filter_append] at hdl
     exact Pure.xg _ _ (Pure.tq _ _ hdl)
    have := ih k hks q hk (DL hok Ny) hdk
    rw [b_, lW]
    omega
theorem Rx {c : ai} (h : bW c = true) : (dZ c).all lC = true ∧ dH ((dZ c).filter fun x => decide (x.f0 = 1)) = true := by
 have hm := lS h
 have h1 := sO hm
 unfold kD at hm
 simp only [Bool.and_eq_true] at hm
 exact ⟨h1, hm.2.2⟩
end Go.Proofs.Ytfdmfgaiblfbhaa.P
namespace Go.Proofs.Ytfdmfgaiblfbhaa.Pure
open Go.RowKit Go.Proofs.Ytfdmfgaiblfbhaa.P Go.Proofs.ag.aA Go.Proofs.ag.a_ Go.Proofs.ag.bG
end Go.Proofs.Ytfdmfgaiblfbhaa.Pure
namespace Go.Proofs.Ytfdmfgaiblfbhaa.P
open Go.RowKit Go.Proofs.ag.aA Go.Proofs.ag.a_ Go.Proofs.ag.bG
section
variable {W : World} {b : Nat} {P : Nat → Prop} {A : Option Addr} {cc : Nat}
theorem ZT (r : dF) (ax : Int) : Calls Try.prog 87 #[.agg #[.int .i64 r.f0, .int .i64 r.f1, .int .i64 r.f2, .int .i64 r.f3], .int .u8 ax] W fun e w' => e = .returned (.int .i64 (aI ax r)) ∧ Below W.heap.size W w' :=
 pz.calls r.f0 r.f1 r.f2 r.f3 ax _ W (Rk r ax)
end
section
variable {Pr : Program} {ops : Array Oper} {rest : List Oper} {op : Oper} {a : Act} {Q : Exit → Act → World → Prop} {w W : World} {P : Nat → Prop} {bs : List (Option Nat × Obj)} {ow : List (Value × List ai)} {ts : List (Value × List ai)} {ro : List (Addr × Value)}
end
abbrev InP (w : World) (P : Nat → Prop) (z : ai) (e : Ending) (w' : World) : Prop := ∃ A c, e = .returned (.agg #[.int .u8 z.f0, .int .i64 z.f1.f0, .int .i64 z.f1.f1, .int .i64 z.f1.f2, .int .i64 z.f1.f3, .int .i64 z.f2, .slice A z.f3.length c]) ∧ Kd.V k26 26 w' w.heap.size (fun k => P k ∨ w.heap.size ≤ k) (.slice A z.f3.length c) z.f3 ∧ Below w.heap.size w w'
def sS.T3 : Bool × List (List Nat × List Nat) := (true, [([], []), ([], []), ([], []), ([1, 2], [1, 2]), ([0, 3], [0, 3]), ([4], [4]), ([5], [5]), ([5], [5]), ([], []), ([8, 6, 4, 0, 1, 2, 3, 4, 5, 6, 8], [6, 8]), ([7, 9, 0, 1, 2, 3, 4, 5, 6, 7, 8, 9], [7])])
def sS.B3 : List Nat := [0, 0, 0, 6, 15, 31, 63, 63, 0, 383, 1023]
theorem sS.E8 : iJ .any (opsOf Try.f166 3) = sS.T3 := by kernel_rfl
theorem sS.zO : jm sS.T3.2 sS.B3 = true := by kernel_rfl
def wO.T5 : Bool × List (List Nat × List Nat) := (true, [([], []), ([0], [0]), ([], []), ([], []), ([2, 3], [2, 3]), ([4], [4]), ([], []), ([], []), ([6, 7], [6, 7]), ([8], [8]), ([9], [9]), ([], []), ([1, 5, 10, 11], [1, 5, 10, 11]), ([0, 1, 2, 3, 4, 5, 6, 7, 8, 9, 10, 11, 12], []), ([13, 12, 12, 0, 1, 2, 3, 4, 5, 6, 7, 8, 9, 10, 11, 12], [12, 13])])
def wO.B5 : List Nat := [0, 1, 0, 0, 12, 28, 0, 0, 192, 448, 960, 0, 4095, 8191, 16383]
theorem wO.Oa : iJ .any (opsOf Try.f166 5) = wO.T5 := by kernel_rfl
theorem wO.FM : jm wO.T5.2 wO.B5 = true := by kernel_rfl
def wP.T6 : Bool × List (List Nat × List Nat) := (true, [([], []), ([], []), ([], []), ([], []), ([2, 3], [2, 3]), ([0, 1, 4], [0, 1, 4]), ([5], [5]), ([6], [6]), ([6], [6]), ([], []), ([9, 7, 5, 0, 1, 2, 3, 4, 5, 6, 7, 9], [7, 9]), ([8, 10, 0, 1, 2, 3, 4, 5, 6, 7, 8, 9, 10], [8])])
def wP.B6 : List Nat := [0, 0, 0, 0, 12, 31, 63, 127, 127, 0, 767, 2047]
theorem wP.tab6 : iJ .any (opsOf Try.f166 6) = wP.T6 := by kernel_rfl
theorem wP.FN : jm wP.T6.2 wP.B6 = true := by kernel_rfl
theorem ZR (l L : List ai) (k : Nat) : dM (vW l k L) ≤ dM l + dM L := by
 have h1 : dM (l.take k) + dM (l.drop k) = dM l := by rw [← jH, List.take_append_drop]
 have h2 : dM (l.drop (k + 1)) ≤ dM (l.drop k) := by
  rw [← List.drop_drop]
  cases h : l.drop k with
  | nil => simp
  | cons x xs => rw [b_]; simp
 unfold vW
 rw [jH, jH]
 omega
theorem adb {L M : List ai} {args : Array Value} {w W : World} {P : Nat → Prop} {bs : List (Option Nat × Obj)} {ts : List (Value × List ai)} {ro : List (Addr × Value)} (h : M = L) (hc : Calls Try.prog 189 args W fun e w' => ∃ A c', e = .returned (.slice A M.length c') ∧ St w P bs [(.slice A M.length c', M)] ts ro w') :
  Calls Try.prog 189 args W fun e w' => ∃ A c', e = .returned (.slice A L.length c') ∧ St w P bs [(.slice A L.length c', L)] ts ro w' := by
 rw [h] at hc
 exact hc
theorem Zv (ax : Int) (hax : ax = 1 ∨ ax = 2) (c leaf : ai) (p : List Int) (L : List ai) (z : ai) (hj : Ah ax L c p leaf = some z) (hat : iU c p = some leaf) (hz : sz c ≤ 800000) (hp : p.length ≤ 1000000) (hL : L.length = 2) (hLz : dM L ≤ 1000) (P : Nat → Prop) (A : Option Addr) (cc : Nat) (Al : Option Addr) (cl : Nat) (B : Option Addr) (cb : Nat) (ga cL : Nat) (ca : Array Value) (w : World)
  (hv : Kd.V k26 26 w w.heap.size P (.slice A c.f3.length cc) c.f3) (hi : Kd.C (Kd.int .i64) w B p.length p) (hb : p.length ≤ cb) (hvL : Kd.V k26 26 w w.heap.size P (.slice (some ⟨ga, 0, none⟩) L.length cL) L) (hga : w.heap[ga]? = some (.cells ca 26 (0, 0))) (hca : ca.size ≠ 0) :
  Calls Try.prog 166 #[.agg #[.int .u8 c.f0, .int .i64 c.f1.f0, .int .i64 c.f1.f1, .int .i64 c.f1.f2, .int .i64 c.f1.f3, .int .i64 c.f2, .slice A c.f3.length cc], .slice B p.length cb, .agg #[.int .u8 leaf.f0, .int .i64 leaf.f1.f0, .int .i64 leaf.f1.f1, .int .i64 leaf.f1.f2, .int .i64 leaf.f1.f3, .int .i64 leaf.f2, .slice Al leaf.f3.length cl], .int .u8 ax, .slice (some ⟨ga, 0, none⟩) L.length cL] w (InP w P z) := by
 have S := ae.mk (St.start (ts := [(.slice A c.f3.length cc, c.f3), (.slice (some ⟨ga, 0, none⟩) L.length cL, L)]) (b0 := w.heap.size) (w := w) (P := P) (fun t ht => by
  rcases List.mem_cons.1 ht with rfl | ht
  ·exact hv
  ·rw [List.mem_singleton.1 ht]; exact hvL))
 have HZ := ae.mk (show sz c ≤ 1000000 by omega)
 have Su := ae.mk hz
 have HI := ae.mk hi
 have HB := ae.mk hb
 have HGA := ae.mk hga
 have Fq := ae.mk hca
 have HL2 := ae.mk hL
 have hnz : sz (AL ax leaf L) ≤ 1000000 := by rw [dB]; show 1 + dM L ≤ _; omega
 have hHL := ae.mk hLz
 have hm1 : (ax - 1) % 256 = ax - 1 := by omega
 have hm2 : (ax - 1 + 2) % 256 = ax - 1 + 2 := by omega
 unfold Ah at hj
 clear hv hi hb hvL hga hca hz hL hLz
 by_cases h0 : p.length = 0
 case pos =>
  have hp0 := List.length_eq_zero_iff.1 h0
  subst hp0
  rw [if_pos (show ([] : List Int).length = 0 from rfl)] at hj
  have xN := ae.mk hj
  have xk := ae.mk hnz
  clear hj h0 hp hat hax hnz
  obtain ⟨ck, ⟨cx, cy, cw, ch⟩, aV, l⟩ := c
  obtain ⟨ek, ⟨ex, ey, ew, eh⟩, Tu, le⟩ := leaf
  unfold AL at *
  have Sr := ae.mk (show ax + 1 = ax - 1 + 2 by omega)
  rw [Sr.out] at xN xk
  clear Sr
  simp only [] at S HZ Su xN xk ⊢
  go_enter Try.func166, Try.ntmps166
  go_wp2_with (first
   | (refine boxS 5 _ 26 S ?_; clear S; intro b5 fH S)
   | (refine boxS 7 _ 26 S ?_; clear S; intro b7 ik S)
   | (refine boxS 10 _ 26 S ?_; clear S; intro b10 iq S; obtain ⟨Dx, qJ, qK, qL, qM, yC, Dy⟩ := St.eX S dX; have Kt := (S.out.at dG 1).trans rfl; have Ku := (S.out.at dG 2).trans rfl; have Dz := (S.out.at dG 3).trans rfl; have DC := (S.out.at dG 4).trans rfl)
   | (refine nO (some 68) Try.func102 (Kz ⟨ck, ⟨cx, cy, cw, ch⟩, aV, l⟩ ⟨ax - 1 + 2, ⟨ex, ey, ew, eh⟩, 0, L⟩ [] z xN.out HZ.out xk.out (S.out.tree _ (.head _)) (S.out.tree _ dG) (Kd.dL HI.out S.out.below) HB.out) ?_; rintro e nI ⟨Ay, yD, rfl, h1, hb⟩; refine ⟨_, rfl, ?_⟩; replace S := ae.mk (S.out.res (Kd.D6 (base' := 0) h1) hb); clear h1 hb; clear Dx qJ qK qL qM yC Dy Kt Ku Dz DC)
   | (refine boxS 16 _ 26 S ?_; clear S; intro b16 oH S)
   | (refine jg 26 16 69 #[.int .u8 z.f0, .int .i64 z.f1.f0, .int .i64 z.f1.f1, .int .i64 z.f1.f2, .int .i64 z.f1.f3, .int .i64 z.f2, .slice Ay z.f3.length yD] 0 7 S ?_; clear S; intro uo S; obtain ⟨BD, BF, BG, BH, L6, L8, L9⟩ := St.eX S (.head _))
   | (refine NR 26 10 71 #[.int .u8 z.f0, .int .i64 z.f1.f0, .int .i64 z.f1.f1, .int .i64 z.f1.f2, .int .i64 z.f1.f3, .int .i64 z.f2, .slice Ay z.f3.length yD] 0 7 S ?_; clear S; intro wV S; clear BD BF BG BH L6 L8 L9)
   | fail)
  refine bodyPost_ret (results_cell_row rfl _ _ b10 26 _ (0, 0) _ rfl (S.out.blk _ dG _ rfl) Try.underlying26 rfl (by kernel_rfl)) rfl ?_
  exact ⟨_, _, rfl, S.out.QZ (b0 := w.heap.size) (.head _), S.out.below⟩
 case neg =>
  rw [if_neg h0] at hj
  obtain ⟨n, hn⟩ : ∃ n, p.length = n + 1 := ⟨p.length - 1, by omega⟩
  have HW0 : IntKind.i64.wrap ((p.length : Int) - 1) = (n : Int) := by rw [IntKind.wrap_i64]; omega
  have hn0 : decide ((n : Int) ≥ 0) = true := decide_eq_true (Int.natCast_nonneg _)
  have akh : (0 : Int) ≤ (n : Int) := Int.natCast_nonneg _
  rw [show p.length - 1 = n by omega] at hj
  obtain ⟨aX, BU, hi0, hi1⟩ := abd p c _ hat n (by omega)
  rw [BU] at hj
  simp only [] at hj
  obtain ⟨pq, hpq⟩ : ∃ pq, pq = p.take n := ⟨_, rfl⟩
  have hpl : pq.length = n := by rw [hpq, List.length_take]; omega
  rw [← hpq] at BU hj
  have HAT := ae.mk BU
  have Qi := ae.mk (show pq.length ≤ 1048576 by omega)
  have OD := ae.mk (show Kd.C (Kd.int .i64) w B pq.length pq by rw [hpq]; exact Kd.aaB HI.out (by omega))
  have OC := ae.mk (show pq.length ≤ cb by have := HB.out; omega)
  have hcut : ∀ W : World, (Instr.slice 41 (.slice B p.length cb) none (some (.int .i64 (n : Int))) none).run Try.prog W = .ok (.slice B pq.length cb) W := by
   intro W
   obtain ⟨i0, hi0, _, hsz, _⟩ := info_parts info3
   have h := abM (P := Try.prog) 41 3 .i64 Try.underlying41 hi0 B p.length cb (n : Int) (Int.natCast_nonneg _) (by omega) HB.out W
   rw [Int.toNat_natCast, show n = pq.length by omega] at h
   rw [show n = pq.length by omega]
   exact h
  have hpz := OV _ _ _ BU
  have hpe := dB aX
  have hpl2 := ku aX.f3
  have Xg := ae.mk (show 0 < aX.f3.length by omega)
  clear h0 hpq BU hax hat
  cases ha : iT ax aX.f0 with
  | false =>
   rw [ha, if_neg (by simp)] at hj
   have xN := ae.mk hj
   have xk := ae.mk hnz
   have HA := ae.mk ha
   clear ha hj hnz hpz hpe hpl2 hi0 hi1 hp hn hpl
   obtain ⟨ck, ⟨cx, cy, cw, ch⟩, aV, l⟩ := c
   obtain ⟨ek, ⟨ex, ey, ew, eh⟩, Tu, le⟩ := leaf
   unfold AL at *
   have Sr := ae.mk (show ax + 1 = ax - 1 + 2 by omega)
   rw [Sr.out] at xN xk
   clear Sr
   simp only [] at S HZ Su xN xk ⊢
   go_enter Try.func166, Try.ntmps166
   go_wp2_with (first
    | (refine boxS 5 _ 26 S ?_; clear S; intro b5 fH S)
    | (refine boxS 7 _ 26 S ?_; clear S; intro b7 ik S)
    | (refine boxS 10 _ 26 S ?_; clear S; intro b10 iq S)
    | fail)
   refine jL (n := 11) (S := fun w' => St w _ _ _ _ _ w') (ds := [9]) (bA 11 0) (by kernel_rfl) rfl rfl (S.out.call (bC (Below.refl _ _))) (fun hHeld => ?_); refine fP sS.E8 sS.zO (fun au fE => ?_)
   replace S := ae.mk (S.out.call (bC (Below.refl _ _)))
   generalize iq.drew = wd4 at S hHeld ⊢
   refine eQ 0 24 (bA 11 1) au fE hHeld ?_ (hv := by intro w' hs_; have Dx := (hs_.at dX 0).trans rfl; have qJ := (hs_.at dX 1).trans rfl; have qK := (hs_.at dX 2).trans rfl; have qL := (hs_.at dX 3).trans rfl; have qM := (hs_.at dX 4).trans rfl; have yC := (hs_.at dX 5).trans rfl; have Dy := (hs_.at dX 6).trans rfl; go_simp; with_reducible rfl)
   refine aC 1 25 (bA 11 3) au ?_
   refine aC 2 26 (bA 11 7) au ?_
   refine aC 3 27 (bA 11 15) au ?_
   refine GL (σ := Nat × Nat × Nat) 2 (bA 11 511) (fun s_ => [(28, .tuple #[.agg #[.int .u8 aX.f0, .int .i64 aX.f1.f0, .int .i64 aX.f1.f1, .int .i64 aX.f1.f2, .int .i64 aX.f1.f3, .int .i64 aX.f2, .slice (some ⟨s_.1, 0, none⟩) aX.f3.length s_.2.1], .bool true]), (23, .tuple #[.agg #[.int .u8 aX.f0, .int .i64 aX.f1.f0, .int .i64 aX.f1.f1, .int .i64 aX.f1.f2, .int .i64 aX.f1.f3, .int .i64 aX.f2, .slice (some ⟨s_.1, 0, none⟩) aX.f3.length s_.2.1], .bool true]), (29, .agg #[.int .u8 aX.f0, .int .i64 aX.f1.f0, .int .i64 aX.f1.f1, .int .i64 aX.f1.f2, .int .i64 aX.f1.f3, .int .i64 aX.f2, .slice (some ⟨s_.1, 0, none⟩) aX.f3.length s_.2.1]), (30, .bool true), (12, .pointer (some ⟨s_.2.2, 0, none⟩))]) (fun s_ w' => St w P [(some s_.2.2, .cells #[.int .u8 0, .int .i64 0, .int .i64 0, .int .i64 0, .int .i64 0, .int .i64 0, .slice none 0 0] 26 (0, 0)), (some b10, .cells #[.int .u8 0, .int .i64 0, .int .i64 0, .int .i64 0, .int .i64 0, .int .i64 0, .slice none 0 0] 26 (0, 0)), (some b7, .cells #[.int .u8 ek, .int .i64 ex, .int .i64 ey, .int .i64 ew, .int .i64 eh, .int .i64 Tu, .slice Al le.length cl] 26 (0, 0)), (some b5, .cells #[.int .u8 ck, .int .i64 cx, .int .i64 cy, .int .i64 cw, .int .i64 ch, .int .i64 aV, .slice A l.length cc] 26 (0, 0))] [(.slice (some ⟨s_.1, 0, none⟩) aX.f3.length s_.2.1, aX.f3)] [(.slice A l.length cc, l), (.slice (some ⟨ga, 0, none⟩) L.length cL, L)] [] w') ?_ ?_
   rotate_left
   ·intro qf
    refine Je (i := 4) (j := 8) (Ni := some 28) (Nj := some 12) (bA 11 31) (bA 11 271) rfl rfl rfl rfl (zy au.out (by kernel_rfl)) (by decide) (by decide) (fun K hK => ?_) (fun K hK => ?_)
    ·skip
     refine mG Try.func91 #[.agg #[.int .u8 ck, .int .i64 cx, .int .i64 cy, .int .i64 cw, .int .i64 ch, .int .i64 aV, .slice A l.length cc], .slice B pq.length cb] ?_
     refine (yM ⟨ck, ⟨cx, cy, cw, ch⟩, aV, l⟩ pq aX HAT.out Qi.out HZ.out (S.out.tree _ (.head _)) (Kd.dL OD.out S.out.below) OC.out).mono ?_
     rintro e oH ⟨Az, cz, rfl, h1, hb⟩
     refine ⟨_, rfl, ?_⟩
     obtain ⟨gr, LZ, ev, _⟩ := Kd.su h1 Xg.out
     injection ev with e1 e2 e3
     subst e1
     clear e2 e3
     replace S := ae.mk (S.out.yf h1 hb)
     clear h1 hb
     refine hK.out _ _ S.out.free.eU (fun hHeld => ?_)
     clear hK K
     refine fK 28 ?_
     refine aC 5 23 (bA 11 63) au ?_
     refine aC 6 29 (bA 11 127) au ?_
     refine aC 7 30 (bA 11 255) au ?_
     refine lI 8 (some 12) (bA 11 511) au (fun K hK => ?_)
     refine m_ ?hg (N := 12) ?hd (cs := #[.int .u8 0, .int .i64 0, .int .i64 0, .int .i64 0, .int .i64 0, .int .i64 0, .slice none 0 0]) (t := 26) ?hr ?_; (case hd => rfl); (case hg => rfl); (case hr => first | (go_simp; done) | (go_simp; rfl))
     intro b12 hg uo hbox hb
     replace S := ae.mk (S.out.box hg hbox hb)
     clear hg hbox hb
     refine hK.out _ _ S.out.gX.free.eU (fun hHeld => ?_)
     clear hK K
     refine fK 12 ?_
     exact qQ (by simp only [kL, Act.put, List.setIfInBounds_toArray, List.set_cons_zero, List.set_cons_succ] <;> rfl) (qf (gr, cz, b12) _ S.out)
    ·skip
     refine m_ ?hg (N := 12) ?hd (cs := #[.int .u8 0, .int .i64 0, .int .i64 0, .int .i64 0, .int .i64 0, .int .i64 0, .slice none 0 0]) (t := 26) ?hr ?_; (case hd => rfl); (case hg => rfl); (case hr => first | (go_simp; done) | (go_simp; rfl))
     intro b12 hg wV hbox hb
     replace S := ae.mk (S.out.box hg hbox hb)
     clear hg hbox hb
     refine hK.out _ _ S.out.gX (fun hHeld => ?_)
     clear hK K
     refine fK 12 ?_
     refine lI 4 (some 28) (bA 11 287) au (fun K hK => ?_)
     refine mG Try.func91 #[.agg #[.int .u8 ck, .int .i64 cx, .int .i64 cy, .int .i64 cw, .int .i64 ch, .int .i64 aV, .slice A l.length cc], .slice B pq.length cb] ?_
     refine (yM ⟨ck, ⟨cx, cy, cw, ch⟩, aV, l⟩ pq aX HAT.out Qi.out HZ.out (S.out.tree _ (.head _)) (Kd.dL OD.out S.out.below) OC.out).mono ?_
     rintro e Hw ⟨Az, cz, rfl, h1, hb⟩
     refine ⟨_, rfl, ?_⟩
     obtain ⟨gr, LZ, ev, _⟩ := Kd.su h1 Xg.out
     injection ev with e1 e2 e3
     subst e1
     clear e2 e3
     replace S := ae.mk (S.out.yf h1 hb)
     clear h1 hb
     refine hK.out _ _ S.out.gX.free.eU (fun hHeld => ?_)
     clear hK K
     refine fK 28 ?_
     refine aC 5 23 (bA 11 319) au ?_
     refine aC 6 29 (bA 11 383) au ?_
     refine aC 7 30 (bA 11 511) au ?_
     exact qQ (by simp only [kL, Act.put, List.setIfInBounds_toArray, List.set_cons_zero, List.set_cons_succ] <;> rfl) (qf (gr, cz, b12) _ S.out)
   rintro ⟨gr, cz, b12⟩ wj9 S1
   simp only [kL, Act.put, List.setIfInBounds_toArray, List.set_cons_zero, List.set_cons_succ]
   replace S := ae.mk S1
   clear S1 hHeld
   have hHeld := S.out.gX.free.eU
   refine uG 9 none (bA 11 1023) au (fun K hK => ?_)
   refine xJ 0 rfl 26 (.tmp 12) (.tmp 29) rfl #[.int .u8 aX.f0, .int .i64 aX.f1.f0, .int .i64 aX.f1.f1, .int .i64 aX.f1.f2, .int .i64 aX.f1.f3, .int .i64 aX.f2, .slice (some ⟨gr, 0, none⟩) aX.f3.length cz] (j := 0) (u := .agg #[.int .u8 aX.f0, .int .i64 aX.f1.f0, .int .i64 aX.f1.f1, .int .i64 aX.f1.f2, .int .i64 aX.f1.f3, .int .i64 aX.f2, .slice (some ⟨gr, 0, none⟩) aX.f3.length cz]) (bF := [.int .u8 aX.f0, .int .i64 aX.f1.f0, .int .i64 aX.f1.f1, .int .i64 aX.f1.f2, .int .i64 aX.f1.f3, .int .i64 aX.f2, .slice (some ⟨gr, 0, none⟩) aX.f3.length cz]) S.out (by rfl) rfl rfl rfl rfl (by kernel_rfl) (by simp [Value.oneCell']) (by first | decide | simp) rfl ?_
   intro Fb S1
   simp only [List.set_cons_zero, List.set_cons_succ] at S1
   replace S := ae.mk S1
   clear S1
   refine hK.out _ _ ?_
   clear hK K
   refine aC 10 13 (bA 11 2047) au ?_
   refine lh (jb au.out (by kernel_rfl)) ?_
   clear hHeld
   obtain ⟨FP, FQ, FT, FU, FV, FW, BC⟩ := St.eX S (.head _)
   go_wp2_with (first
    | (refine bQ (some 33) Try.func99 S (OU (c := aX) HA.out (Kd.D6 (base' := 0) (S.out.own _ (.head _)))) ?_; clear S; intro Oe S; clear FP FQ FT FU FV FW BC; obtain ⟨Dx, qJ, qK, qL, qM, yC, Dy⟩ := St.eX S jT; have Kt := (S.out.at dX 1).trans rfl; have Ku := (S.out.at dX 2).trans rfl; have Dz := (S.out.at dX 3).trans rfl; have DC := (S.out.at dX 4).trans rfl)
    | (refine nO (some 68) Try.func102 (Kz ⟨ck, ⟨cx, cy, cw, ch⟩, aV, l⟩ ⟨ax - 1 + 2, ⟨ex, ey, ew, eh⟩, 0, L⟩ p z xN.out HZ.out xk.out (S.out.tree _ (.head _)) (S.out.tree _ dG) (Kd.dL HI.out S.out.below) HB.out) ?_; rintro e WX ⟨Ay, yD, rfl, h1, hb⟩; refine ⟨_, rfl, ?_⟩; replace S := ae.mk (S.out.res (Kd.D6 (base' := 0) h1) hb); clear h1 hb; clear Dx qJ qK qL qM yC Dy Kt Ku Dz DC)
    | (refine boxS 16 _ 26 S ?_; clear S; intro b16 RD S)
    | (refine jg 26 16 69 #[.int .u8 z.f0, .int .i64 z.f1.f0, .int .i64 z.f1.f1, .int .i64 z.f1.f2, .int .i64 z.f1.f3, .int .i64 z.f2, .slice Ay z.f3.length yD] 0 7 S ?_; clear S; intro Og S; obtain ⟨BD, BF, BG, BH, L6, L8, L9⟩ := St.eX S (.head _))
    | (refine Q7 26 10 71 #[.int .u8 z.f0, .int .i64 z.f1.f0, .int .i64 z.f1.f1, .int .i64 z.f1.f2, .int .i64 z.f1.f3, .int .i64 z.f2, .slice Ay z.f3.length yD] 0 7 S ?_; clear S; intro ady S; clear BD BF BG BH L6 L8 L9)
    | fail)
   refine bodyPost_ret (results_cell_row rfl _ _ b10 26 _ (0, 0) _ rfl (S.out.blk _ dX _ rfl) Try.underlying26 rfl (by kernel_rfl)) rfl ?_
   exact ⟨_, _, rfl, S.out.QZ (b0 := w.heap.size) (.head _), S.out.below⟩
  | true =>
   rw [ha, if_pos rfl] at hj
   obtain ⟨k, hk⟩ : ∃ k : Nat, rd p (n : Int) = (k : Int) := ⟨(rd p (n : Int)).toNat, (Int.toNat_of_nonneg hi0).symm⟩
   rw [hk, Int.toNat_natCast] at hj
   rw [hk] at hi0 hi1
   have hki : k < aX.f3.length := by omega
   obtain ⟨L', hRL⟩ : ∃ L', vW aX.f3 k L = L' := ⟨_, rfl⟩
   rw [hRL] at hj
   have hrz : dM L' ≤ dM aX.f3 + dM L := by rw [← hRL]; exact ZR _ _ _
   have HRL := ae.mk hRL
   have HKI := ae.mk hki
   have aaU := ae.mk (show aX.f3.length ≤ 900000 by have := Su.out; omega)
   have xN := ae.mk hj
   have xk := ae.mk (show sz ⟨aX.f0, aX.f1, aX.f2, L'⟩ ≤ 1000000 by rw [dB]; show 1 + dM L' ≤ _; have := Su.out; have := hHL.out; omega)
   have HA := ae.mk ha
   have hkw : IntKind.i64.wrap ((k : Int) + 1) = (k : Int) + 1 := by have := aaU.out; rw [IntKind.wrap_i64]; omega
   obtain ⟨D7, ek2, xi⟩ := Kd.o5 HI.out (n : Int) (Int.natCast_nonneg _) (by omega)
   subst ek2
   have HNL := ae.mk (show (n : Int) < (p.length : Int) by omega)
   have hnp : (n : Int) < (p.length : Int) := HNL.out
   have akk : n < p.length := by omega
   have uP := ae.mk (fun (W : World) (h : Below w.heap.size w W) => (show W.cell? (D7.add n) = some (.int .i64 (k : Int)) by have h2 := Kd.o5 (Kd.dL HI.out h) (n : Int) (Int.natCast_nonneg _) HNL.out; obtain ⟨ad, e1, e2⟩ := h2; injection e1 with e1; subst e1; simp only [Int.toNat_natCast] at e2; rw [e2, hk]))
   clear ha hj hnz hpz hpe hpl2 hi0 hi1 hp hn hpl hk hki hRL hrz xi
   obtain ⟨ck, ⟨cx, cy, cw, ch⟩, aV, l⟩ := c
   obtain ⟨ek, ⟨ex, ey, ew, eh⟩, Tu, le⟩ := leaf
   simp only [] at S HZ Su xN xk ⊢
   go_enter Try.func166, Try.ntmps166
   go_wp2_with (first
    | (refine boxS 5 _ 26 S ?_; clear S; intro b5 fH S)
    | (refine boxS 7 _ 26 S ?_; clear S; intro b7 ik S)
    | (refine boxS 10 _ 26 S ?_; clear S; intro b10 iq S)
    | fail)
   refine jL (n := 11) (S := fun w' => St w _ _ _ _ _ w') (ds := [9]) (bA 11 0) (by kernel_rfl) rfl rfl (S.out.call (bC (Below.refl _ _))) (fun hHeld => ?_); refine fP sS.E8 sS.zO (fun au fE => ?_)
   replace S := ae.mk (S.out.call (bC (Below.refl _ _)))
   generalize iq.drew = wd4 at S hHeld ⊢
   refine eQ 0 24 (bA 11 1) au fE hHeld ?_ (hv := by intro w' hs_; have Dx := (hs_.at dX 0).trans rfl; have qJ := (hs_.at dX 1).trans rfl; have qK := (hs_.at dX 2).trans rfl; have qL := (hs_.at dX 3).trans rfl; have qM := (hs_.at dX 4).trans rfl; have yC := (hs_.at dX 5).trans rfl; have Dy := (hs_.at dX 6).trans rfl; go_simp; with_reducible rfl)
   refine aC 1 25 (bA 11 3) au ?_
   refine aC 2 26 (bA 11 7) au ?_
   refine aC 3 27 (bA 11 15) au ?_
   refine GL (σ := Nat × Nat × Nat) 2 (bA 11 511) (fun s_ => [(28, .tuple #[.agg #[.int .u8 aX.f0, .int .i64 aX.f1.f0, .int .i64 aX.f1.f1, .int .i64 aX.f1.f2, .int .i64 aX.f1.f3, .int .i64 aX.f2, .slice (some ⟨s_.1, 0, none⟩) aX.f3.length s_.2.1], .bool true]), (23, .tuple #[.agg #[.int .u8 aX.f0, .int .i64 aX.f1.f0, .int .i64 aX.f1.f1, .int .i64 aX.f1.f2, .int .i64 aX.f1.f3, .int .i64 aX.f2, .slice (some ⟨s_.1, 0, none⟩) aX.f3.length s_.2.1], .bool true]), (29, .agg #[.int .u8 aX.f0, .int .i64 aX.f1.f0, .int .i64 aX.f1.f1, .int .i64 aX.f1.f2, .int .i64 aX.f1.f3, .int .i64 aX.f2, .slice (some ⟨s_.1, 0, none⟩) aX.f3.length s_.2.1]), (30, .bool true), (12, .pointer (some ⟨s_.2.2, 0, none⟩))]) (fun s_ w' => St w P [(some s_.2.2, .cells #[.int .u8 0, .int .i64 0, .int .i64 0, .int .i64 0, .int .i64 0, .int .i64 0, .slice none 0 0] 26 (0, 0)), (some b10, .cells #[.int .u8 0, .int .i64 0, .int .i64 0, .int .i64 0, .int .i64 0, .int .i64 0, .slice none 0 0] 26 (0, 0)), (some b7, .cells #[.int .u8 ek, .int .i64 ex, .int .i64 ey, .int .i64 ew, .int .i64 eh, .int .i64 Tu, .slice Al le.length cl] 26 (0, 0)), (some b5, .cells #[.int .u8 ck, .int .i64 cx, .int .i64 cy, .int .i64 cw, .int .i64 ch, .int .i64 aV, .slice A l.length cc] 26 (0, 0))] [(.slice (some ⟨s_.1, 0, none⟩) aX.f3.length s_.2.1, aX.f3)] [(.slice A l.length cc, l), (.slice (some ⟨ga, 0, none⟩) L.length cL, L)] [] w') ?_ ?_
   rotate_left
   ·intro qf
    refine Je (i := 4) (j := 8) (Ni := some 28) (Nj := some 12) (bA 11 31) (bA 11 271) rfl rfl rfl rfl (zy au.out (by kernel_rfl)) (by decide) (by decide) (fun K hK => ?_) (fun K hK => ?_)
    ·skip
     refine mG Try.func91 #[.agg #[.int .u8 ck, .int .i64 cx, .int .i64 cy, .int .i64 cw, .int .i64 ch, .int .i64 aV, .slice A l.length cc], .slice (some D7) pq.length cb] ?_
     refine (yM ⟨ck, ⟨cx, cy, cw, ch⟩, aV, l⟩ pq aX HAT.out Qi.out HZ.out (S.out.tree _ (.head _)) (Kd.dL OD.out S.out.below) OC.out).mono ?_
     rintro e oH ⟨Az, cz, rfl, h1, hb⟩
     refine ⟨_, rfl, ?_⟩
     obtain ⟨gr, LZ, ev, _⟩ := Kd.su h1 Xg.out
     injection ev with e1 e2 e3
     subst e1
     clear e2 e3
     replace S := ae.mk (S.out.yf h1 hb)
     clear h1 hb
     refine hK.out _ _ S.out.free.eU (fun hHeld => ?_)
     clear hK K
     refine fK 28 ?_
     refine aC 5 23 (bA 11 63) au ?_
     refine aC 6 29 (bA 11 127) au ?_
     refine aC 7 30 (bA 11 255) au ?_
     refine lI 8 (some 12) (bA 11 511) au (fun K hK => ?_)
     refine m_ ?hg (N := 12) ?hd (cs := #[.int .u8 0, .int .i64 0, .int .i64 0, .int .i64 0, .int .i64 0, .int .i64 0, .slice none 0 0]) (t := 26) ?hr ?_; (case hd => rfl); (case hg => rfl); (case hr => first | (go_simp; done) | (go_simp; rfl))
     intro b12 hg uo hbox hb
     replace S := ae.mk (S.out.box hg hbox hb)
     clear hg hbox hb
     refine hK.out _ _ S.out.gX.free.eU (fun hHeld => ?_)
     clear hK K
     refine fK 12 ?_
     exact qQ (by simp only [kL, Act.put, List.setIfInBounds_toArray, List.set_cons_zero, List.set_cons_succ] <;> rfl) (qf (gr, cz, b12) _ S.out)
    ·skip
     refine m_ ?hg (N := 12) ?hd (cs := #[.int .u8 0, .int .i64 0, .int .i64 0, .int .i64 0, .int .i64 0, .int .i64 0, .slice none 0 0]) (t := 26) ?hr ?_; (case hd => rfl); (case hg => rfl); (case hr => first | (go_simp; done) | (go_simp; rfl))
     intro b12 hg wV hbox hb
     replace S := ae.mk (S.out.box hg hbox hb)
     clear hg hbox hb
     refine hK.out _ _ S.out.gX (fun hHeld => ?_)
     clear hK K
     refine fK 12 ?_
     refine lI 4 (some 28) (bA 11 287) au (fun K hK => ?_)
     refine mG Try.func91 #[.agg #[.int .u8 ck, .int .i64 cx, .int .i64 cy, .int .i64 cw, .int .i64 ch, .int .i64 aV, .slice A l.length cc], .slice (some D7) pq.length cb] ?_
     refine (yM ⟨ck, ⟨cx, cy, cw, ch⟩, aV, l⟩ pq aX HAT.out Qi.out HZ.out (S.out.tree _ (.head _)) (Kd.dL OD.out S.out.below) OC.out).mono ?_
     rintro e Hw ⟨Az, cz, rfl, h1, hb⟩
     refine ⟨_, rfl, ?_⟩
     obtain ⟨gr, LZ, ev, _⟩ := Kd.su h1 Xg.out
     injection ev with e1 e2 e3
     subst e1
     clear e2 e3
     replace S := ae.mk (S.out.yf h1 hb)
     clear h1 hb
     refine hK.out _ _ S.out.gX.free.eU (fun hHeld => ?_)
     clear hK K
     refine fK 28 ?_
     refine aC 5 23 (bA 11 319) au ?_
     refine aC 6 29 (bA 11 383) au ?_
     refine aC 7 30 (bA 11 511) au ?_
     exact qQ (by simp only [kL, Act.put, List.setIfInBounds_toArray, List.set_cons_zero, List.set_cons_succ] <;> rfl) (qf (gr, cz, b12) _ S.out)
   rintro ⟨gr, cz, b12⟩ wj9 S1
   simp only [kL, Act.put, List.setIfInBounds_toArray, List.set_cons_zero, List.set_cons_succ]
   replace S := ae.mk S1
   clear S1 hHeld
   have hHeld := S.out.gX.free.eU
   refine uG 9 none (bA 11 1023) au (fun K hK => ?_)
   refine xJ 0 rfl 26 (.tmp 12) (.tmp 29) rfl #[.int .u8 aX.f0, .int .i64 aX.f1.f0, .int .i64 aX.f1.f1, .int .i64 aX.f1.f2, .int .i64 aX.f1.f3, .int .i64 aX.f2, .slice (some ⟨gr, 0, none⟩) aX.f3.length cz] (j := 0) (u := .agg #[.int .u8 aX.f0, .int .i64 aX.f1.f0, .int .i64 aX.f1.f1, .int .i64 aX.f1.f2, .int .i64 aX.f1.f3, .int .i64 aX.f2, .slice (some ⟨gr, 0, none⟩) aX.f3.length cz]) (bF := [.int .u8 aX.f0, .int .i64 aX.f1.f0, .int .i64 aX.f1.f1, .int .i64 aX.f1.f2, .int .i64 aX.f1.f3, .int .i64 aX.f2, .slice (some ⟨gr, 0, none⟩) aX.f3.length cz]) S.out (by rfl) rfl rfl rfl rfl (by kernel_rfl) (by simp [Value.oneCell']) (by first | decide | simp) rfl ?_
   intro Fb S1
   simp only [List.set_cons_zero, List.set_cons_succ] at S1
   replace S := ae.mk S1
   clear S1
   refine hK.out _ _ ?_
   clear hK K
   refine aC 10 13 (bA 11 2047) au ?_
   refine lh (jb au.out (by kernel_rfl)) ?_
   clear hHeld
   obtain ⟨FP, FQ, FT, FU, FV, FW, BC⟩ := St.eX S (.head _)
   go_wp2_with (first
    | (refine bQ (some 33) Try.func99 S (OU (c := aX) HA.out (Kd.D6 (base' := 0) (S.out.own _ (.head _)))) ?_; clear S; intro Oe S; clear FP FQ FT FU FV FW BC)
    | fail)
   refine jL (n := 15) (S := fun w' => St w _ _ _ _ _ w') (ds := [14]) (bA 15 0) (by kernel_rfl) rfl rfl (S.out.free.eU.call (bC (Below.refl _ _))) (fun hHeld => ?_); refine fP wO.Oa wO.FM (fun au fE => ?_)
   replace S := ae.mk (S.out.call (bC (Below.refl _ _)))
   generalize Oe.drew = akA at S hHeld ⊢
   refine aC 0 34 (bA 15 1) au ?_
   refine eQ 1 35 (bA 15 3) au fE hHeld ?_ (hv := by intro w' hs_; have BC := (hs_.at (.head _) 6).trans rfl; go_simp; with_reducible rfl)
   refine aC 2 36 (bA 15 7) au ?_
   refine aC 3 37 (bA 15 15) au ?_
   refine aC 4 38 (bA 15 31) au ?_
   refine eQ 5 39 (bA 15 63) au fE hHeld ?_ (hv := by intro w' hs_; have xi := uP.out _ hs_.below; go_simp; with_reducible rfl)
   refine aC 6 40 (bA 15 127) au ?_
   refine aC 7 41 (bA 15 255) au ?_
   refine aC 8 42 (bA 15 511) au ?_
   refine eQ 9 43 (bA 15 1023) au fE hHeld ?_ (hv := by intro w' hs_; have xi := uP.out _ hs_.below; go_simp; with_reducible rfl)
   refine aC 10 44 (bA 15 2047) au ?_
   refine aC 11 45 (bA 15 4095) au ?_
   refine lI 12 (some 46) (bA 15 8191) au (fun K hK => ?_)
   refine mG Try.func189 #[.slice (some ⟨gr, 0, none⟩) aX.f3.length cz, .int .i64 (k : Int), .int .i64 ((k : Int) + 1), .slice (some ⟨ga, 0, none⟩) L.length cL] ?_
   refine (adb HRL.out (ZQ HKI.out aaU.out HL2.out HGA.out Fq.out S.out dG)).mono ?_
   rintro e RD ⟨Aq, cq, rfl, S1⟩
   refine ⟨_, rfl, ?_⟩
   replace S := ae.mk S1.free
   clear S1
   refine hK.out _ _ S.out.eU (fun hHeld => ?_)
   clear hK K
   refine fK 46 ?_
   refine aC 13 47 (bA 15 16383) au ?_
   refine uG 14 none (bA 15 32767) au (fun K hK => ?_)
   refine xJ 0 rfl 24 (.tmp 47) (.tmp 46) rfl #[.int .u8 aX.f0, .int .i64 aX.f1.f0, .int .i64 aX.f1.f1, .int .i64 aX.f1.f2, .int .i64 aX.f1.f3, .int .i64 aX.f2, .slice Aq L'.length cq] (j := 6) (u := .slice Aq L'.length cq) (bF := [.slice Aq L'.length cq]) S.out (by rfl) rfl rfl rfl rfl (by kernel_rfl) (by simp [Value.oneCell']) (by first | decide | simp) rfl ?_
   intro Og S1
   simp only [List.set_cons_zero, List.set_cons_succ] at S1
   replace S := ae.mk S1
   clear S1
   refine hK.out _ _ ?_
   clear hK K
   refine lh (jb au.out (by kernel_rfl)) ?_
   clear hHeld
   go_wp2
   refine jL (n := 12) (S := fun w' => St w _ _ _ _ _ w') (ds := [10]) (bA 12 0) (by kernel_rfl) rfl rfl (S.out.call (bC (Below.refl _ _))) (fun hHeld => ?_); refine fP wP.tab6 wP.FN (fun au fE => ?_)
   replace S := ae.mk (S.out.call (bC (Below.refl _ _)))
   generalize Og.drew = akB at S hHeld ⊢
   refine eQ 0 49 (bA 12 1) au fE hHeld ?_ (hv := by intro w' hs_; have Dx := (hs_.at jT 0).trans rfl; have qJ := (hs_.at jT 1).trans rfl; have qK := (hs_.at jT 2).trans rfl; have qL := (hs_.at jT 3).trans rfl; have qM := (hs_.at jT 4).trans rfl; have yC := (hs_.at jT 5).trans rfl; have Dy := (hs_.at jT 6).trans rfl; go_simp; with_reducible rfl)
   refine eQ 1 50 (bA 12 3) au fE hHeld ?_ (hv := by intro w' hs_; have FP := (hs_.at (.head _) 0).trans rfl; have FQ := (hs_.at (.head _) 1).trans rfl; have FT := (hs_.at (.head _) 2).trans rfl; have FU := (hs_.at (.head _) 3).trans rfl; have FV := (hs_.at (.head _) 4).trans rfl; have FW := (hs_.at (.head _) 5).trans rfl; have BC := (hs_.at (.head _) 6).trans rfl; go_simp; with_reducible rfl)
   refine aC 2 51 (bA 12 7) au ?_
   refine aC 3 52 (bA 12 15) au ?_
   refine aC 4 53 (bA 12 31) au ?_
   refine GL (σ := Option Addr × Nat × Nat) 2 (bA 12 1023) (fun s_ => [(54, .tuple #[.agg #[.int .u8 z.f0, .int .i64 z.f1.f0, .int .i64 z.f1.f1, .int .i64 z.f1.f2, .int .i64 z.f1.f3, .int .i64 z.f2, .slice s_.1 z.f3.length s_.2.1], .bool true]), (48, .tuple #[.agg #[.int .u8 z.f0, .int .i64 z.f1.f0, .int .i64 z.f1.f1, .int .i64 z.f1.f2, .int .i64 z.f1.f3, .int .i64 z.f2, .slice s_.1 z.f3.length s_.2.1], .bool true]), (55, .agg #[.int .u8 z.f0, .int .i64 z.f1.f0, .int .i64 z.f1.f1, .int .i64 z.f1.f2, .int .i64 z.f1.f3, .int .i64 z.f2, .slice s_.1 z.f3.length s_.2.1]), (56, .bool true), (14, .pointer (some ⟨s_.2.2, 0, none⟩))]) (fun s_ w' => St w P [(some s_.2.2, .cells #[.int .u8 0, .int .i64 0, .int .i64 0, .int .i64 0, .int .i64 0, .int .i64 0, .slice none 0 0] 26 (0, 0)), (some b12, .cells #[.int .u8 aX.f0, .int .i64 aX.f1.f0, .int .i64 aX.f1.f1, .int .i64 aX.f1.f2, .int .i64 aX.f1.f3, .int .i64 aX.f2, .slice Aq L'.length cq] 26 (0, 0)), (some b10, .cells #[.int .u8 0, .int .i64 0, .int .i64 0, .int .i64 0, .int .i64 0, .int .i64 0, .slice none 0 0] 26 (0, 0)), (some b7, .cells #[.int .u8 ek, .int .i64 ex, .int .i64 ey, .int .i64 ew, .int .i64 eh, .int .i64 Tu, .slice Al le.length cl] 26 (0, 0)), (some b5, .cells #[.int .u8 ck, .int .i64 cx, .int .i64 cy, .int .i64 cw, .int .i64 ch, .int .i64 aV, .slice A l.length cc] 26 (0, 0))] [] [(.slice s_.1 z.f3.length s_.2.1, z.f3), (.slice Aq L'.length cq, L'), (.slice A l.length cc, l), (.slice (some ⟨ga, 0, none⟩) L.length cL, L)] [] w') ?_ ?_
   rotate_left
   ·intro qf
    refine Je (i := 5) (j := 9) (Ni := some 54) (Nj := some 14) (bA 12 63) (bA 12 543) rfl rfl rfl rfl (zy au.out (by kernel_rfl)) (by decide) (by decide) (fun K hK => ?_) (fun K hK => ?_)
    ·skip
     refine mG Try.func102 #[.agg #[.int .u8 ck, .int .i64 cx, .int .i64 cy, .int .i64 cw, .int .i64 ch, .int .i64 aV, .slice A l.length cc], .agg #[.int .u8 aX.f0, .int .i64 aX.f1.f0, .int .i64 aX.f1.f1, .int .i64 aX.f1.f2, .int .i64 aX.f1.f3, .int .i64 aX.f2, .slice Aq L'.length cq], .slice (some D7) pq.length cb] ?_
     refine (Kz ⟨ck, ⟨cx, cy, cw, ch⟩, aV, l⟩ ⟨aX.f0, aX.f1, aX.f2, L'⟩ pq z xN.out HZ.out xk.out (S.out.tree _ dG) (S.out.tree _ (.head _)) (Kd.dL OD.out S.out.below) OC.out).mono ?_
     rintro e agG ⟨Ay, yD, rfl, h1, hb⟩
     refine ⟨_, rfl, ?_⟩
     replace S := ae.mk (S.out.res (Kd.D6 (base' := 0) h1) hb)
     clear h1 hb
     refine hK.out _ _ S.out.eU (fun hHeld => ?_)
     clear hK K
     refine fK 54 ?_
     refine aC 6 48 (bA 12 127) au ?_
     refine aC 7 55 (bA 12 255) au ?_
     refine aC 8 56 (bA 12 511) au ?_
     refine lI 9 (some 14) (bA 12 1023) au (fun K hK => ?_)
     refine m_ ?hg (N := 14) ?hd (cs := #[.int .u8 0, .int .i64 0, .int .i64 0, .int .i64 0, .int .i64 0, .int .i64 0, .slice none 0 0]) (t := 26) ?hr ?_; (case hd => rfl); (case hg => rfl); (case hr => first | (go_simp; done) | (go_simp; rfl))
     intro b14 hg agH hbox hb
     replace S := ae.mk (S.out.box hg hbox hb)
     clear hg hbox hb
     refine hK.out _ _ S.out.gX.eU (fun hHeld => ?_)
     clear hK K
     refine fK 14 ?_
     exact qQ (by simp only [kL, Act.put, List.setIfInBounds_toArray, List.set_cons_zero, List.set_cons_succ] <;> rfl) (qf (Ay, yD, b14) _ S.out)
    ·skip
     refine m_ ?hg (N := 14) ?hd (cs := #[.int .u8 0, .int .i64 0, .int .i64 0, .int .i64 0, .int .i64 0, .int .i64 0, .slice none 0 0]) (t := 26) ?hr ?_; (case hd => rfl); (case hg => rfl); (case hr => first | (go_simp; done) | (go_simp; rfl))
     intro b14 hg agI hbox hb
     replace S := ae.mk (S.out.box hg hbox hb)
     clear hg hbox hb
     refine hK.out _ _ S.out.gX (fun hHeld => ?_)
     clear hK K
     refine fK 14 ?_
     refine lI 5 (some 54) (bA 12 575) au (fun K hK => ?_)
     refine mG Try.func102 #[.agg #[.int .u8 ck, .int .i64 cx, .int .i64 cy, .int .i64 cw, .int .i64 ch, .int .i64 aV, .slice A l.length cc], .agg #[.int .u8 aX.f0, .int .i64 aX.f1.f0, .int .i64 aX.f1.f1, .int .i64 aX.f1.f2, .int .i64 aX.f1.f3, .int .i64 aX.f2, .slice Aq L'.length cq], .slice (some D7) pq.length cb] ?_
     refine (Kz ⟨ck, ⟨cx, cy, cw, ch⟩, aV, l⟩ ⟨aX.f0, aX.f1, aX.f2, L'⟩ pq z xN.out HZ.out xk.out (S.out.tree _ dG) (S.out.tree _ (.head _)) (Kd.dL OD.out S.out.below) OC.out).mono ?_
     rintro e agJ ⟨Ay, yD, rfl, h1, hb⟩
     refine ⟨_, rfl, ?_⟩
     replace S := ae.mk (S.out.res (Kd.D6 (base' := 0) h1) hb)
     clear h1 hb
     refine hK.out _ _ S.out.gX.eU (fun hHeld => ?_)
     clear hK K
     refine fK 54 ?_
     refine aC 6 48 (bA 12 639) au ?_
     refine aC 7 55 (bA 12 767) au ?_
     refine aC 8 56 (bA 12 1023) au ?_
     exact qQ (by simp only [kL, Act.put, List.setIfInBounds_toArray, List.set_cons_zero, List.set_cons_succ] <;> rfl) (qf (Ay, yD, b14) _ S.out)
   rintro ⟨Ay, yD, b14⟩ agM S1
   simp only [kL, Act.put, List.setIfInBounds_toArray, List.set_cons_zero, List.set_cons_succ]
   replace S := ae.mk S1
   clear S1 hHeld
   have hHeld := S.out.gX.eU
   refine uG 10 none (bA 12 2047) au (fun K hK => ?_)
   refine xJ 0 rfl 26 (.tmp 14) (.tmp 55) rfl #[.int .u8 z.f0, .int .i64 z.f1.f0, .int .i64 z.f1.f1, .int .i64 z.f1.f2, .int .i64 z.f1.f3, .int .i64 z.f2, .slice Ay z.f3.length yD] (j := 0) (u := .agg #[.int .u8 z.f0, .int .i64 z.f1.f0, .int .i64 z.f1.f1, .int .i64 z.f1.f2, .int .i64 z.f1.f3, .int .i64 z.f2, .slice Ay z.f3.length yD]) (bF := [.int .u8 z.f0, .int .i64 z.f1.f0, .int .i64 z.f1.f1, .int .i64 z.f1.f2, .int .i64 z.f1.f3, .int .i64 z.f2, .slice Ay z.f3.length yD]) S.out (by rfl) rfl rfl rfl rfl (by kernel_rfl) (by simp [Value.oneCell']) (by first | decide | simp) rfl ?_
   intro agK S1
   simp only [List.set_cons_zero, List.set_cons_succ] at S1
   replace S := ae.mk S1
   clear S1
   refine hK.out _ _ ?_
   clear hK K
   refine aC 11 15 (bA 12 4095) au ?_
   refine lh (jb au.out (by kernel_rfl)) ?_
   clear hHeld
   obtain ⟨abm, abn, abo, abp, abq, abr, abt⟩ := St.eX S (.head _)
   go_wp2_with (first
    | (refine Q7 26 10 57 #[.int .u8 z.f0, .int .i64 z.f1.f0, .int .i64 z.f1.f1, .int .i64 z.f1.f2, .int .i64 z.f1.f3, .int .i64 z.f2, .slice Ay z.f3.length yD] 0 7 S ?_; clear S; intro agL S; clear abm abn abo abp abq abr abt)
    | fail)
   refine bodyPost_ret (results_cell_row rfl _ _ b10 26 _ (0, 0) _ rfl (S.out.blk _ dX _ rfl) Try.underlying26 rfl (by kernel_rfl)) rfl ?_
   exact ⟨_, _, rfl, S.out.QZ (b0 := w.heap.size) (.head _), S.out.below⟩
theorem Uu (rx ry rw rh id : Int) (w : World) : Calls Try.prog 78 #[.agg #[.int .i64 rx, .int .i64 ry, .int .i64 rw, .int .i64 rh], .int .i64 id] w fun e w' => e = .returned (.agg #[.int .u8 1, .int .i64 rx, .int .i64 ry, .int .i64 rw, .int .i64 rh, .int .i64 id, .slice none 0 0]) ∧ Below w.heap.size w w' := by
 have S := ae.mk (St.start (ts := []) (b0 := w.heap.size) (w := w) (P := fun _ => True) (fun t ht => by cases ht))
 go_enter Try.func78, Try.ntmps78
 go_wp2_with (first
  | (refine boxS 2 _ 23 S ?_; clear S; intro b2 fH S)
  | (refine boxS 4 _ 26 S ?_; clear S; intro b4 ik S; obtain ⟨FX, zS, zT, zU⟩ := St.at4 S dG)
  | (refine jg 26 4 7 #[.int .u8 1, .int .i64 rx, .int .i64 ry, .int .i64 rw, .int .i64 rh, .int .i64 id, .slice none 0 0] 0 7 S ?_; clear S; intro iq S; clear FX zS zT zU)
  | fail)
 refine bodyPost_ret (results_cell_row rfl _ _ b4 26 _ (0, 0) _ rfl (S.out.blk _ (.head _) _ rfl) Try.underlying26 rfl (by kernel_rfl)) rfl ?_
 exact ⟨rfl, S.out.below⟩
theorem A_ (rx ry rw rh ax n id W1 H1 : Int) (hW : W1 = if ax = 1 then n else rw) (hH : H1 = if ax = 1 then rh else n) (w : World) : Calls Try.prog 190 #[.agg #[.int .i64 rx, .int .i64 ry, .int .i64 rw, .int .i64 rh], .int .u8 ax, .int .i64 n, .int .i64 id] w fun e w' => e = .returned (.agg #[.int .u8 1, .int .i64 rx, .int .i64 ry, .int .i64 W1, .int .i64 H1, .int .i64 id, .slice none 0 0]) ∧ Below w.heap.size w w' := by
 have S := ae.mk (St.start (ts := []) (b0 := w.heap.size) (w := w) (P := fun _ => True) (fun t ht => by cases ht))
 by_cases hx : ax = 1
 case pos =>
  rw [if_pos hx] at hW hH
  rw [hW, hH]
  obtain ⟨hxa, hxb, hxd⟩ := Bf (a := ax) (b := 1) (by omega)
  clear hx hW hH
  go_enter Try.func190, Try.ntmps190
  go_wp2_with (first
   | (refine boxS 4 _ 23 S ?_; clear S; intro b4 fH S)
   | (refine boxS 8 _ 26 S ?_; clear S; intro b8 ik S)
   | (refine NR 3 12 11 #[.int .i64 rx, .int .i64 ry, .int .i64 n, .int .i64 rh] 2 1 S ?_; clear S; intro iq S; obtain ⟨Dt, Du, Dv, Dw⟩ := St.at4 S dG)
   | (refine bQ (some 17) Try.func78 S (Uu rx ry n rh id _) ?_; clear S; intro nI S; clear Dt Du Dv Dw)
   | (refine jg 26 8 17 #[.int .u8 1, .int .i64 rx, .int .i64 ry, .int .i64 n, .int .i64 rh, .int .i64 id, .slice none 0 0] 0 7 S ?_; clear S; intro oH S)
   | fail)
  refine bodyPost_ret (results_cell_row rfl _ _ b8 26 _ (0, 0) _ rfl (S.out.blk _ (.head _) _ rfl) Try.underlying26 rfl (by kernel_rfl)) rfl ?_
  exact ⟨rfl, S.out.below⟩
 case neg =>
  rw [if_neg hx] at hW hH
  rw [hW, hH]
  obtain ⟨hxa, hxb, hxd⟩ := eqF (a := ax) (b := 1) (by omega)
  clear hx hW hH
  go_enter Try.func190, Try.ntmps190
  go_wp2_with (first
   | (refine boxS 4 _ 23 S ?_; clear S; intro b4 fH S)
   | (refine boxS 8 _ 26 S ?_; clear S; intro b8 ik S)
   | (refine NR 3 14 13 #[.int .i64 rx, .int .i64 ry, .int .i64 rw, .int .i64 n] 3 1 S ?_; clear S; intro iq S; obtain ⟨Dt, Du, Dv, Dw⟩ := St.at4 S dG)
   | (refine bQ (some 17) Try.func78 S (Uu rx ry rw n id _) ?_; clear S; intro nI S; clear Dt Du Dv Dw)
   | (refine jg 26 8 17 #[.int .u8 1, .int .i64 rx, .int .i64 ry, .int .i64 rw, .int .i64 n, .int .i64 id, .slice none 0 0] 0 7 S ?_; clear S; intro oH S)
   | fail)
  refine bodyPost_ret (results_cell_row rfl _ _ b8 26 _ (0, 0) _ rfl (S.out.blk _ (.head _) _ rfl) Try.underlying26 rfl (by kernel_rfl)) rfl ?_
  exact ⟨rfl, S.out.below⟩
def wQ.T3 : Bool × List (List Nat × List Nat) := (true, [([], []), ([], []), ([], []), ([], []), ([], []), ([], []), ([4, 5], [4, 5]), ([6], [6]), ([], []), ([], []), ([8, 9], [8, 9]), ([10], [10]), ([0, 1, 0, 1, 4, 5, 6, 7, 11], [0, 1]), ([12, 7, 0, 1, 4, 5, 6, 7, 11], [7, 12]), ([2, 3, 0, 1, 2, 3, 4, 5, 6, 7, 8, 9, 10, 11, 12, 13], [2, 3]), ([14, 11, 13, 0, 1, 2, 3, 4, 5, 6, 7, 8, 9, 10, 11, 12, 13], [11, 14])])
def wQ.B3 : List Nat := [0, 0, 0, 0, 0, 0, 48, 112, 0, 0, 768, 1792, 4083, 8179, 16383, 32767]
theorem wQ.E8 : iJ .any (opsOf Try.f191 3) = wQ.T3 := by kernel_rfl
theorem wQ.zO : jm wQ.T3.2 wQ.B3 = true := by kernel_rfl
theorem ade {w W : World} {P : Nat → Prop} {bs : List (Option Nat × Obj)} {ts : List (Value × List ai)} {ro : List (Addr × Value)} {gr cap : Nat} (x y : ai) (S0 : St w P (bs) [(.slice (some ⟨gr, 0, none⟩) 2 cap, [x, y])] (ts) (ro) W) :
  Calls Try.prog 191 #[.slice (some ⟨gr, 0, none⟩) 2 cap] W fun e w' => e = .returned (.tuple #[]) ∧ St w P (bs) [(.slice (some ⟨gr, 0, none⟩) 2 cap, [y, x])] (ts) (ro) w' := by
 have S := ae.mk S0
 clear S0
 go_enter Try.func191, Try.ntmps191
 go_wp2
 go_loopg [2, 3] 1 (fun gg v2 v3 wr => (gg = 1 ∧ v2 = .int .i64 0 ∧ v3 = .int .i64 1 ∧ ae (St w P (bs) [(.slice (some ⟨gr, 0, none⟩) 2 cap, [x, y])] (ts) (ro) wr)) ∨ (v2 = .int .i64 1 ∧ v3 = .int .i64 0 ∧ ae (St w P (bs) [(.slice (some ⟨gr, 0, none⟩) 2 cap, [y, x])] (ts) (ro) wr)))
 case atStart => exact .inl ⟨rfl, rfl, rfl, S⟩
 case round =>
  clear S
  rcases hrel with ⟨hgg, rfl, rfl, S⟩ | ⟨rfl, rfl, S⟩
  case inl =>
   obtain ⟨ua, uc, S1, h1⟩ := S.out.O4 (0 : Int) (by decide) (by simp)
   obtain ⟨va, vc, S2, h2⟩ := S1.O4 (1 : Int) (by decide) (by simp)
   have e0 : aj [x, y] 0 = x := rfl
   have e1 : aj [x, y] 1 = y := rfl
   rw [e0] at h1 S2
   rw [e1] at h2 S2
   have hcell : ∀ (j : Nat) (u : Value), (jh x ua uc ++ jh y va vc)[j]? = some u → wr.cell? ⟨gr, j, none⟩ = some u := by
    intro j u hj
    by_cases hlt : j < 7
    ·rw [List.getElem?_append_left (by simpa [jh] using hlt)] at hj
     have := h1 j u hj
     simpa using this
    ·rw [List.getElem?_append_right (by simp [jh]; omega)] at hj
     have := h2 (j - 7) u (by simpa [jh] using hj)
     have e : (1 : Int).toNat * 7 + (j - 7) = j := by simp; omega
     rw [e] at this
     exact this
   replace S := ae.mk S2
   have Xd := ae.mk hcell
   clear S1 S2 h1 h2 hcell e0 e1
   go_wp2
   refine jL (n := 16) (S := fun w' => St w _ _ _ _ _ w' ∧ ∀ (j : Nat) (u : Value), (jh x ua uc ++ jh y va vc)[j]? = some u → w'.cell? ⟨gr, j, none⟩ = some u) (ds := [13, 15]) (bA 16 0) (by kernel_rfl) rfl rfl ⟨S.out.call (bC (Below.refl _ _)), D9 Xd.out (bC (Below.refl _ _))⟩ (fun hHeld => ?_); refine fP wQ.E8 wQ.zO (fun au fE => ?_)
   replace S := ae.mk (S.out.call (bC (Below.refl _ _)))
   replace Xd := ae.mk (D9 Xd.out (bC (Below.refl _ _)))
   generalize wr.drew = JY at S Xd hHeld ⊢
   refine aC 0 14 (bA 16 1) au ?_
   refine aC 1 15 (bA 16 3) au ?_
   refine aC 2 16 (bA 16 7) au ?_
   refine aC 3 17 (bA 16 15) au ?_
   refine aC 4 18 (bA 16 31) au ?_
   refine aC 5 19 (bA 16 63) au ?_
   refine aC 6 20 (bA 16 127) au ?_
   refine eQ 7 21 (bA 16 255) au fE hHeld ?_ (hv := by intro w' hs_; have xe7 := (show w'.cell? ⟨gr, 7, none⟩ = some (.int .u8 y.f0) from hs_.2 7 _ rfl); have xe8 := (show w'.cell? ⟨gr, 8, none⟩ = some (.int .i64 y.f1.f0) from hs_.2 8 _ rfl); have xe9 := (show w'.cell? ⟨gr, 9, none⟩ = some (.int .i64 y.f1.f1) from hs_.2 9 _ rfl); have akG := (show w'.cell? ⟨gr, 10, none⟩ = some (.int .i64 y.f1.f2) from hs_.2 10 _ rfl); have akH := (show w'.cell? ⟨gr, 11, none⟩ = some (.int .i64 y.f1.f3) from hs_.2 11 _ rfl); have akI := (show w'.cell? ⟨gr, 12, none⟩ = some (.int .i64 y.f2) from hs_.2 12 _ rfl); have akJ := (show w'.cell? ⟨gr, 13, none⟩ = some (.slice va y.f3.length vc) from hs_.2 13 _ rfl); go_simp; with_reducible rfl)
   refine aC 8 22 (bA 16 511) au ?_
   refine aC 9 23 (bA 16 1023) au ?_
   refine aC 10 24 (bA 16 2047) au ?_
   refine eQ 11 25 (bA 16 4095) au fE hHeld ?_ (hv := by intro w' hs_; have xe0 := (show w'.cell? ⟨gr, 0, none⟩ = some (.int .u8 x.f0) from hs_.2 0 _ rfl); have xe1 := (show w'.cell? ⟨gr, 1, none⟩ = some (.int .i64 x.f1.f0) from hs_.2 1 _ rfl); have xe2 := (show w'.cell? ⟨gr, 2, none⟩ = some (.int .i64 x.f1.f1) from hs_.2 2 _ rfl); have xe3 := (show w'.cell? ⟨gr, 3, none⟩ = some (.int .i64 x.f1.f2) from hs_.2 3 _ rfl); have xe4 := (show w'.cell? ⟨gr, 4, none⟩ = some (.int .i64 x.f1.f3) from hs_.2 4 _ rfl); have xe5 := (show w'.cell? ⟨gr, 5, none⟩ = some (.int .i64 x.f2) from hs_.2 5 _ rfl); have xe6 := (show w'.cell? ⟨gr, 6, none⟩ = some (.slice ua x.f3.length uc) from hs_.2 6 _ rfl); go_simp; with_reducible rfl)
   refine aC 12 26 (bA 16 8191) au ?_
   refine uG 13 none (bA 16 16383) au (fun K hK => ?_)
   refine PW (0 : Int) y (.tmp 26) (.tmp 21) rfl S.out (by rfl) rfl (by decide) (by simp) (by first | rfl | (go_simp; rfl)) rfl (by kernel_rfl) (.head _) ?_
   intro ik S1
   have S1 : St w P (bs) [(.slice (some ⟨gr, 0, none⟩) 2 cap, [y, y])] ((.slice va y.f3.length vc, y.f3) :: (.slice ua x.f3.length uc, x.f3) :: ts) (ro) ik := S1
   replace S := ae.mk S1
   clear S1
   refine hK.out _ _ ?_
   clear hK K
   refine aC 14 27 (bA 16 32767) au ?_
   refine uG 15 none (bA 16 65535) au (fun K hK => ?_)
   refine PW (1 : Int) x (.tmp 27) (.tmp 25) rfl S.out (by rfl) rfl (by decide) (by simp) (by first | rfl | (go_simp; rfl)) rfl (by kernel_rfl) dG ?_
   intro iq S1
   have S1 : St w P (bs) [(.slice (some ⟨gr, 0, none⟩) 2 cap, [y, x])] ((.slice va y.f3.length vc, y.f3) :: (.slice ua x.f3.length uc, x.f3) :: ts) (ro) iq := S1
   replace S := ae.mk S1
   clear S1
   refine hK.out _ _ ?_
   clear hK K
   refine lh (jb au.out (by kernel_rfl)) ?_
   clear hHeld
   go_wp2
   go_wp2
   go_roundg 0
   case measure => omega
   case rel => exact .inr ⟨rfl, rfl, ⟨S.out.eU.eU⟩⟩
  case inr =>
   go_wp2
   (try simp only [Exit.inBlock, Exit.then])
   refine bodyPost_end (results_none rfl _ _ _) rfl ?_
   exact ⟨rfl, S.out⟩
def sU.T2 : Bool × List (List Nat × List Nat) := (true, [([], []), ([0], [0]), ([], []), ([], []), ([], []), ([4], [4]), ([1, 2, 3, 5], [1, 2, 3, 5]), ([], []), ([7], [7]), ([], []), ([], []), ([], []), ([8, 9, 10, 11, 6], [8, 9, 10, 11]), ([6, 12], [6, 12]), ([13, 12, 0, 1, 2, 3, 4, 5, 6, 7, 8, 9, 10, 11, 12, 13], [13])])
def sU.B2 : List Nat := [0, 1, 0, 0, 0, 16, 63, 0, 128, 0, 0, 0, 4095, 8191, 16383]
theorem sU.WV : iJ .any (opsOf Try.f167 2) = sU.T2 := by kernel_rfl
theorem sU.Qv : jm sU.T2.2 sU.B2 = true := by kernel_rfl
theorem Hg {r : dF} {ax v : Int} {args : Array Value} {W : World} (h : aI ax r = v) (hc : Calls Try.prog 98 args W fun e w' => e = .returned (.int .i64 (aI ax r)) ∧ Below W.heap.size W w') : Calls Try.prog 98 args W fun e w' => e = .returned (.int .i64 v) ∧ Below W.heap.size W w' := by
 rw [h] at hc
 exact hc
theorem EY {s size e n : Int} {ok : Bool} (hs : I64 s) (hz : I64 size) (h : xw s size = (e, n, ok)) (W : World) : Calls Try.prog 104 #[.int .i64 s, .int .i64 size] W fun e' w' => e' = .returned (.tuple #[.int .i64 e, .int .i64 n, .bool ok]) ∧ Below W.heap.size W w' := by
 obtain ⟨k, hk⟩ := (Rn s size hs hz).rounds
 rw [h] at hk
 exact iw.calls k s size e n ok W hk
theorem U4 (leaf : ai) (ax size fresh : Int) (ahead : Bool) (hs : -1000000 ≤ aI ax leaf.f1 ∧ aI ax leaf.f1 ≤ 1000000) (hz : I64 size) (P : Nat → Prop) (A : Option Addr) (cc : Nat) (w : World) (hv : Kd.V k26 26 w w.heap.size P (.slice A leaf.f3.length cc) leaf.f3) :
  Calls Try.prog 167 #[.agg #[.int .u8 leaf.f0, .int .i64 leaf.f1.f0, .int .i64 leaf.f1.f1, .int .i64 leaf.f1.f2, .int .i64 leaf.f1.f3, .int .i64 leaf.f2, .slice A leaf.f3.length cc], .int .u8 ax, .int .i64 size, .int .i64 fresh, .bool ahead] w (Vl w P (yQ ax size fresh ahead leaf)) := by
 have S := ae.mk (St.start (ts := [(.slice A leaf.f3.length cc, leaf.f3)]) (b0 := w.heap.size) (w := w) (P := P) (fun t ht => by rw [List.mem_singleton.1 ht]; exact hv))
 obtain ⟨ck, ⟨cx, cy, cw, ch⟩, aV, l⟩ := leaf
 simp only [] at S hs ⊢
 unfold yQ
 obtain ⟨sv, hsv⟩ : ∃ s, aI ax ⟨cx, cy, cw, ch⟩ = s := ⟨_, rfl⟩
 simp only [hsv] at hs ⊢
 obtain ⟨⟨e1, n1, ok⟩, hbs⟩ : ∃ r, xw sv size = r := ⟨_, rfl⟩
 simp only [hbs]
 have KY := ae.mk hsv
 have HSS := ae.mk (show I64 sv by unfold I64; omega)
 have HZS := ae.mk hz
 have HBS := ae.mk hbs
 unfold zx
 obtain ⟨W1, hw1⟩ : ∃ x, x = if ax = 1 then e1 else cw := ⟨_, rfl⟩
 obtain ⟨H1, hh1⟩ : ∃ x, x = if ax = 1 then ch else e1 := ⟨_, rfl⟩
 obtain ⟨W2, hw2⟩ : ∃ x, x = if ax = 1 then n1 else cw := ⟨_, rfl⟩
 obtain ⟨H2, hh2⟩ : ∃ x, x = if ax = 1 then ch else n1 := ⟨_, rfl⟩
 simp only [← hw1, ← hh1, ← hw2, ← hh2]
 have HW1 := ae.mk hw1
 have HH1 := ae.mk hh1
 have HW2 := ae.mk hw2
 have HH2 := ae.mk hh2
 clear hv hs hz hsv hbs hw1 hh1 hw2 hh2
 cases ahead with
 | false =>
  simp only [Bool.false_eq_true, if_false]
  go_enter Try.func167, Try.ntmps167
  go_wp2_with (first
   | (refine boxS 5 _ 26 S ?_; clear S; intro b5 fH S; have qJ := (S.out.at (.head _) 1).trans rfl; have qK := (S.out.at (.head _) 2).trans rfl; have qL := (S.out.at (.head _) 3).trans rfl; have qM := (S.out.at (.head _) 4).trans rfl)
   | (refine bQ (some 19) Try.func98 S (Hg KY.out (Hf ⟨cx, cy, cw, ch⟩ ax)) ?_; clear S; intro ik S; clear qJ qK qL qM)
   | (refine bQ (some 21) Try.func104 S (EY HSS.out HZS.out HBS.out _) ?_; clear S; intro iq S)
   | fail)
  refine jL (n := 15) (S := fun w' => St w _ _ _ _ _ w') (ds := []) (bA 15 0) (by kernel_rfl) rfl rfl (S.out.call (bC (Below.refl _ _))) (fun hHeld => ?_); refine fP sU.WV sU.Qv (fun au fE => ?_)
  replace S := ae.mk (S.out.call (bC (Below.refl _ _)))
  generalize iq.drew = wd4 at S hHeld ⊢
  refine aC 0 25 (bA 15 1) au ?_
  refine eQ 1 26 (bA 15 3) au fE hHeld ?_ (hv := by intro w' hs_; have qJ := (hs_.at (.head _) 1).trans rfl; have qK := (hs_.at (.head _) 2).trans rfl; have qL := (hs_.at (.head _) 3).trans rfl; have qM := (hs_.at (.head _) 4).trans rfl; go_simp; with_reducible rfl)
  refine aC 2 27 (bA 15 7) au ?_
  refine aC 3 28 (bA 15 15) au ?_
  refine aC 4 29 (bA 15 31) au ?_
  refine eQ 5 30 (bA 15 63) au fE hHeld ?_ (hv := by intro w' hs_; have yC := (hs_.at (.head _) 5).trans rfl; go_simp; with_reducible rfl)
  refine aC 7 32 (bA 15 191) au ?_
  refine eQ 8 33 (bA 15 447) au fE hHeld ?_ (hv := by intro w' hs_; have qJ := (hs_.at (.head _) 1).trans rfl; have qK := (hs_.at (.head _) 2).trans rfl; have qL := (hs_.at (.head _) 3).trans rfl; have qM := (hs_.at (.head _) 4).trans rfl; go_simp; with_reducible rfl)
  refine aC 9 34 (bA 15 959) au ?_
  refine aC 10 35 (bA 15 1983) au ?_
  refine aC 11 36 (bA 15 4031) au ?_
  refine lI 6 (some 31) (bA 15 4095) au (fun K hK => ?_)
  refine mG Try.func190 #[.agg #[.int .i64 cx, .int .i64 cy, .int .i64 cw, .int .i64 ch], .int .u8 ax, .int .i64 e1, .int .i64 aV] ?_
  refine (A_ cx cy cw ch ax e1 aV W1 H1 HW1.out HH1.out _).mono ?_
  rintro e oH ⟨rfl, hb⟩
  refine ⟨_, rfl, ?_⟩
  replace S := ae.mk (S.out.call hb)
  clear hb
  refine hK.out _ _ S.out (fun hHeld => ?_)
  clear hK K
  refine fK 31 ?_
  refine lI 12 (some 37) (bA 15 8191) au (fun K hK => ?_)
  refine mG Try.func190 #[.agg #[.int .i64 cx, .int .i64 cy, .int .i64 cw, .int .i64 ch], .int .u8 ax, .int .i64 n1, .int .i64 fresh] ?_
  refine (A_ cx cy cw ch ax n1 fresh W2 H2 HW2.out HH2.out _).mono ?_
  rintro e uo ⟨rfl, hb⟩
  refine ⟨_, rfl, ?_⟩
  replace S := ae.mk (S.out.call hb)
  clear hb
  refine hK.out _ _ S.out (fun hHeld => ?_)
  clear hK K
  refine fK 37 ?_
  refine lI 13 (some 38) (bA 15 16383) au (fun K hK => ?_)
  refine XC (N := 38) (by rfl) rfl ⟨1, ⟨cx, cy, W1, H1⟩, aV, []⟩ ⟨1, ⟨cx, cy, W2, H2⟩, fresh, []⟩ S.out (Kd.Dn k26 26 _ 0 _) (Kd.Dn k26 26 _ 0 _) ?hr ?_
  case hr => first | (go_simp; done) | (go_simp; rfl)
  intro gq cq wV S1
  replace S := ae.mk S1
  clear S1
  refine hK.out _ _ S.out.free.eU (fun hHeld => ?_)
  clear hK K
  refine fK 38 ?_
  refine aC 14 14 (bA 15 32767) au ?_
  refine lh (jb au.out (by kernel_rfl)) ?_
  clear hHeld
  go_wp2
  go_ret
  exact ⟨_, _, rfl, S.out.I_, S.out.below⟩
 | true =>
  simp only [if_true]
  go_enter Try.func167, Try.ntmps167
  go_wp2_with (first
   | (refine boxS 5 _ 26 S ?_; clear S; intro b5 fH S; have qJ := (S.out.at (.head _) 1).trans rfl; have qK := (S.out.at (.head _) 2).trans rfl; have qL := (S.out.at (.head _) 3).trans rfl; have qM := (S.out.at (.head _) 4).trans rfl)
   | (refine bQ (some 19) Try.func98 S (Hg KY.out (Hf ⟨cx, cy, cw, ch⟩ ax)) ?_; clear S; intro ik S; clear qJ qK qL qM)
   | (refine bQ (some 21) Try.func104 S (EY HSS.out HZS.out HBS.out _) ?_; clear S; intro iq S)
   | fail)
  refine jL (n := 15) (S := fun w' => St w _ _ _ _ _ w') (ds := []) (bA 15 0) (by kernel_rfl) rfl rfl (S.out.call (bC (Below.refl _ _))) (fun hHeld => ?_); refine fP sU.WV sU.Qv (fun au fE => ?_)
  replace S := ae.mk (S.out.call (bC (Below.refl _ _)))
  generalize iq.drew = wd4 at S hHeld ⊢
  refine aC 0 25 (bA 15 1) au ?_
  refine eQ 1 26 (bA 15 3) au fE hHeld ?_ (hv := by intro w' hs_; have qJ := (hs_.at (.head _) 1).trans rfl; have qK := (hs_.at (.head _) 2).trans rfl; have qL := (hs_.at (.head _) 3).trans rfl; have qM := (hs_.at (.head _) 4).trans rfl; go_simp; with_reducible rfl)
  refine aC 2 27 (bA 15 7) au ?_
  refine aC 3 28 (bA 15 15) au ?_
  refine aC 4 29 (bA 15 31) au ?_
  refine eQ 5 30 (bA 15 63) au fE hHeld ?_ (hv := by intro w' hs_; have yC := (hs_.at (.head _) 5).trans rfl; go_simp; with_reducible rfl)
  refine aC 7 32 (bA 15 191) au ?_
  refine eQ 8 33 (bA 15 447) au fE hHeld ?_ (hv := by intro w' hs_; have qJ := (hs_.at (.head _) 1).trans rfl; have qK := (hs_.at (.head _) 2).trans rfl; have qL := (hs_.at (.head _) 3).trans rfl; have qM := (hs_.at (.head _) 4).trans rfl; go_simp; with_reducible rfl)
  refine aC 9 34 (bA 15 959) au ?_
  refine aC 10 35 (bA 15 1983) au ?_
  refine aC 11 36 (bA 15 4031) au ?_
  refine lI 6 (some 31) (bA 15 4095) au (fun K hK => ?_)
  refine mG Try.func190 #[.agg #[.int .i64 cx, .int .i64 cy, .int .i64 cw, .int .i64 ch], .int .u8 ax, .int .i64 e1, .int .i64 aV] ?_
  refine (A_ cx cy cw ch ax e1 aV W1 H1 HW1.out HH1.out _).mono ?_
  rintro e oH ⟨rfl, hb⟩
  refine ⟨_, rfl, ?_⟩
  replace S := ae.mk (S.out.call hb)
  clear hb
  refine hK.out _ _ S.out (fun hHeld => ?_)
  clear hK K
  refine fK 31 ?_
  refine lI 12 (some 37) (bA 15 8191) au (fun K hK => ?_)
  refine mG Try.func190 #[.agg #[.int .i64 cx, .int .i64 cy, .int .i64 cw, .int .i64 ch], .int .u8 ax, .int .i64 n1, .int .i64 fresh] ?_
  refine (A_ cx cy cw ch ax n1 fresh W2 H2 HW2.out HH2.out _).mono ?_
  rintro e uo ⟨rfl, hb⟩
  refine ⟨_, rfl, ?_⟩
  replace S := ae.mk (S.out.call hb)
  clear hb
  refine hK.out _ _ S.out (fun hHeld => ?_)
  clear hK K
  refine fK 37 ?_
  refine lI 13 (some 38) (bA 15 16383) au (fun K hK => ?_)
  refine XC (N := 38) (by rfl) rfl ⟨1, ⟨cx, cy, W1, H1⟩, aV, []⟩ ⟨1, ⟨cx, cy, W2, H2⟩, fresh, []⟩ S.out (Kd.Dn k26 26 _ 0 _) (Kd.Dn k26 26 _ 0 _) ?hr ?_
  case hr => first | (go_simp; done) | (go_simp; rfl)
  intro gq cq wV S1
  replace S := ae.mk S1
  clear S1
  refine hK.out _ _ S.out.free.eU (fun hHeld => ?_)
  clear hK K
  refine fK 38 ?_
  refine aC 14 14 (bA 15 32767) au ?_
  refine lh (jb au.out (by kernel_rfl)) ?_
  clear hHeld
  go_wp2_with (first
   | (refine nO (some 41) Try.func191 (ade _ _ S.out) ?_; rintro e Hw ⟨rfl, S1⟩; refine ⟨_, rfl, ?_⟩; replace S := ae.mk S1; clear S1)
   | fail)
  go_ret
  exact ⟨_, _, rfl, S.out.I_, S.out.below⟩
def vI (id : Int) (c : ai) : Option ai := (jc c).find? fun x => decide (x.f2 = id)
def CE (id : Int) (l : List ai) : Option ai := ((allL l).filter fun x => decide (x.f0 = 1)).find? fun x => decide (x.f2 = id)
theorem WH (id : Int) : CE id [] = none := by unfold CE; rw [jW]; rfl
theorem UN (id : Int) (k : ai) (ks : List ai) : CE id (k :: ks) = (vI id k).or (CE id ks) := by
 unfold CE vI jc
 rw [g_, List.filter_append, List.find?_append]
theorem ZP (id : Int) (c : ai) : vI id c = if c.f0 = 1 ∧ c.f2 = id then some c else CE id c.f3 := by
 unfold vI CE jc
 rw [jY, List.filter_cons]
 by_cases h0 : c.f0 = 1
 ·rw [if_pos (decide_eq_true h0), List.find?_cons]
  by_cases h1 : c.f2 = id
  ·rw [if_pos ⟨h0, h1⟩, decide_eq_true h1]
  ·rw [if_neg (fun h => h1 h.2), decide_eq_false h1]
 ·rw [if_neg (by simpa using h0), if_neg (fun h => h0 h.1)]
theorem NV (id : Int) : ∀ (N : Nat) (c : ai), sz c ≤ N → vI id c = match dI id c with
 | some p => iU c p
 | none => none := by
 intro N
 induction N with
 | zero => intro c h; rw [dB] at h; omega
 | succ N ih =>
  intro c hc
  have hcs := dB c
  rw [ZP, p_]
  by_cases h : c.f0 = 1 ∧ c.f2 = id
  ·rw [if_pos h, if_pos h]; rfl
  ·rw [if_neg h, if_neg h]
   have key : ∀ (l pre : List ai), pre ++ l = c.f3 → CE id l = match nN id pre.length l with
    | some p => iU c p
    | none => none := by
    intro l
    induction l with
    | nil => intro pre _; rw [WH, mM]
    | cons k ks ihl =>
     intro pre hp
     have Ny : k ∈ c.f3 := by rw [← hp]; simp
     have hks : sz k ≤ N := by have := yt Ny; omega
     rw [UN, mD, ih k hks]
     cases hk : dI id k with
     | some q =>
      simp only []
      have e : iU c (((pre.length : Nat) : Int) :: q) = iU k q := by
       have hl : pre.length < c.f3.length := by rw [← hp]; simp
       simp only [iU]
       rw [if_neg (by omega), GM, ← hp, XA]
      rw [e]
      obtain ⟨z, hz, _⟩ := (xG id _).1 k (Nat.le_refl _) q hk
      rw [hz]
      rfl
     | none =>
      simp only []
      have h2 := ihl (pre ++ [k]) (by rw [List.append_assoc]; exact hp)
      rw [List.length_append, List.length_singleton] at h2
      rw [Option.none_or, h2]
   exact key c.f3 [] rfl
theorem ET {id : Int} {c : ai} {p : List Int} {leaf : ai} (h : dI id c = some p) (h2 : iU c p = some leaf) : vI id c = some leaf := by rw [NV id _ c (Nat.le_refl _), h]; exact h2
theorem NW {id : Int} {c : ai} (h : dI id c = none) : vI id c = none := by rw [NV id _ c (Nat.le_refl _), h]
abbrev Vk (w : World) (P : Nat → Prop) : Option ai → Ending → World → Prop
 | none, e, w' => e = .returned (.tuple #[.agg #[.int .u8 0, .int .i64 0, .int .i64 0, .int .i64 0, .int .i64 0, .int .i64 0, .slice none 0 0], .bool false]) ∧ Below w.heap.size w w'
 | some z, e, w' => ∃ A c, e = .returned (.tuple #[.agg #[.int .u8 z.f0, .int .i64 z.f1.f0, .int .i64 z.f1.f1, .int .i64 z.f1.f2, .int .i64 z.f1.f3, .int .i64 z.f2, .slice A z.f3.length c], .bool true]) ∧ Kd.V k26 26 w' w.heap.size (fun k => P k ∨ w.heap.size ≤ k) (.slice A z.f3.length c) z.f3 ∧ Below w.heap.size w w'
theorem QU {c : ai} {L : List ai} {P : Nat → Prop} {A : Option Addr} {cc : Nat} {W : World} (h : jc c = L) (hz : sz c ≤ 1048576) (hV : Kd.V k26 26 W W.heap.size P (.slice A c.f3.length cc) c.f3) :
  Calls Try.prog 126 #[.agg #[.int .u8 c.f0, .int .i64 c.f1.f0, .int .i64 c.f1.f1, .int .i64 c.f1.f2, .int .i64 c.f1.f3, .int .i64 c.f2, .slice A c.f3.length cc]] W fun e w' => ∃ A' c', e = .returned (.slice A' L.length c') ∧ Kd.N k26 26 w' W.heap.size (fun k => P k ∨ W.heap.size ≤ k) (.slice A' L.length c') L ∧ Below W.heap.size W w' := by
 obtain ⟨k, hk⟩ := (JI c hz).rounds
 rw [h] at hk
 exact (dJ.calls k _ _ _ _ _ _ P A cc c.f3 L W hV hk).mono (fun e w' ⟨v, he, hN, hB⟩ => by
  obtain ⟨A', c', rfl⟩ := Kd.jE hN
  exact ⟨A', c', he, hN, hB⟩)
theorem Ik (id : Int) (c : ai) (hz : sz c ≤ 1048576) (P : Nat → Prop) (A : Option Addr) (cc : Nat) (w : World) (hv : Kd.V k26 26 w w.heap.size P (.slice A c.f3.length cc) c.f3) :
  Calls Try.prog 122 #[.agg #[.int .u8 c.f0, .int .i64 c.f1.f0, .int .i64 c.f1.f1, .int .i64 c.f1.f2, .int .i64 c.f1.f3, .int .i64 c.f2, .slice A c.f3.length cc], .int .i64 id] w (Vk w P (vI id c)) := by
 have S := ae.mk (St.start (ts := [(.slice A c.f3.length cc, c.f3)]) (b0 := w.heap.size) (w := w) (P := P) (fun t ht => by rw [List.mem_singleton.1 ht]; exact hv))
 obtain ⟨L, hL⟩ : ∃ L, jc c = L := ⟨_, rfl⟩
 have hll := QV c
 unfold vI
 rw [hL] at hll ⊢
 obtain ⟨R, hR⟩ : ∃ r, (L.find? fun x => decide (x.f2 = id)) = r := ⟨_, rfl⟩
 rw [hR]
 have HZ := ae.mk hz
 have HLV := ae.mk hL
 have nP := ae.mk (show L.length ≤ 1048576 by omega)
 have HR := ae.mk (show ((L.drop 0).find? fun x => decide (x.f2 = id)) = R from hR)
 clear hz hv hL hll hR
 obtain ⟨ck, ⟨cx, cy, cw, ch⟩, aV, l⟩ := c
 simp only [] at S ⊢
 go_enter Try.func122, Try.ntmps122
 go_wp2_with (first
  | (refine boxS 2 _ 26 S ?_; clear S; intro b2 fH S)
  | (refine boxS 4 _ 26 S ?_; clear S; intro b4 ik S; obtain ⟨FX, zS, zT, zU, FY, Qz, zV⟩ := St.eX S dG)
  | (refine oW (some 9) Try.func126 S (QU (c := ⟨ck, ⟨cx, cy, cw, ch⟩, aV, l⟩) HLV.out HZ.out (fC (S.out.tree _ (.head _)))) ?_; clear S; intro Al cl iq S; clear FX zS zT zU FY Qz zV)
  | fail)
 go_loopg [12] L.length (fun gg v12 wr => ∃ n : Nat, v12 = .int .i64 (n : Int) ∧ ae (n ≤ L.length) ∧ L.length - n ≤ gg ∧ ae (((L.drop n).find? fun x => decide (x.f2 = id)) = R) ∧ ae (St w P [(some b4, .cells #[.int .u8 0, .int .i64 0, .int .i64 0, .int .i64 0, .int .i64 0, .int .i64 0, .slice none 0 0] 26 (0, 0)), (some b2, .cells #[.int .u8 ck, .int .i64 cx, .int .i64 cy, .int .i64 cw, .int .i64 ch, .int .i64 aV, .slice A l.length cc] 26 (0, 0))] [] [(.slice Al L.length cl, L), (.slice A l.length cc, l)] [] wr))
 case atStart => exact ⟨0, rfl, ⟨Nat.zero_le _⟩, Nat.le_refl _, HR, S⟩
 case round =>
  clear S HR
  obtain ⟨n, rfl, HN, hgg, HR, S⟩ := hrel
  by_cases hlt : n < L.length
  case pos =>
   have xK := ae.mk hlt
   have hlz : (n : Int) < (L.length : Int) := by omega
   have kX := ae.mk hgg
   have hw : wrap64 ((n : Int) + 1) = ((n + 1 : Nat) : Int) := by have := nP.out; unfold wrap64; omega
   have HW := ae.mk hw
   have hdr : L.drop n = kd L n :: L.drop (n + 1) := by
    rw [List.drop_eq_getElem_cons hlt]
    unfold kd
    rw [List.getD_eq_getElem?_getD, List.getElem?_eq_getElem hlt, Option.getD_some]
   have hr := HR.out
   rw [hdr, List.find?_cons] at hr
   obtain ⟨kY, ua, uc, ek, S1⟩ := S.out.elem (.head _) (n : Int) (Int.natCast_nonneg _) hlz
   subst ek
   rw [GM] at S1
   simp only [Int.toNat_natCast] at S1
   generalize kd L n = k at S1 hr
   replace S := ae.mk S1
   clear S1 hw hgg hdr
   by_cases hid : k.f2 = id
   case pos =>
    rw [decide_eq_true hid] at hr
    simp only [] at hr
    subst hr
    obtain ⟨agh, agi, agj⟩ := Bf (a := k.f2) (b := id) (by omega)
    clear hid HR
    obtain ⟨nR, lX, lY, lL, lM, oP, pW⟩ := St.O3 S
    go_wp2_with (first
     | (refine jg 26 4 25 #[.int .u8 k.f0, .int .i64 k.f1.f0, .int .i64 k.f1.f1, .int .i64 k.f1.f2, .int .i64 k.f1.f3, .int .i64 k.f2, .slice ua k.f3.length uc] 0 7 S ?_; clear S; intro fH S; clear nR lX lY lL lM oP pW)
     | fail)
    refine bodyPost_ret (gy rfl _ _ b4 26 _ (0, 0) _ rfl (S.out.blk _ (.head _) _ rfl) Try.underlying26 rfl (by kernel_rfl)) rfl ?_
    exact ⟨_, _, rfl, S.out.QZ (b0 := w.heap.size) (.head _), S.out.below⟩
   case neg =>
    rw [decide_eq_false hid] at hr
    simp only [] at hr
    have HR2 := ae.mk hr
    obtain ⟨agh, agi, agj⟩ := eqF (a := k.f2) (b := id) (by omega)
    clear hid hr HR
    have oP := (S.out.cell _ Ea).1
    go_wp2
    clear oP
    have hw := HW.out
    go_wp2
    go_roundg (L.length - (n + 1))
    case measure => have := kX.out; have := xK.out; omega
    case rel => exact ⟨n + 1, (by rw [hw]), ⟨xK.out⟩, Nat.le_refl _, HR2, ⟨S.out.eU.bM.bM.bM.bM.bM.bM.bM⟩⟩
  case neg =>
   have hlz : ¬ ((n : Int) < (L.length : Int)) := by omega
   have hr := HR.out
   rw [List.drop_eq_nil_of_le (by omega)] at hr
   have hr : none = R := hr
   subst hr
   clear hlt hgg
   go_wp2_with (first
    | (refine jg 26 4 27 #[.int .u8 0, .int .i64 0, .int .i64 0, .int .i64 0, .int .i64 0, .int .i64 0, .slice none 0 0] 0 7 S ?_; clear S; intro fH S)
    | fail)
   refine bodyPost_ret (gy rfl _ _ b4 26 _ (0, 0) _ rfl (S.out.blk _ (.head _) _ rfl) Try.underlying26 rfl (by kernel_rfl)) rfl ?_
   exact ⟨rfl, S.out.below⟩
theorem ZU {r : dF} {ax v : Int} {args : Array Value} {W : World} (h : aI ax r = v) (hc : Calls Try.prog 87 args W fun e w' => e = .returned (.int .i64 (aI ax r)) ∧ Below W.heap.size W w') : Calls Try.prog 87 args W fun e w' => e = .returned (.int .i64 v) ∧ Below W.heap.size W w' := by
 rw [h] at hc
 exact hc
theorem EF {id : Int} {c : ai} {R : Option ai} {P : Nat → Prop} {args : Array Value} {W : World} (h : vI id c = R) (hc : Calls Try.prog 122 args W (Vk W P (vI id c))) : Calls Try.prog 122 args W (Vk W P R) := by
 rw [h] at hc
 exact hc
theorem PU {f : FuncId} {L M : List ai} {P : Nat → Prop} {args : Array Value} {W : World} (h : M = L) (hc : Calls Try.prog f args W (Vl W P M)) : Calls Try.prog f args W (Vl W P L) := by
 rw [h] at hc
 exact hc
theorem Uw {ax : Int} {c leaf : ai} {p : List Int} (hax : ax = 1 ∨ ax = 2) (ht : bW c = true) (h : iU c p = some leaf) : 1 ≤ aI ax leaf.f1 ∧ aI ax leaf.f1 ≤ 10000 := by
 have := Pure.mO hax (Vw p c leaf ht h)
 omega
end Go.Proofs.Ytfdmfgaiblfbhaa.P
namespace Go.Proofs.Ytfdmfgaiblfbhaa.P
open Go.RowKit Go.Proofs.ag.aA Go.Proofs.ag.a_ Go.Proofs.ag.bG
attribute [local go_sem] jf jr jG jR iV iW jB jC
mutual
def dh.l0 : Nat → List Int → List (ai) → Int → Int → Option (List Int)
 | 0, _, _, _, _ => none
 | k + 1, x3, x6, x7, x8 => if x8 < x7 then (if 0 ≤ x8 then (if x8 < (x6.length : Int) then (if ((aj x6 x8).f0) = 1 then (if x3.length < 17592186044416 then ((some (x3 ++ [(aj x6 x8).f2] : List Int)).bind fun yR => ((dh.f k ((aj x6 x8).f3)).bind fun vK => (if yR.length + vK.length < 17592186044416 then (dh.l0 k (yR ++ vK) x6 x7 (wrap64 (x8 + 1))) else (none)))) else (none)) else ((dh.f k ((aj x6 x8).f3)).bind fun yO => (if x3.length + yO.length < 17592186044416 then (dh.l0 k (x3 ++ yO) x6 x7 (wrap64 (x8 + 1))) else (none)))) else (none)) else (none)) else (some x3)
def dh.f : Nat → List (ai) → Option (List Int)
 | 0, _ => none
 | k + 1, l0 => dh.l0 k ([] : List Int) l0 (l0.length : Int) 0
end
theorem dh.calls (k : Nat) : ∀ (A0 : Option Addr) (c0 : Nat) (l0 : List (ai)) (r : List Int) (w : World) (hr0 : Kd.C k26 w A0 l0.length l0) (hc0 : l0.length ≤ c0) (h : dh.f k l0 = some r),
  Calls Try.prog 83 #[.slice A0 l0.length c0] w fun e w' => ∃ CX : Value, e = .returned (CX) ∧ Kd.R (Kd.int .i64) 3 w' w.heap.size (fun _ => True) CX r ∧ Below w.heap.size w w' := by
 induction k using Nat.strongRecOn with
 | _ k ih =>
 intro A0 c0 l0 r w hr0 hc0 h
 cases k with
 | zero => exact absurd h (by simp [dh.f])
 | succ k =>
 simp only [dh.f] at h
 have IJ := Try.underlying26
 have HR0 := ae.mk hr0
 have Xb := ae.mk hc0
 clear hr0 hc0
 have HB := ae.mk (Below.refl w.heap.size w)
 have H : (dh.l0 k ([] : List Int) l0 (l0.length : Int) 0) = some r := h
 clear h
 have H' := ae.mk H
 clear H
 go_enter Try.func83, Try.ntmps83
 go_wp2
 go_loopg [3, 8] k (fun kq v3 v8 w' => ∃ (jI : List Int) (aU : Int), v8 = .int .i64 aU ∧ ae (dh.l0 kq jI l0 (l0.length : Int) aU = some r) ∧ ae (kq ≤ k) ∧ ae (Kd.R (Kd.int .i64) 3 w' w.heap.size (fun _ => True) v3 jI) ∧ ae (Below w.heap.size w w'))
 case atStart => exact ⟨(([] : List Int)), (0), (by first | rfl | (simp; done) | (simp [*]; done)), H', ⟨Nat.le_refl _⟩, ⟨by first | exact Kd.uy _ _ _ _ _ | exact Kd.sZ _ _ _ _ _ | exact Kd.Dn _ _ _ _ _ | exact Kd.ad5 _ _ _ _ _ | exact Kd.ad9 _ _ _ _ _⟩, ⟨by repeat (first | (with_reducible first | exact HB.out | apply aW | apply aQ | apply bJ) | exact HB.out)⟩⟩
 case round =>
  clear H'
  obtain ⟨jI, aU, rfl, HA, pI, jV, HB⟩ := hrel
  cases gk with
  | zero => exact absurd HA.out (by simp [dh.l0])
  | succ k1 =>
   have H := HA.out
   clear HA
   simp only [dh.l0] at H
   by_cases c2 : aU < (l0.length : Int)
   ·rw [if_pos c2] at H
    have Ew : decide (aU < (l0.length : Int)) = true := decide_eq_true c2
    clear c2
    by_cases c3 : 0 ≤ aU
    ·rw [if_pos c3] at H
     have uT : decide (0 ≤ aU) = true := decide_eq_true c3
     clear c3
     by_cases c4 : aU < (l0.length : Int)
     ·rw [if_pos c4] at H
      have uU : decide (aU < (l0.length : Int)) = true := decide_eq_true c4
      clear c4
      by_cases c5 : ((aj l0 aU).f0) = 1
      ·rw [if_pos c5] at H
       have BB : (((aj l0 aU).f0) == 1) = true := beq_iff_eq.mpr c5
       have af1 : (((aj l0 aU).f0) != 1) = false := bne_eq_false_iff_eq.mpr c5
       clear c5
       by_cases c6 : jI.length < 17592186044416
       ·rw [if_pos c6] at H
        have afU := ae.mk c6
        clear c6
        obtain ⟨yR, Gz⟩ : ∃ y_ : List Int, y_ = (jI ++ [(aj l0 aU).f2]) := ⟨_, rfl⟩
        replace H : ((dh.f k1 ((aj l0 aU).f3)).bind fun vK => (if yR.length + vK.length < 17592186044416 then (dh.l0 k1 (yR ++ vK) l0 (l0.length : Int) (wrap64 (aU + 1))) else (none))) = some r := by first | (rw [Gz]; with_reducible exact H) | (have Bl := (Option.bind_some _ _).symm.trans H; rw [Gz]; with_reducible exact Bl) | (have Bl := (Option.bind_some _ _).symm.trans H; with_reducible exact Bl) | with_reducible exact H | (rw [Gz]; exact H) | exact H
        have ad1 := ae.mk Gz
        clear Gz
        replace H := Option.bind_eq_some_iff.mp H
        obtain ⟨vK, A70, H⟩ := H
        replace H : (if yR.length + vK.length < 17592186044416 then (dh.l0 k1 (yR ++ vK) l0 (l0.length : Int) (wrap64 (aU + 1))) else (none)) = some r := H
        have A7 := ae.mk A70
        clear A70
        by_cases c8 : yR.length + vK.length < 17592186044416
        ·rw [if_pos c8] at H
         have afV := ae.mk c8
         clear c8
         obtain ⟨adG, GH⟩ : ∃ y_ : List Int, y_ = (yR ++ vK) := ⟨_, rfl⟩
         replace H : (dh.l0 k1 adG l0 (l0.length : Int) (wrap64 (aU + 1))) = some r := by first | (rw [GH]; with_reducible exact H) | (have Bl := (Option.bind_some _ _).symm.trans H; rw [GH]; with_reducible exact Bl) | (have Bl := (Option.bind_some _ _).symm.trans H; with_reducible exact Bl) | with_reducible exact H | (rw [GH]; exact H) | exact H
         have ad3 := ae.mk GH
         clear GH
         have H' := ae.mk H
         clear H
         have EP : 0 ≤ (aU : Int) := of_decide_eq_true (by first | (with_reducible assumption) | assumption)
         have ES : aU < (l0.length : Int) := of_decide_eq_true (by first | (with_reducible assumption) | assumption)
         obtain ⟨aec, qm, qp, VN, uY, uZ, u_, vk, vw, vz, vC, zg, zf⟩ := n_ HR0.out aU EP ES
         cases VN
         replace uY := (HB.out.cell (World.block_lt_of_cell? w _ uY)).trans uY
         replace uZ := (HB.out.cell (World.block_lt_of_cell? w _ uZ)).trans uZ
         replace u_ := (HB.out.cell (World.block_lt_of_cell? w _ u_)).trans u_
         replace vk := (HB.out.cell (World.block_lt_of_cell? w _ vk)).trans vk
         replace vw := (HB.out.cell (World.block_lt_of_cell? w _ vw)).trans vw
         replace vz := (HB.out.cell (World.block_lt_of_cell? w _ vz)).trans vz
         replace vC := (HB.out.cell (World.block_lt_of_cell? w _ vC)).trans vC
         have H6 := ae.mk zf
         have H5 := ae.mk zg
         clear zf zg
         replace EP := eq_true EP
         replace ES := eq_true ES
         go_wp2_with (first | ((with_reducible refine ay (N := 5) rfl ?_); refine aG ?hg (N := 5) ?hd (cs := #[.int .u8 0, .int .i64 0, .int .i64 0, .int .i64 0, .int .i64 0, .int .i64 0, .slice none 0 0]) (t := 26) ?hr ?_; (case hd => rfl); (case hg => rfl); (case hr => first | (go_simp; done) | (go_simp; rfl)); intro dV hg w9 hbox hb; have pM := ae.mk (Kd.kU (by (with_reducible repeat (first | apply Kd.kT | apply Kd.kV | apply Kd.l_)); exact jV.out) hb); have pO := ae.mk (ak (by repeat (first | (with_reducible first | exact HB.out | apply aW | apply aQ | apply bJ) | exact HB.out)) hb); have rF := ae.mk (hbox); have ui := ae.mk ((by rw [hg]; exact (dC (by repeat (first | (with_reducible first | exact HB.out | apply aW | apply aQ | apply bJ) | exact HB.out))) : w.heap.size ≤ dV)); have UC := ae.mk ((by rw [hg]; exact (dC (by repeat (first | (with_reducible first | exact HB.out | apply aW | apply aQ | apply bJ) | exact HB.out))) : w.heap.size ≤ dV)); clear jV; clear HB; have jV := pM; have HB := pO; have dK := rF; have adL := ui; have qG := UC; clear pM pO rF ui UC; clear hb hbox hg; have Ir : w9.cell? ⟨dV, 0, none⟩ = some (.int .u8 0) := (af dK.out 0).trans rfl; have Iu : w9.cell? ⟨dV, 1, none⟩ = some (.int .i64 0) := (af dK.out 1).trans rfl; have Iw : w9.cell? ⟨dV, 2, none⟩ = some (.int .i64 0) := (af dK.out 2).trans rfl; have Iy : w9.cell? ⟨dV, 3, none⟩ = some (.int .i64 0) := (af dK.out 3).trans rfl; have Yg : w9.cell? ⟨dV, 4, none⟩ = some (.int .i64 0) := (af dK.out 4).trans rfl; have Yh : w9.cell? ⟨dV, 5, none⟩ = some (.int .i64 0) := (af dK.out 5).trans rfl; have Yi : w9.cell? ⟨dV, 6, none⟩ = some (.slice none 0 0) := (af dK.out 6).trans rfl; have Iz := ah dK.out 0; have IA := ah dK.out 1; have IB := ah dK.out 2; have IC := ah dK.out 3; have YM := ah dK.out 4; have YN := ah dK.out 5; have YO := ah dK.out 6) | ((with_reducible refine ni (b := .append) (xs := #[.tmp 15, .tmp 18]) rfl ?_); at_builtin; refine Kd.Ep (Kd.int .i64) (w0 := w) w.heap.size rfl (.tmp 15) (.tmp 18) 41 3 (.int .i64 0) 8 rfl Try.underlying41 info3 rfl (by decide) (by omega) u3 jI ((aj l0 aU).f2) [.int .i64 ((aj l0 aU).f2)] (fun _ => True) (fun _ => False) rfl (by first | (go_simp; done) | (go_simp; rfl)) ?aP (fun _ hk => hk.elim) ?aF ?aO ?aB ?aS ?aL ?_; (case aP => exact rfl); (case aB => exact (by repeat (first | (with_reducible first | exact HB.out | apply aW | apply aQ | apply bJ | refine gG ?_ qG.out) | exact HB.out))); (case aF => exact (fun _ _ => trivial)); (case aO => exact (by (with_reducible repeat (first | apply Kd.kT | apply Kd.kV | apply Kd.l_)); exact Kd.kF (Kd.lN (p := ⟨dV, 6, none⟩) (Kd.lN (p := ⟨dV, 5, none⟩) (Kd.lN (p := ⟨dV, 4, none⟩) (Kd.lN (p := ⟨dV, 3, none⟩) (Kd.lN (p := ⟨dV, 2, none⟩) (Kd.lN (p := ⟨dV, 1, none⟩) (Kd.lN (p := ⟨dV, 0, none⟩) (Kd.H_ jV.out dK.out (by decide)) (fun _ hk => hk.2) (.int .u8 ((aj l0 aU).f0))) (fun _ hk => hk.2) (.int .i64 ((aj l0 aU).f1.f0))) (fun _ hk => hk.2) (.int .i64 ((aj l0 aU).f1.f1))) (fun _ hk => hk.2) (.int .i64 ((aj l0 aU).f1.f2))) (fun _ hk => hk.2) (.int .i64 ((aj l0 aU).f1.f3))) (fun _ hk => hk.2) (.int .i64 ((aj l0 aU).f2))) (fun _ hk => hk.2) (.slice qm ((aj l0 aU).f3).length qp)) (fun _ hk => trivial))); (case aS => exact (dC (by repeat (first | (with_reducible first | exact HB.out | apply aW | apply aQ | apply bJ | refine gG ?_ qG.out) | exact HB.out)))); (case aL => have := afU.out; omega); intro agF rZ ho hb hg hat; rw [← ad1.out] at ho; have pM := ae.mk (bP (g := dV) (o := .cells #[.int .u8 ((aj l0 aU).f0), .int .i64 ((aj l0 aU).f1.f0), .int .i64 ((aj l0 aU).f1.f1), .int .i64 ((aj l0 aU).f1.f2), .int .i64 ((aj l0 aU).f1.f3), .int .i64 ((aj l0 aU).f2), .slice qm ((aj l0 aU).f3).length qp] 26 (0, 0)) (by (with_reducible repeat (first | refine ed ?_ _ | refine dS ?_ | refine d_ ?_ _)); refine dP (cs := #[.int .u8 ((aj l0 aU).f0), .int .i64 ((aj l0 aU).f1.f0), .int .i64 ((aj l0 aU).f1.f1), .int .i64 ((aj l0 aU).f1.f2), .int .i64 ((aj l0 aU).f1.f3), .int .i64 ((aj l0 aU).f2), .slice none 0 0]) ?_ 6 _ rfl; (with_reducible repeat (first | refine ed ?_ _ | refine dS ?_ | refine d_ ?_ _)); refine dP (cs := #[.int .u8 ((aj l0 aU).f0), .int .i64 ((aj l0 aU).f1.f0), .int .i64 ((aj l0 aU).f1.f1), .int .i64 ((aj l0 aU).f1.f2), .int .i64 ((aj l0 aU).f1.f3), .int .i64 0, .slice none 0 0]) ?_ 5 _ rfl; (with_reducible repeat (first | refine ed ?_ _ | refine dS ?_ | refine d_ ?_ _)); refine dP (cs := #[.int .u8 ((aj l0 aU).f0), .int .i64 ((aj l0 aU).f1.f0), .int .i64 ((aj l0 aU).f1.f1), .int .i64 ((aj l0 aU).f1.f2), .int .i64 0, .int .i64 0, .slice none 0 0]) ?_ 4 _ rfl; (with_reducible repeat (first | refine ed ?_ _ | refine dS ?_ | refine d_ ?_ _)); refine dP (cs := #[.int .u8 ((aj l0 aU).f0), .int .i64 ((aj l0 aU).f1.f0), .int .i64 ((aj l0 aU).f1.f1), .int .i64 0, .int .i64 0, .int .i64 0, .slice none 0 0]) ?_ 3 _ rfl; (with_reducible repeat (first | refine ed ?_ _ | refine dS ?_ | refine d_ ?_ _)); refine dP (cs := #[.int .u8 ((aj l0 aU).f0), .int .i64 ((aj l0 aU).f1.f0), .int .i64 0, .int .i64 0, .int .i64 0, .int .i64 0, .slice none 0 0]) ?_ 2 _ rfl; (with_reducible repeat (first | refine ed ?_ _ | refine dS ?_ | refine d_ ?_ _)); refine dP (cs := #[.int .u8 ((aj l0 aU).f0), .int .i64 0, .int .i64 0, .int .i64 0, .int .i64 0, .int .i64 0, .slice none 0 0]) ?_ 1 _ rfl; (with_reducible repeat (first | refine ed ?_ _ | refine dS ?_ | refine d_ ?_ _)); refine dP (cs := #[.int .u8 0, .int .i64 0, .int .i64 0, .int .i64 0, .int .i64 0, .int .i64 0, .slice none 0 0]) ?_ 0 _ rfl; (with_reducible repeat (first | refine ed ?_ _ | refine dS ?_ | refine d_ ?_ _)); exact dK.out) hg (Kd.yL jV.out dK.out (by decide))); have pO := ae.mk (hb); have rF := ae.mk (ho); clear dK; clear HB; clear jV; have dK := pM; have HB := pO; have zF := rF; clear pM pO rF; clear ho hb hg hat; have O8 : rZ.cell? ⟨dV, 0, none⟩ = some (.int .u8 ((aj l0 aU).f0)) := (af dK.out 0).trans rfl; have O9 : rZ.cell? ⟨dV, 1, none⟩ = some (.int .i64 ((aj l0 aU).f1.f0)) := (af dK.out 1).trans rfl; have O_ : rZ.cell? ⟨dV, 2, none⟩ = some (.int .i64 ((aj l0 aU).f1.f1)) := (af dK.out 2).trans rfl; have Pg : rZ.cell? ⟨dV, 3, none⟩ = some (.int .i64 ((aj l0 aU).f1.f2)) := (af dK.out 3).trans rfl; have Yj : rZ.cell? ⟨dV, 4, none⟩ = some (.int .i64 ((aj l0 aU).f1.f3)) := (af dK.out 4).trans rfl; have Yk : rZ.cell? ⟨dV, 5, none⟩ = some (.int .i64 ((aj l0 aU).f2)) := (af dK.out 5).trans rfl; have Yl : rZ.cell? ⟨dV, 6, none⟩ = some (.slice qm ((aj l0 aU).f3).length qp) := (af dK.out 6).trans rfl; have Po := ah dK.out 0; have Pq := ah dK.out 1; have Pv := ah dK.out 2; have Px := ah dK.out 3; have YP := ah dK.out 4; have YQ := ah dK.out 5; have YR := ah dK.out 6) | ((with_reducible refine kE (f := 83) rfl ?_); refine ny (some 23) rfl rfl Try.func83 (by kernel_rfl) rfl #[.slice qm ((aj l0 aU).f3).length qp] rfl (by (try simp only [List.map_toArray, List.map_cons, List.map_nil]); first | done | rfl | (simp only [List.length_drop, List.length_take]; rfl)) ?_; (with_reducible refine (ih k1 (by have := pI.out; omega) _ _ ((aj l0 aU).f3) vK _ ?ql ?uN A7.out).mono ?_); (case ql => repeat (first | exact (Kd.dL H6.out HB.out) | (with_reducible refine Kd.C9 ?_ _) | (with_reducible refine Kd.C_ ?_ _) | (with_reducible refine Kd.Fg ?_))); (case uN => exact H5.out); rintro e yK ⟨aks, rfl, ho0, hb⟩; refine ⟨_, rfl, ?_⟩; have pM := ae.mk (Kd.Ll (by (with_reducible repeat (first | apply Kd.kT | apply Kd.kV | apply Kd.l_)); exact zF.out) (Kd.Bz ho0) hb); have pO := ae.mk (Kd.qA (Kd.SI ho0 (Kd.Et (by (with_reducible repeat (first | apply Kd.kT | apply Kd.kV | apply Kd.l_)); exact zF.out))) (dC (by repeat (first | (with_reducible first | exact HB.out | apply aW | apply aQ | apply bJ | refine gG ?_ qG.out) | exact HB.out)))); have rF := ae.mk (aJ (g := dV) (o := .cells #[.int .u8 ((aj l0 aU).f0), .int .i64 ((aj l0 aU).f1.f0), .int .i64 ((aj l0 aU).f1.f1), .int .i64 ((aj l0 aU).f1.f2), .int .i64 ((aj l0 aU).f1.f3), .int .i64 ((aj l0 aU).f2), .slice qm ((aj l0 aU).f3).length qp] 26 (0, 0)) (by (with_reducible repeat (first | refine ed ?_ _ | refine dS ?_ | refine d_ ?_ _)); exact dK.out) hb); have ui := ae.mk (ak (by repeat (first | (with_reducible first | exact HB.out | apply aW | apply aQ | apply bJ | refine gG ?_ qG.out) | exact HB.out)) hb); clear zF; clear dK; clear HB; have zF := pM; have Di := pO; have dK := rF; have HB := ui; clear pM pO rF ui; (try clear hb); (try clear hb2); (try clear hk); (try clear hi); (try clear ho0); obtain ⟨Qa, QA, VP⟩ := Kd.ja Di.out; subst VP) | ((with_reducible refine ni (b := .append) (xs := #[.tmp 20, .tmp 23]) rfl ?_); at_builtin; refine Kd.qo (Kd.int .i64) (w0 := w) w.heap.size rfl (.tmp 20) (.tmp 23) 41 3 (.int .i64 0) 8 rfl Try.underlying41 info3 rfl (by decide) (by omega) agF yR vK _ _ _ (fun k_ => some k_ ≠ (.slice Qa vK.length QA : Value).ownBlock) (fun _ => False) rfl rfl ?aO ?aR (fun _ _ h => h) (fun _ h => h.elim) ?aF ?aB ?aS ?aL ?_; (case aR => repeat (first | exact (Kd.fD Di.out).2.2 | (with_reducible refine Kd.C9 ?_ _) | (with_reducible refine Kd.C_ ?_ _) | (with_reducible refine Kd.Fg ?_))); (case aB => exact (by repeat (first | (with_reducible first | exact HB.out | apply aW | apply aQ | apply bJ | refine gG ?_ qG.out) | exact HB.out))); (case aF => exact (fun k_ hk => Kd.fresh' (Kd.Et (by (with_reducible repeat (first | apply Kd.kT | apply Kd.kV | apply Kd.l_)); exact Di.out)) k_ hk)); (case aO => exact (by (with_reducible repeat (first | apply Kd.kT | apply Kd.kV | apply Kd.l_)); exact Kd.kF zF.out (fun _ hk => hk.2))); (case aS => exact (dC (by repeat (first | (with_reducible first | exact HB.out | apply aW | apply aQ | apply bJ | refine gG ?_ qG.out) | exact HB.out)))); (case aL => have := afV.out; omega); intro akt w14 ho hb hg hat; rw [← ad3.out] at ho; have pM := ae.mk (bP (g := dV) (o := .cells #[.int .u8 ((aj l0 aU).f0), .int .i64 ((aj l0 aU).f1.f0), .int .i64 ((aj l0 aU).f1.f1), .int .i64 ((aj l0 aU).f1.f2), .int .i64 ((aj l0 aU).f1.f3), .int .i64 ((aj l0 aU).f2), .slice qm ((aj l0 aU).f3).length qp] 26 (0, 0)) (by (with_reducible repeat (first | refine ed ?_ _ | refine dS ?_ | refine d_ ?_ _)); exact dK.out) hg (Kd.yL zF.out dK.out (by decide))); have pO := ae.mk (Kd.OQ (ok := (fun _ => True)) (by (with_reducible repeat (first | apply Kd.kT | apply Kd.kV | apply Kd.l_)); exact Di.out) hg hat); have rF := ae.mk (hb); have ui := ae.mk (ho); clear dK; clear Di; clear HB; clear zF; have dK := pM; have Di := pO; have HB := rF; have adQ := ui; clear pM pO rF ui; clear ho hb hg hat))
         go_roundg k1
         case measure => have := pI.out; omega
         case rel => exact ⟨(adG), (wrap64 (aU + 1)), (by first | rfl | (simp; done) | (simp [*]; done)), H', ⟨by have := pI.out; omega⟩, ⟨by (with_reducible repeat (first | apply Kd.kT | apply Kd.kV | apply Kd.l_)); exact Kd.kF adQ.out (fun _ hk => trivial)⟩, ⟨by repeat (first | (with_reducible first | exact HB.out | apply aW | apply aQ | apply bJ | refine gG ?_ qG.out) | exact HB.out)⟩⟩
        ·rw [if_neg c8] at H
         exact absurd H (by simp)
       ·rw [if_neg c6] at H
        exact absurd H (by simp)
      ·rw [if_neg c5] at H
       have BB : (((aj l0 aU).f0) == 1) = false := beq_eq_false_iff_ne.mpr c5
       have af1 : (((aj l0 aU).f0) != 1) = true := bne_iff_ne.mpr c5
       replace H := Option.bind_eq_some_iff.mp H
       obtain ⟨yO, aay, H⟩ := H
       replace H : (if jI.length + yO.length < 17592186044416 then (dh.l0 k1 (jI ++ yO) l0 (l0.length : Int) (wrap64 (aU + 1))) else (none)) = some r := H
       have A16 := ae.mk aay
       clear aay
       by_cases c17 : jI.length + yO.length < 17592186044416
       ·rw [if_pos c17] at H
        have adV := ae.mk c17
        clear c17
        obtain ⟨adH, GI⟩ : ∃ y_ : List Int, y_ = (jI ++ yO) := ⟨_, rfl⟩
        replace H : (dh.l0 k1 adH l0 (l0.length : Int) (wrap64 (aU + 1))) = some r := by first | (rw [GI]; with_reducible exact H) | (have Bl := (Option.bind_some _ _).symm.trans H; rw [GI]; with_reducible exact Bl) | (have Bl := (Option.bind_some _ _).symm.trans H; with_reducible exact Bl) | with_reducible exact H | (rw [GI]; exact H) | exact H
        have ad4 := ae.mk GI
        clear GI
        have H' := ae.mk H
        clear H
        have EP : 0 ≤ (aU : Int) := of_decide_eq_true (by first | (with_reducible assumption) | assumption)
        have ES : aU < (l0.length : Int) := of_decide_eq_true (by first | (with_reducible assumption) | assumption)
        obtain ⟨aec, qm, qp, VN, uY, uZ, u_, vk, vw, vz, vC, zg, zf⟩ := n_ HR0.out aU EP ES
        cases VN
        replace uY := (HB.out.cell (World.block_lt_of_cell? w _ uY)).trans uY
        replace uZ := (HB.out.cell (World.block_lt_of_cell? w _ uZ)).trans uZ
        replace u_ := (HB.out.cell (World.block_lt_of_cell? w _ u_)).trans u_
        replace vk := (HB.out.cell (World.block_lt_of_cell? w _ vk)).trans vk
        replace vw := (HB.out.cell (World.block_lt_of_cell? w _ vw)).trans vw
        replace vz := (HB.out.cell (World.block_lt_of_cell? w _ vz)).trans vz
        replace vC := (HB.out.cell (World.block_lt_of_cell? w _ vC)).trans vC
        have H6 := ae.mk zf
        have H5 := ae.mk zg
        clear zf zg
        replace EP := eq_true EP
        replace ES := eq_true ES
        go_wp2_with (first | ((with_reducible refine ay (N := 5) rfl ?_); refine aG ?hg (N := 5) ?hd (cs := #[.int .u8 0, .int .i64 0, .int .i64 0, .int .i64 0, .int .i64 0, .int .i64 0, .slice none 0 0]) (t := 26) ?hr ?_; (case hd => rfl); (case hg => rfl); (case hr => first | (go_simp; done) | (go_simp; rfl)); intro dV hg Oh hbox hb; have pM := ae.mk (Kd.kU (by (with_reducible repeat (first | apply Kd.kT | apply Kd.kV | apply Kd.l_)); exact jV.out) hb); have pO := ae.mk (ak (by repeat (first | (with_reducible first | exact HB.out | apply aW | apply aQ | apply bJ) | exact HB.out)) hb); have rF := ae.mk (hbox); have ui := ae.mk ((by rw [hg]; exact (dC (by repeat (first | (with_reducible first | exact HB.out | apply aW | apply aQ | apply bJ) | exact HB.out))) : w.heap.size ≤ dV)); have UC := ae.mk ((by rw [hg]; exact (dC (by repeat (first | (with_reducible first | exact HB.out | apply aW | apply aQ | apply bJ) | exact HB.out))) : w.heap.size ≤ dV)); clear jV; clear HB; have jV := pM; have HB := pO; have dK := rF; have adL := ui; have qG := UC; clear pM pO rF ui UC; clear hb hbox hg; have ag1 : Oh.cell? ⟨dV, 0, none⟩ = some (.int .u8 0) := (af dK.out 0).trans rfl; have ag2 : Oh.cell? ⟨dV, 1, none⟩ = some (.int .i64 0) := (af dK.out 1).trans rfl; have ag3 : Oh.cell? ⟨dV, 2, none⟩ = some (.int .i64 0) := (af dK.out 2).trans rfl; have ag4 : Oh.cell? ⟨dV, 3, none⟩ = some (.int .i64 0) := (af dK.out 3).trans rfl; have ag5 : Oh.cell? ⟨dV, 4, none⟩ = some (.int .i64 0) := (af dK.out 4).trans rfl; have ag6 : Oh.cell? ⟨dV, 5, none⟩ = some (.int .i64 0) := (af dK.out 5).trans rfl; have ag7 : Oh.cell? ⟨dV, 6, none⟩ = some (.slice none 0 0) := (af dK.out 6).trans rfl; have ahv := ah dK.out 0; have ahw := ah dK.out 1; have ahx := ah dK.out 2; have ahy := ah dK.out 3; have ahz := ah dK.out 4; have ahA := ah dK.out 5; have ahB := ah dK.out 6) | ((with_reducible refine kE (f := 83) rfl ?_); refine ny (some 23) rfl rfl Try.func83 (by kernel_rfl) rfl #[.slice qm ((aj l0 aU).f3).length qp] rfl (by (try simp only [List.map_toArray, List.map_cons, List.map_nil]); first | done | rfl | (simp only [List.length_drop, List.length_take]; rfl)) ?_; (with_reducible refine (ih k1 (by have := pI.out; omega) _ _ ((aj l0 aU).f3) yO _ ?ql ?uN A16.out).mono ?_); (case ql => exact Kd.dL H6.out (by repeat (first | (with_reducible first | exact HB.out | apply aW | apply aQ | apply bJ | refine gG ?_ qG.out) | exact HB.out))); (case uN => exact H5.out); rintro e w20 ⟨aku, rfl, ho0, hb⟩; refine ⟨_, rfl, ?_⟩; have pM := ae.mk (Kd.Ll (by (with_reducible repeat (first | apply Kd.kT | apply Kd.kV | apply Kd.l_)); exact (Kd.kF (Kd.lN (p := ⟨dV, 6, none⟩) (Kd.lN (p := ⟨dV, 5, none⟩) (Kd.lN (p := ⟨dV, 4, none⟩) (Kd.lN (p := ⟨dV, 3, none⟩) (Kd.lN (p := ⟨dV, 2, none⟩) (Kd.lN (p := ⟨dV, 1, none⟩) (Kd.lN (p := ⟨dV, 0, none⟩) (Kd.H_ jV.out dK.out (by decide)) (fun _ hk => hk.2) (.int .u8 ((aj l0 aU).f0))) (fun _ hk => hk.2) (.int .i64 ((aj l0 aU).f1.f0))) (fun _ hk => hk.2) (.int .i64 ((aj l0 aU).f1.f1))) (fun _ hk => hk.2) (.int .i64 ((aj l0 aU).f1.f2))) (fun _ hk => hk.2) (.int .i64 ((aj l0 aU).f1.f3))) (fun _ hk => hk.2) (.int .i64 ((aj l0 aU).f2))) (fun _ hk => hk.2) (.slice qm ((aj l0 aU).f3).length qp)) (fun _ h_ => h_.1))) (Kd.Bz ho0) hb); have pO := ae.mk (Kd.qA (Kd.SI ho0 (Kd.Et (by (with_reducible repeat (first | apply Kd.kT | apply Kd.kV | apply Kd.l_)); exact (Kd.kF (Kd.lN (p := ⟨dV, 6, none⟩) (Kd.lN (p := ⟨dV, 5, none⟩) (Kd.lN (p := ⟨dV, 4, none⟩) (Kd.lN (p := ⟨dV, 3, none⟩) (Kd.lN (p := ⟨dV, 2, none⟩) (Kd.lN (p := ⟨dV, 1, none⟩) (Kd.lN (p := ⟨dV, 0, none⟩) (Kd.H_ jV.out dK.out (by decide)) (fun _ hk => hk.2) (.int .u8 ((aj l0 aU).f0))) (fun _ hk => hk.2) (.int .i64 ((aj l0 aU).f1.f0))) (fun _ hk => hk.2) (.int .i64 ((aj l0 aU).f1.f1))) (fun _ hk => hk.2) (.int .i64 ((aj l0 aU).f1.f2))) (fun _ hk => hk.2) (.int .i64 ((aj l0 aU).f1.f3))) (fun _ hk => hk.2) (.int .i64 ((aj l0 aU).f2))) (fun _ hk => hk.2) (.slice qm ((aj l0 aU).f3).length qp)) (fun _ h_ => h_.1))))) (dC (by repeat (first | (with_reducible first | exact HB.out | apply aW | apply aQ | apply bJ | refine gG ?_ qG.out) | exact HB.out)))); have rF := ae.mk (aJ (g := dV) (o := .cells #[.int .u8 ((aj l0 aU).f0), .int .i64 ((aj l0 aU).f1.f0), .int .i64 ((aj l0 aU).f1.f1), .int .i64 ((aj l0 aU).f1.f2), .int .i64 ((aj l0 aU).f1.f3), .int .i64 ((aj l0 aU).f2), .slice qm ((aj l0 aU).f3).length qp] 26 (0, 0)) (by (with_reducible repeat (first | refine ed ?_ _ | refine dS ?_ | refine d_ ?_ _)); refine dP (cs := #[.int .u8 ((aj l0 aU).f0), .int .i64 ((aj l0 aU).f1.f0), .int .i64 ((aj l0 aU).f1.f1), .int .i64 ((aj l0 aU).f1.f2), .int .i64 ((aj l0 aU).f1.f3), .int .i64 ((aj l0 aU).f2), .slice none 0 0]) ?_ 6 _ rfl; (with_reducible repeat (first | refine ed ?_ _ | refine dS ?_ | refine d_ ?_ _)); refine dP (cs := #[.int .u8 ((aj l0 aU).f0), .int .i64 ((aj l0 aU).f1.f0), .int .i64 ((aj l0 aU).f1.f1), .int .i64 ((aj l0 aU).f1.f2), .int .i64 ((aj l0 aU).f1.f3), .int .i64 0, .slice none 0 0]) ?_ 5 _ rfl; (with_reducible repeat (first | refine ed ?_ _ | refine dS ?_ | refine d_ ?_ _)); refine dP (cs := #[.int .u8 ((aj l0 aU).f0), .int .i64 ((aj l0 aU).f1.f0), .int .i64 ((aj l0 aU).f1.f1), .int .i64 ((aj l0 aU).f1.f2), .int .i64 0, .int .i64 0, .slice none 0 0]) ?_ 4 _ rfl; (with_reducible repeat (first | refine ed ?_ _ | refine dS ?_ | refine d_ ?_ _)); refine dP (cs := #[.int .u8 ((aj l0 aU).f0), .int .i64 ((aj l0 aU).f1.f0), .int .i64 ((aj l0 aU).f1.f1), .int .i64 0, .int .i64 0, .int .i64 0, .slice none 0 0]) ?_ 3 _ rfl; (with_reducible repeat (first | refine ed ?_ _ | refine dS ?_ | refine d_ ?_ _)); refine dP (cs := #[.int .u8 ((aj l0 aU).f0), .int .i64 ((aj l0 aU).f1.f0), .int .i64 0, .int .i64 0, .int .i64 0, .int .i64 0, .slice none 0 0]) ?_ 2 _ rfl; (with_reducible repeat (first | refine ed ?_ _ | refine dS ?_ | refine d_ ?_ _)); refine dP (cs := #[.int .u8 ((aj l0 aU).f0), .int .i64 0, .int .i64 0, .int .i64 0, .int .i64 0, .int .i64 0, .slice none 0 0]) ?_ 1 _ rfl; (with_reducible repeat (first | refine ed ?_ _ | refine dS ?_ | refine d_ ?_ _)); refine dP (cs := #[.int .u8 0, .int .i64 0, .int .i64 0, .int .i64 0, .int .i64 0, .int .i64 0, .slice none 0 0]) ?_ 0 _ rfl; (with_reducible repeat (first | refine ed ?_ _ | refine dS ?_ | refine d_ ?_ _)); exact dK.out) hb); have ui := ae.mk (ak (by repeat (first | (with_reducible first | exact HB.out | apply aW | apply aQ | apply bJ | refine gG ?_ qG.out) | exact HB.out)) hb); clear jV; clear dK; clear HB; have jV := pM; have Dj := pO; have dK := rF; have HB := ui; clear pM pO rF ui; (try clear hb); (try clear hb2); (try clear hk); (try clear hi); (try clear ho0); obtain ⟨afP, af8, agb⟩ := Kd.ja Dj.out; subst agb) | ((with_reducible refine ni (b := .append) (xs := #[.tmp 20, .tmp 23]) rfl ?_); at_builtin; refine Kd.qo (Kd.int .i64) (w0 := w) w.heap.size rfl (.tmp 20) (.tmp 23) 41 3 (.int .i64 0) 8 rfl Try.underlying41 info3 rfl (by decide) (by omega) u3 jI yO _ _ _ (fun k_ => some k_ ≠ (.slice afP yO.length af8 : Value).ownBlock) (fun _ => False) rfl rfl ?aO ?aR (fun _ _ h => h) (fun _ h => h.elim) ?aF ?aB ?aS ?aL ?_; (case aR => repeat (first | exact (Kd.fD Dj.out).2.2 | (with_reducible refine Kd.C9 ?_ _) | (with_reducible refine Kd.C_ ?_ _) | (with_reducible refine Kd.Fg ?_))); (case aB => exact (by repeat (first | (with_reducible first | exact HB.out | apply aW | apply aQ | apply bJ | refine gG ?_ qG.out) | exact HB.out))); (case aF => exact (fun k_ hk => Kd.fresh' (Kd.Et (by (with_reducible repeat (first | apply Kd.kT | apply Kd.kV | apply Kd.l_)); exact Dj.out)) k_ hk)); (case aO => exact (by (with_reducible repeat (first | apply Kd.kT | apply Kd.kV | apply Kd.l_)); exact Kd.kF jV.out (fun _ hk => hk.2))); (case aS => exact (dC (by repeat (first | (with_reducible first | exact HB.out | apply aW | apply aQ | apply bJ | refine gG ?_ qG.out) | exact HB.out)))); (case aL => have := adV.out; omega); intro akv Ee ho hb hg hat; rw [← ad4.out] at ho; have pM := ae.mk (bP (g := dV) (o := .cells #[.int .u8 ((aj l0 aU).f0), .int .i64 ((aj l0 aU).f1.f0), .int .i64 ((aj l0 aU).f1.f1), .int .i64 ((aj l0 aU).f1.f2), .int .i64 ((aj l0 aU).f1.f3), .int .i64 ((aj l0 aU).f2), .slice qm ((aj l0 aU).f3).length qp] 26 (0, 0)) (by (with_reducible repeat (first | refine ed ?_ _ | refine dS ?_ | refine d_ ?_ _)); exact dK.out) hg (Kd.yL jV.out dK.out (by decide))); have pO := ae.mk (Kd.OQ (ok := (fun _ => True)) (by (with_reducible repeat (first | apply Kd.kT | apply Kd.kV | apply Kd.l_)); exact Dj.out) hg hat); have rF := ae.mk (hb); have ui := ae.mk (ho); clear dK; clear Dj; clear HB; clear jV; have dK := pM; have Dj := pO; have HB := rF; have adR := ui; clear pM pO rF ui; clear ho hb hg hat))
        go_roundg k1
        case measure => have := pI.out; omega
        case rel => exact ⟨(adH), (wrap64 (aU + 1)), (by first | rfl | (simp; done) | (simp [*]; done)), H', ⟨by have := pI.out; omega⟩, ⟨by (with_reducible repeat (first | apply Kd.kT | apply Kd.kV | apply Kd.l_)); exact Kd.kF adR.out (fun _ hk => trivial)⟩, ⟨by repeat (first | (with_reducible first | exact HB.out | apply aW | apply aQ | apply bJ | refine gG ?_ qG.out) | exact HB.out)⟩⟩
       ·rw [if_neg c17] at H
        exact absurd H (by simp)
     ·rw [if_neg c4] at H
      exact absurd H (by simp)
    ·rw [if_neg c3] at H
     exact absurd H (by simp)
   ·rw [if_neg c2] at H
    have Ew : decide (aU < (l0.length : Int)) = false := decide_eq_false c2
    clear c2
    obtain rfl := Option.some.inj H
    go_wp2
    go_ret
    exact ⟨_, by first | rfl | (simp [kZ, lg] <;> rfl) | (simp [*, kZ, lg] <;> rfl), by (with_reducible repeat (first | apply Kd.kT | apply Kd.kV | apply Kd.l_)); exact jV.out, by repeat (first | (with_reducible first | exact HB.out | apply aW | apply aQ | apply bJ) | exact HB.out)⟩
end Go.Proofs.Ytfdmfgaiblfbhaa.P
namespace Go.Proofs.Ytfdmfgaiblfbhaa.P
open Go.RowKit Go.Proofs.ag.aA Go.Proofs.ag.a_ Go.Proofs.ag.bG
def jF (l : List ai) : List Int := ((allL l).filter fun x => decide (x.f0 = 1)).map (·.f2)
theorem V4 (a b : List ai) : jF (a ++ b) = jF a ++ jF b := by
 unfold jF
 rw [oK, List.filter_append, List.map_append]
theorem V5 (x : ai) : jF [x] = (if x.f0 = 1 then [x.f2] else []) ++ jF x.f3 := by
 unfold jF
 rw [g_, jW, List.append_nil, jY]
 by_cases h : x.f0 = 1
 ·rw [if_pos h, List.filter_cons_of_pos (by simpa using h)]
  rfl
 ·rw [if_neg h, List.filter_cons_of_neg (by simpa using h)]
  rfl
theorem EM (l : List ai) : (jF l).length ≤ dM l := by unfold jF; rw [List.length_map]; exact List.length_filter_le _ _
theorem Ig : ∀ (N : Nat) (l : List ai), dM l ≤ N → N ≤ 1048576 → Ev (fun k => dh.f k l) (jF l) := by
 intro N
 induction N with
 | zero =>
  intro l h _
  cases l with
  | nil =>
   refine ⟨2, fun k hk => ?_⟩
   obtain ⟨m, rfl⟩ : ∃ m, k = m + 2 := ⟨k - 2, by omega⟩
   simp [dh.f, dh.l0, jF, jW]
  | cons x xs => rw [b_, dB] at h; omega
 | succ N ih =>
  intro l hl hN
  have hlen := ku l
  have key : ∀ (rest pre : List ai), pre ++ rest = l → Ev (fun k => dh.l0 k (jF pre) l (l.length : Int) (pre.length : Int)) (jF l) := by
   intro rest
   induction rest with
   | nil =>
    intro pre hp
    rw [List.append_nil] at hp
    refine Ev.step (f := fun _ => some (jF l)) (fun k => ?_) (Ev.now _)
    simp only [dh.l0]
    rw [if_neg (by rw [hp]; omega), hp]
   | cons x xs ihr =>
    intro pre hp
    have hs := dB x
    have hlt : (pre.length : Int) < (l.length : Int) := by rw [← hp, List.length_append, List.length_cons]; omega
    have hsum : dM l = dM pre + (sz x + dM xs) := by rw [← hp, jH, b_]
    have e2 := ihr (pre ++ [x]) (by rw [List.append_assoc]; exact hp)
    have hr : aj l (pre.length : Int) = x := by rw [← hp]; exact mV pre x xs
    have hu : wrap64 ((pre.length : Int) + 1) = ((pre ++ [x]).length : Int) := DV pre x xs (by rw [hp]; omega)
    have h1 := EM pre
    have h2 := EM x.f3
    rw [V4, V5] at e2
    have hx := ih x.f3 (by omega) (by omega)
    by_cases hk : x.f0 = 1
    ·rw [if_pos hk, ← List.append_assoc] at e2
     have hb : (jF pre ++ [x.f2]).length + (jF x.f3).length < 17592186044416 := by rw [List.length_append, List.length_singleton]; omega
     refine Ev.step (f := fun k => (dh.f k x.f3).bind fun t => (if (jF pre ++ [x.f2]).length + t.length < 17592186044416 then (dh.l0 k ((jF pre ++ [x.f2]) ++ t) l (l.length : Int) ((pre ++ [x]).length : Int)) else none)) (fun k => ?_) (Ev.bind hx (F8 hb e2))
     simp only [dh.l0]
     rw [if_pos hlt, if_pos (by omega), if_pos hlt, hr, if_pos hk, if_pos (by omega), Option.bind_some, hu]
    ·rw [if_neg hk, List.nil_append] at e2
     refine Ev.step (f := fun k => (dh.f k x.f3).bind fun t => (if (jF pre).length + t.length < 17592186044416 then (dh.l0 k (jF pre ++ t) l (l.length : Int) ((pre ++ [x]).length : Int)) else none)) (fun k => ?_) (Ev.bind hx (F8 (by omega) e2))
     simp only [dh.l0]
     rw [if_pos hlt, if_pos (by omega), if_pos hlt, hr, if_neg hk, hu]
  refine Ev.step (fun k => ?_) (key l [] rfl)
  simp only [dh.f]
  unfold jF
  rw [jW]
  rfl
end Go.Proofs.Ytfdmfgaiblfbhaa.P
namespace Go.Proofs.Ytfdmfgaiblfbhaa.P
open Go.RowKit Go.Proofs.ag.aA Go.Proofs.ag.a_ Go.Proofs.ag.bG
attribute [local go_sem] jf jr jG jR iV iW jB jC
def bZ.l0 : Nat → List Int → Int → Int → Int → Option (Int)
 | 0, _, _, _, _ => none
 | k + 1, x0, x1, x7, x8 => if x8 < x7 then (if 0 ≤ x8 then (if x8 < (x0.length : Int) then (if x1 = (rd x0 x8) then (some x8) else (bZ.l0 k x0 x1 x7 (wrap64 (x8 + 1)))) else (none)) else (none)) else (some (-1))
def bZ.f (k : Nat) (l0 : List Int) (a1 : Int) : Option (Int) := bZ.l0 k l0 a1 (l0.length : Int) 0
theorem bZ.calls (k : Nat) (A0 : Option Addr) (c0 : Nat) (l0 : List Int) (a1 : Int) (r : Int) (w : World) (hr0 : Kd.C (Kd.int .i64) w A0 l0.length l0) (hc0 : l0.length ≤ c0) (h : bZ.f k l0 a1 = some r) :
  Calls Try.prog 188 #[.slice A0 l0.length c0, .int .i64 a1] w fun e w' => e = .returned (.int .i64 r) ∧ jA w w' := by
 have HR0 := ae.mk hr0
 have Xb := ae.mk hc0
 clear hr0 hc0
 have H : (bZ.l0 k l0 a1 (l0.length : Int) 0) = some r := h
 clear h
 have H' := ae.mk H
 clear H
 go_enter Try.func188, Try.ntmps188
 go_wp2
 go_loopg [8] k (fun kq v8 w' => ∃ (aU : Int), v8 = .int .i64 aU ∧ ae (bZ.l0 kq l0 a1 (l0.length : Int) aU = some r) ∧ ae (kq ≤ k) ∧ jA w w')
 case atStart => exact ⟨(0), (by first | rfl | (simp; done) | (simp [*]; done)), H', ⟨Nat.le_refl _⟩, by repeat (first | exact jA.refl _ | apply jA.step)⟩
 case round =>
  clear H'
  try clear c1
  try clear p2
  obtain ⟨aU, rfl, HA, pI, ⟨m1, rfl⟩⟩ := hrel
  cases gk with
  | zero => exact absurd HA.out (by simp [bZ.l0])
  | succ k1 =>
   have H := HA.out
   clear HA
   simp only [bZ.l0] at H
   by_cases c3 : aU < (l0.length : Int)
   ·rw [if_pos c3] at H
    have uT : decide (aU < (l0.length : Int)) = true := decide_eq_true c3
    clear c3
    by_cases c4 : 0 ≤ aU
    ·rw [if_pos c4] at H
     have uU : decide (0 ≤ aU) = true := decide_eq_true c4
     clear c4
     by_cases c5 : aU < (l0.length : Int)
     ·rw [if_pos c5] at H
      have BB : decide (aU < (l0.length : Int)) = true := decide_eq_true c5
      clear c5
      by_cases c6 : a1 = (rd l0 aU)
      ·rw [if_pos c6] at H
       have zQ : (a1 == (rd l0 aU)) = true := beq_iff_eq.mpr c6
       have LY : (a1 != (rd l0 aU)) = false := bne_eq_false_iff_eq.mpr c6
       clear c6
       obtain rfl := Option.some.inj H
       have AU : 0 ≤ (aU : Int) := of_decide_eq_true (by first | (with_reducible assumption) | assumption)
       have AX : aU < (l0.length : Int) := of_decide_eq_true (by first | (with_reducible assumption) | assumption)
       obtain ⟨aa9, QC, V3⟩ := Kd.o5 HR0.out aU AU AX
       cases QC
       replace AU := eq_true AU
       replace AX := eq_true AX
       go_wp2
       go_ret
       exact ⟨by first | rfl | (simp; done) | (simp [*]; done), by repeat (first | exact jA.refl _ | apply jA.step)⟩
      ·rw [if_neg c6] at H
       have zQ : (a1 == (rd l0 aU)) = false := beq_eq_false_iff_ne.mpr c6
       have LY : (a1 != (rd l0 aU)) = true := bne_iff_ne.mpr c6
       have H' := ae.mk H
       clear H
       have AU : 0 ≤ (aU : Int) := of_decide_eq_true (by first | (with_reducible assumption) | assumption)
       have AX : aU < (l0.length : Int) := of_decide_eq_true (by first | (with_reducible assumption) | assumption)
       obtain ⟨aa9, QC, V3⟩ := Kd.o5 HR0.out aU AU AX
       cases QC
       replace AU := eq_true AU
       replace AX := eq_true AX
       go_wp2
       go_roundg k1
       case measure => have := pI.out; omega
       case rel => exact ⟨(wrap64 (aU + 1)), (by first | rfl | (simp; done) | (simp [*]; done)), H', ⟨by have := pI.out; omega⟩, by repeat (first | exact jA.refl _ | apply jA.step)⟩
     ·rw [if_neg c5] at H
      exact absurd H (by simp)
    ·rw [if_neg c4] at H
     exact absurd H (by simp)
   ·rw [if_neg c3] at H
    have uT : decide (aU < (l0.length : Int)) = false := decide_eq_false c3
    clear c3
    obtain rfl := Option.some.inj H
    go_wp2
    go_ret
    exact ⟨by first | rfl | (simp; done) | (simp [*]; done), by repeat (first | exact jA.refl _ | apply jA.step)⟩
def jK.f (k : Nat) (l0 : List Int) (a1 : Int) : Option (Bool) := (bZ.f k l0 a1).bind fun DU => (some (decide (DU ≥ 0)))
theorem jK.calls (k : Nat) (A0 : Option Addr) (c0 : Nat) (l0 : List Int) (a1 : Int) (r : Bool) (w : World) (hr0 : Kd.C (Kd.int .i64) w A0 l0.length l0) (hc0 : l0.length ≤ c0) (h : jK.f k l0 a1 = some r) :
  Calls Try.prog 165 #[.slice A0 l0.length c0, .int .i64 a1] w fun e w' => e = .returned (.bool r) ∧ jA w w' := by
 have HR0 := ae.mk hr0
 have Xb := ae.mk hc0
 clear hr0 hc0
 have H : ((bZ.f k l0 a1).bind fun DU => (some (decide (DU ≥ 0)))) = some r := h
 clear h
 replace H := Option.bind_eq_some_iff.mp H
 obtain ⟨DU, A30, H⟩ := H
 replace H : (some (decide (DU ≥ 0))) = some r := H
 have A3 := ae.mk A30
 clear A30
 obtain rfl := Option.some.inj H
 go_enter Try.func165, Try.ntmps165
 go_wp2_with (first | ((with_reducible refine kE (f := 188) rfl ?_); refine ny (some 7) rfl rfl Try.func188 (by kernel_rfl) rfl #[.slice A0 l0.length c0, .int .i64 a1] rfl (by (try simp only [List.map_toArray, List.map_cons, List.map_nil]); first | done | rfl | (simp only [List.length_drop, List.length_take]; rfl)) ?_; (with_reducible refine (bZ.calls k _ _ l0 a1 DU _ ?ql ?uN A3.out).mono ?_); (case ql => repeat (first | exact HR0.out | (with_reducible refine Kd.C9 ?_ _) | (with_reducible refine Kd.C_ ?_ _) | (with_reducible refine Kd.Fg ?_))); (case uN => exact Xb.out); rintro e w' ⟨rfl, ⟨nd, rfl⟩⟩; refine ⟨_, rfl, ?_⟩))
 go_ret
 exact ⟨by first | rfl | (simp; done) | (simp [*]; done), by repeat (first | exact jA.refl _ | apply jA.step)⟩
end Go.Proofs.Ytfdmfgaiblfbhaa.P
namespace Go.Proofs.Ytfdmfgaiblfbhaa.P
open Go.RowKit Go.Proofs.ag.aA Go.Proofs.ag.a_ Go.Proofs.ag.bG
theorem SV {α : Type} (q : α → Bool) : ∀ l : List α, l.any q = (l.find? q).isSome := by
 intro l
 induction l with
 | nil => rfl
 | cons x xs ih =>
  rw [List.any_cons, List.find?_cons, ih]
  cases q x <;> rfl
theorem Zq (id : Int) (c : ai) : ((jF [c]).any fun x => decide (id = x)) = (dI id c).isSome := by
 have e : ((jF [c]).any fun x => decide (id = x)) = (vI id c).isSome := by
  unfold jF vI jc
  rw [g_, jW, List.append_nil, List.any_map, SV]
  congr 2
  funext x
  simp only [Function.comp, eq_comm]
 rw [e]
 cases hf : dI id c with
 | none => rw [NW hf]; rfl
 | some p =>
  obtain ⟨z, hz, _⟩ := (xG id _).1 c (Nat.le_refl _) p hf
  rw [ET hf hz]
  rfl
theorem V6 (l : List Int) (x : Int) (h : l.length ≤ 1048576) : ∃ j : Int, Ev (fun k => bZ.f k l x) j ∧ decide (j ≥ 0) = l.any fun y => decide (x = y) := by
 unfold bZ.f
 have key : ∀ (rest pre : List Int), pre ++ rest = l → ∃ j : Int, Ev (fun k => bZ.l0 k l x (l.length : Int) (pre.length : Int)) j ∧ decide (j ≥ 0) = rest.any fun y => decide (x = y) := by
  intro rest
  induction rest with
  | nil =>
   intro pre hp
   rw [List.append_nil] at hp
   refine ⟨-1, Ev.step (f := fun _ => some (-1)) (fun k => ?_) (Ev.now _), rfl⟩
   simp only [bZ.l0]
   rw [if_neg (by rw [hp]; omega)]
  | cons y ys ih =>
   intro pre hp
   have hl : (pre.length : Int) < (l.length : Int) := by rw [← hp, List.length_append, List.length_cons]; omega
   have hr : rd l (pre.length : Int) = y := by rw [← hp]; unfold rd; simp
   by_cases hx : x = y
   ·refine ⟨(pre.length : Int), Ev.step (f := fun _ => some (pre.length : Int)) (fun k => ?_) (Ev.now _), ?_⟩
    ·simp only [bZ.l0]
     rw [if_pos hl, if_pos (by omega), if_pos hl, if_pos (by rw [hr]; exact hx)]
    ·rw [List.any_cons, decide_eq_true hx, Bool.true_or]
     exact decide_eq_true (by omega)
   ·obtain ⟨j, e, hj⟩ := ih (pre ++ [y]) (by rw [List.append_assoc]; exact hp)
    refine ⟨j, Ev.step (fun k => ?_) e, by rw [List.any_cons, decide_eq_false hx, Bool.false_or]; exact hj⟩
    simp only [bZ.l0]
    rw [if_pos hl, if_pos (by omega), if_pos hl, if_neg (by rw [hr]; exact hx)]
    rw [show wrap64 ((pre.length : Int) + 1) = ((pre ++ [y]).length : Int) from DV pre y ys (by rw [hp]; omega)]
 exact key l [] rfl
theorem Oj (id : Int) (c : ai) (h : sz c ≤ 1048576) : Ev (fun k => jK.f k (jF [c]) id) (dI id c).isSome := by
 have hl := EM [c]
 rw [b_, lW] at hl
 obtain ⟨j, e, hj⟩ := V6 (jF [c]) id (by omega)
 unfold jK.f
 refine Ev.bind e ?_
 rw [← Zq, ← hj]
 exact Ev.now _
theorem GK {id : Int} {c : ai} {v : Bool} {A : Option Addr} {cc : Nat} {W : World} (hz : sz c ≤ 1048576) (h : (dI id c).isSome = v) (hC : Kd.C (Kd.int .i64) W A (jF [c]).length (jF [c])) (hc : (jF [c]).length ≤ cc) :
  Calls Try.prog 165 #[.slice A (jF [c]).length cc, .int .i64 id] W fun e w' => e = .returned (.bool v) ∧ jA W w' := by
 obtain ⟨k, hk⟩ := (Oj id c hz).rounds
 rw [h] at hk
 exact jK.calls k A cc _ id v W hC hc hk
end Go.Proofs.Ytfdmfgaiblfbhaa.P
