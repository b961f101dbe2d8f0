/- SplitCan: part 4 of 6 of this claim's texts, one behind the other, made small by a program: the words of the kit's printer cut down to those that are used, the claim's own names made short. -/
import Derived.Test.YtfdmfgaiblfbhaaMSplitCanc
import Derived.WalkSpells
import Derived.Maps.OwnOps
import Derived.Maps.Views
import Derived.Laws.CopyRow
import Derived.Lib.AppendZerosOnto
import Derived.Lib.Overlaps
set_option maxHeartbeats 8000000
set_option maxRecDepth 100000
set_option linter.unusedVariables false
set_option linter.unusedSimpArgs false
namespace Go.Proofs.Ytfdmfgaiblfbhaa.P
open Go.RowKit Go.Proofs.ag.aA Go.Proofs.ag.a_ Go.Proofs.ag.bG
section
variable {W : World} {b : Nat} {P : Nat → Prop} {A : Option Addr} {cc : Nat}
theorem SS (c : ai) (hz : sz c ≤ 1048576) (hV : Kd.V k26 26 W b P (.slice A c.f3.length cc) c.f3) :
  Calls Try.prog 79 #[.agg #[.int .u8 c.f0, .int .i64 c.f1.f0, .int .i64 c.f1.f1, .int .i64 c.f1.f2, .int .i64 c.f1.f3, .int .i64 c.f2, .slice A c.f3.length cc]] W fun e w' => ∃ A' c', e = .returned (.slice A' (dZ c).length c') ∧ Kd.N k26 26 w' W.heap.size (fun k => P k ∨ W.heap.size ≤ k) (.slice A' (dZ c).length c') (dZ c) ∧ Below W.heap.size W w' := by
 obtain ⟨k, hk⟩ := (Jy (sz c) c (Nat.le_refl _) hz).rounds
 exact (dw.calls k _ _ _ _ _ _ P A cc c.f3 _ W (fC hV) hk).mono (fun e w' ⟨v, he, hN, hB⟩ => by
  obtain ⟨A', c', rfl⟩ := Kd.jE hN
  exact ⟨A', c', he, hN, hB⟩)
theorem V9 (c : ai) (hz : sz c ≤ 1048576) (hV : Kd.V k26 26 W b P (.slice A c.f3.length cc) c.f3) :
  Calls Try.prog 126 #[.agg #[.int .u8 c.f0, .int .i64 c.f1.f0, .int .i64 c.f1.f1, .int .i64 c.f1.f2, .int .i64 c.f1.f3, .int .i64 c.f2, .slice A c.f3.length cc]] W fun e w' => ∃ A' c', e = .returned (.slice A' (jc c).length c') ∧ Kd.N k26 26 w' W.heap.size (fun k => P k ∨ W.heap.size ≤ k) (.slice A' (jc c).length c') (jc c) ∧ Below W.heap.size W w' := by
 obtain ⟨k, hk⟩ := (JI c hz).rounds
 exact (dJ.calls k _ _ _ _ _ _ P A cc c.f3 _ W (fC hV) hk).mono (fun e w' ⟨v, he, hN, hB⟩ => by
  obtain ⟨A', c', rfl⟩ := Kd.jE hN
  exact ⟨A', c', he, hN, hB⟩)
theorem sQ {r : dF} {v : Bool} (h : jX r = v) : Calls Try.prog 57 #[.agg #[.int .i64 r.f0, .int .i64 r.f1, .int .i64 r.f2, .int .i64 r.f3]] W fun e w' => e = .returned (.bool v) ∧ Below W.heap.size W w' :=
 nV.calls _ _ _ _ _ W ((Ed _ _ _ _).trans (congrArg some h))
end
def oh (L M : List ai) : Bool := decide (L.length ≤ 20000) && (L.all lC && dH M)
theorem rE {pre rest M : List ai} {k : ai} (h : lC k = false) : oh (pre ++ k :: rest) M = false := by
 unfold oh
 rw [List.all_append, List.all_cons, h, Bool.false_and, Bool.and_false, Bool.false_and, Bool.and_false]
theorem wH {k : ai} (h : jX k.f1 = false ∨ k.f0 < 1 ∨ 3 < k.f0 ∨ (k.f0 = 1 ∧ (0 < k.f3.length ∨ k.f2 < 0 ∨ 2147483647 < k.f2)) ∨ (1 < k.f0 ∧ (k.f3.length < 2 ∨ k.f2 ≠ 0))) : lC k = false := by
 cases hk : lC k with
 | false => rfl
 | true =>
  exfalso
  unfold lC at hk
  simp only [Bool.and_eq_true, decide_eq_true_eq] at hk
  obtain ⟨⟨⟨h1, h2⟩, h3⟩, h4⟩ := hk
  rcases h with h | h | h | h | h
  ·rw [h1] at h; cases h
  ·omega
  ·omega
  ·have := h3 h.1; omega
  ·have := h4 h.1; omega
theorem PR {k : ai} (h1 : jX k.f1 = true) (h2 : 1 ≤ k.f0 ∧ k.f0 ≤ 3) (h3 : k.f0 = 1 → k.f3.length = 0 ∧ 0 ≤ k.f2 ∧ k.f2 ≤ 2147483647) (h4 : k.f0 > 1 → 2 ≤ k.f3.length ∧ k.f2 = 0) : lC k = true := by
 unfold lC
 rw [h1, decide_eq_true h2, decide_eq_true h3, decide_eq_true h4]
 rfl
theorem Ol {pre rest : List ai} {k : ai} (h : nT pre k = false) : dH (pre ++ k :: rest) = false := by
 have h2 : dH (pre ++ [k]) = false := by rw [qw, h, Bool.and_false]
 have h3 := xe (pre ++ [k]) rest h2
 rwa [List.append_assoc] at h3
theorem aey (c : ai) (hz : sz c ≤ 1048576) (A : Option Addr) (cc : Nat) (w : World) (hr : Kd.C k26 w A c.f3.length c.f3) (hc : c.f3.length ≤ cc) :
  Calls Try.prog 38 #[.agg #[.int .u8 c.f0, .int .i64 c.f1.f0, .int .i64 c.f1.f1, .int .i64 c.f1.f2, .int .i64 c.f1.f3, .int .i64 c.f2, .slice A c.f3.length cc]] w fun e w' => e = .returned (.bool (kD c)) ∧ Below w.heap.size w w' := by
 have S := ae.mk (St.start (ts := [(.slice A c.f3.length cc, c.f3)]) (b0 := w.heap.size) (w := w) (P := fun k => k < w.heap.size) (fun t ht => by
  rw [List.mem_singleton.1 ht]; exact Kd.tK hc (Kd.Bj nz hr)))
 have HZ := ae.mk hz
 have HM := ae.mk (show kD c = oh (dZ c) (jc c) from rfl)
 have FC := ae.mk (show (dZ c).length ≤ 1048576 from hz)
 have Xe := ae.mk (show (jc c).length ≤ 1048576 from Nat.le_trans (List.length_filter_le _ _) hz)
 clear hr hc hz
 obtain ⟨ck, ⟨cx, cy, cw, ch⟩, aV, l⟩ := c
 simp only [] at S HZ HM FC Xe
 have VT := fun W b P A cc hV => @SS W b P A cc ⟨ck, ⟨cx, cy, cw, ch⟩, aV, l⟩ HZ.out hV
 have VU := fun W b P A cc hV => @V9 W b P A cc ⟨ck, ⟨cx, cy, cw, ch⟩, aV, l⟩ HZ.out hV
 rw [HM.out]
 generalize dZ ⟨ck, ⟨cx, cy, cw, ch⟩, aV, l⟩ = L at HM FC VT ⊢
 generalize jc ⟨ck, ⟨cx, cy, cw, ch⟩, aV, l⟩ = M at HM Xe VU ⊢
 have HA := ae.mk VT
 have HLE := ae.mk VU
 clear HM VT VU
 by_cases hl : 20000 < L.length
 case pos =>
  obtain ⟨hla, hlb⟩ := qO (a := 20000) (b := (L.length : Int)) (by omega)
  have hlc : decide (20000 < L.length) = true := decide_eq_true (by omega)
  have HB := ae.mk (show oh L M = false by unfold oh; rw [decide_eq_false (by omega), Bool.false_and])
  clear hl
  go_enter Try.func38, Try.ntmps38
  go_wp2_with (first
   | (refine boxS 1 _ 26 S ?_; clear S; intro b1 fH S; obtain ⟨f_, kG, kH, kJ, kK, mg, jd⟩ := St.eX S (.head _))
   | (refine oW (some 9) Try.func79 S (HA.out _ _ _ _ _ (S.out.tree _ (.head _))) ?_; clear S; intro Aa ca ik S; clear f_ kG kH kJ kK mg jd)
   | fail)
  go_ret
  refine ⟨?_, S.out.below⟩
  rw [HB.out]
  rfl
 obtain ⟨hla, hlb⟩ := lu (a := 20000) (b := (L.length : Int)) (by omega)
 have hlc : decide (20000 < L.length) = false := decide_eq_false (by omega)
 have HL := ae.mk hl
 clear hl
 go_enter Try.func38, Try.ntmps38
 go_wp2_with (first
  | (refine boxS 1 _ 26 S ?_; clear S; intro b1 iq S; obtain ⟨f_, kG, kH, kJ, kK, mg, jd⟩ := St.eX S (.head _))
  | (refine oW (some 9) Try.func79 S (HA.out _ _ _ _ _ (S.out.tree _ (.head _))) ?_; clear S; intro Aa ca nI S; clear f_ kG kH kJ kK mg jd)
  | fail)
 clear hla hlb hlc
 go_loopg [15] L.length (fun gg v15 wr => ∃ (pre rest : List ai), v15 = .int .i64 (pre.length : Int) ∧ ae (pre ++ rest = L) ∧ rest.length ≤ gg ∧ ae (pre.all lC = true) ∧ ae (St w (fun k => k < w.heap.size) [(some b1, .cells #[.int .u8 ck, .int .i64 cx, .int .i64 cy, .int .i64 cw, .int .i64 ch, .int .i64 aV, .slice A l.length cc] 26 (0, 0))] [] [(.slice Aa L.length ca, L), (.slice A l.length cc, l)] [] wr))
 case atStart => exact ⟨[], L, rfl, ⟨rfl⟩, Nat.le_refl _, ⟨rfl⟩, ⟨S.out⟩⟩
 case round =>
  clear S
  obtain ⟨pre, rest, rfl, HE, hgg, HOK, S⟩ := hrel
  cases rest with
  | cons k rest =>
   have hlt : (pre.length : Int) < (L.length : Int) := by rw [← HE.out, List.length_append, List.length_cons]; omega
   have hw1 : wrap64 ((pre.length : Int) + 1) = ((pre ++ [k]).length : Int) := by have := FC.out; rw [List.length_append, List.length_singleton]; unfold wrap64; omega
   have HW1 := ae.mk hw1
   have kX := ae.mk hgg
   obtain ⟨kY, ua, uc, ek, S1⟩ := S.out.elem (.head _) (pre.length : Int) (Int.natCast_nonneg _) hlt
   subst ek
   have hrd : aj L (pre.length : Int) = k := by rw [← HE.out]; exact mV pre k rest
   rw [hrd] at S1
   simp only [Int.toNat_natCast] at S1
   replace S := ae.mk S1
   clear S1 hrd hgg hw1
   cases hmr : jX k.f1 with
   | false =>
    have yz := ae.mk hmr
    clear hmr
    have HB := ae.mk (show oh L M = false by rw [← HE.out]; exact rE (wH (.inl yz.out)))
    have lX := (S.out.cell _ dG).1
    have lY := (S.out.cell _ dX).1
    have lL := (S.out.cell _ jT).1
    have lM := (S.out.cell _ wG).1
    go_wp2_with (first
     | (refine bQ (some 23) Try.func57 S (sQ yz.out) ?_; clear S; intro oH S; clear lX lY lL lM)
     | fail)
    go_ret
    refine ⟨?_, S.out.below⟩
    rw [HB.out]
    rfl
   | true =>
    have yz := ae.mk hmr
    clear hmr
    by_cases h1 : k.f0 < 1
    case pos =>
     obtain ⟨h1a, h1b⟩ := qO (a := k.f0) (b := 1) (by omega)
     have HB := ae.mk (show oh L M = false by rw [← HE.out]; exact rE (wH (.inr (.inl h1))))
     have lX := (S.out.cell _ dG).1
     have lY := (S.out.cell _ dX).1
     have lL := (S.out.cell _ jT).1
     have lM := (S.out.cell _ wG).1
     go_wp2_with (first
      | (refine bQ (some 23) Try.func57 S (sQ yz.out) ?_; clear S; intro uo S; clear lX lY lL lM; have nR := (S.out.cell _ (.head _)).1)
      | fail)
     clear nR
     go_ret
     refine ⟨?_, S.out.below⟩
     rw [HB.out]
     rfl
    obtain ⟨h1a, h1b⟩ := lu (a := k.f0) (b := 1) (by omega)
    by_cases h3 : 3 < k.f0
    case pos =>
     obtain ⟨MQ, h3b⟩ := qO (a := 3) (b := k.f0) (by omega)
     have HB := ae.mk (show oh L M = false by rw [← HE.out]; exact rE (wH (.inr (.inr (.inl h3)))))
     have lX := (S.out.cell _ dG).1
     have lY := (S.out.cell _ dX).1
     have lL := (S.out.cell _ jT).1
     have lM := (S.out.cell _ wG).1
     go_wp2_with (first
      | (refine bQ (some 23) Try.func57 S (sQ yz.out) ?_; clear S; intro wV S; clear lX lY lL lM; have nR := (S.out.cell _ (.head _)).1)
      | fail)
     clear nR
     go_ret
     refine ⟨?_, S.out.below⟩
     rw [HB.out]
     rfl
    obtain ⟨MQ, h3b⟩ := lu (a := 3) (b := k.f0) (by omega)
    by_cases h4 : k.f0 = 1
    case pos =>
     have Gg : (k.f0 == 1) = true := beq_iff_eq.mpr h4
     have h4d : decide (k.f0 = 1) = true := decide_eq_true h4
     by_cases h5 : 0 < k.f3.length
     case pos =>
      obtain ⟨h5a, h5b⟩ := qO (a := 0) (b := (k.f3.length : Int)) (by omega)
      have h5c : decide (0 < k.f3.length) = true := decide_eq_true (by omega)
      have HB := ae.mk (show oh L M = false by rw [← HE.out]; exact rE (wH (.inr (.inr (.inr (.inl ⟨h4, .inl h5⟩))))))
      have lX := (S.out.cell _ dG).1
      have lY := (S.out.cell _ dX).1
      have lL := (S.out.cell _ jT).1
      have lM := (S.out.cell _ wG).1
      go_wp2_with (first
       | (refine bQ (some 23) Try.func57 S (sQ yz.out) ?_; clear S; intro Hw S; clear lX lY lL lM; have nR := (S.out.cell _ (.head _)).1; have pW := (S.out.cell _ GV).1)
       | fail)
      clear nR pW
      go_ret
      refine ⟨?_, S.out.below⟩
      rw [HB.out]
      rfl
     obtain ⟨h5a, h5b⟩ := lu (a := 0) (b := (k.f3.length : Int)) (by omega)
     have h5c : decide (0 < k.f3.length) = false := decide_eq_false (by omega)
     by_cases h6 : k.f2 < 0
     case pos =>
      obtain ⟨h6a, h6b⟩ := qO (a := k.f2) (b := 0) (by omega)
      have HB := ae.mk (show oh L M = false by rw [← HE.out]; exact rE (wH (.inr (.inr (.inr (.inl ⟨h4, .inr (.inl h6)⟩))))))
      have lX := (S.out.cell _ dG).1
      have lY := (S.out.cell _ dX).1
      have lL := (S.out.cell _ jT).1
      have lM := (S.out.cell _ wG).1
      go_wp2_with (first
       | (refine bQ (some 23) Try.func57 S (sQ yz.out) ?_; clear S; intro w9_ S; clear lX lY lL lM; have nR := (S.out.cell _ (.head _)).1; have pW := (S.out.cell _ GV).1; have oP := (S.out.cell _ Ea).1)
       | fail)
      clear nR pW oP
      go_ret
      refine ⟨?_, S.out.below⟩
      rw [HB.out]
      rfl
     obtain ⟨h6a, h6b⟩ := lu (a := k.f2) (b := 0) (by omega)
     by_cases h7 : 2147483647 < k.f2
     case pos =>
      obtain ⟨h7a, h7b⟩ := qO (a := 2147483647) (b := k.f2) (by omega)
      have HB := ae.mk (show oh L M = false by rw [← HE.out]; exact rE (wH (.inr (.inr (.inr (.inl ⟨h4, .inr (.inr h7)⟩))))))
      have lX := (S.out.cell _ dG).1
      have lY := (S.out.cell _ dX).1
      have lL := (S.out.cell _ jT).1
      have lM := (S.out.cell _ wG).1
      go_wp2_with (first
       | (refine bQ (some 23) Try.func57 S (sQ yz.out) ?_; clear S; intro Fb S; clear lX lY lL lM; have nR := (S.out.cell _ (.head _)).1; have pW := (S.out.cell _ GV).1; have oP := (S.out.cell _ Ea).1)
       | fail)
      clear nR pW oP
      go_ret
      refine ⟨?_, S.out.below⟩
      rw [HB.out]
      rfl
     obtain ⟨h7a, h7b⟩ := lu (a := 2147483647) (b := k.f2) (by omega)
     obtain ⟨h8a, h8b⟩ := lu (a := 1) (b := k.f0) (by omega)
     have HG := ae.mk (PR yz.out (by omega) (by omega) (by omega))
     have lX := (S.out.cell _ dG).1
     have lY := (S.out.cell _ dX).1
     have lL := (S.out.cell _ jT).1
     have lM := (S.out.cell _ wG).1
     go_wp2_with (first
      | (refine bQ (some 23) Try.func57 S (sQ yz.out) ?_; clear S; intro Oe S; clear lX lY lL lM; have nR := (S.out.cell _ (.head _)).1; have pW := (S.out.cell _ GV).1; have oP := (S.out.cell _ Ea).1)
      | fail)
     clear nR pW oP
     have hw1 := HW1.out
     go_wp2
     go_roundg rest.length
     case measure => exact Nat.lt_of_lt_of_le (Nat.lt_succ_self _) kX.out
     case rel => exact ⟨pre ++ [k], rest, (by rw [hw1]), ⟨by rw [List.append_assoc]; exact HE.out⟩, Nat.le_refl _, ⟨by rw [List.all_append, HOK.out, List.all_cons, HG.out]; rfl⟩, ⟨S.out.eU.bM.bM.bM.bM.bM.bM.bM⟩⟩
    have Gg : (k.f0 == 1) = false := beq_eq_false_iff_ne.mpr h4
    have h4d : decide (k.f0 = 1) = false := decide_eq_false h4
    obtain ⟨h8a, h8b⟩ := qO (a := 1) (b := k.f0) (by omega)
    by_cases h5 : k.f3.length < 2
    case pos =>
     obtain ⟨h5a, h5b⟩ := qO (a := (k.f3.length : Int)) (b := 2) (by omega)
     have h5c : decide (k.f3.length < 2) = true := decide_eq_true (by omega)
     have HB := ae.mk (show oh L M = false by rw [← HE.out]; exact rE (wH (.inr (.inr (.inr (.inr ⟨by omega, .inl h5⟩))))))
     have lX := (S.out.cell _ dG).1
     have lY := (S.out.cell _ dX).1
     have lL := (S.out.cell _ jT).1
     have lM := (S.out.cell _ wG).1
     go_wp2_with (first
      | (refine bQ (some 23) Try.func57 S (sQ yz.out) ?_; clear S; intro WX S; clear lX lY lL lM; have nR := (S.out.cell _ (.head _)).1; have pW := (S.out.cell _ GV).1)
      | fail)
     clear nR pW
     go_ret
     refine ⟨?_, S.out.below⟩
     rw [HB.out]
     rfl
    obtain ⟨h5a, h5b⟩ := lu (a := (k.f3.length : Int)) (b := 2) (by omega)
    have h5c : decide (k.f3.length < 2) = false := decide_eq_false (by omega)
    by_cases h6 : k.f2 = 0
    case neg =>
     have h6b : (k.f2 != 0) = true := bne_iff_ne.mpr h6
     have h6c : (k.f2 == 0) = false := beq_eq_false_iff_ne.mpr h6
     have h6d : decide (k.f2 = 0) = false := decide_eq_false h6
     have HB := ae.mk (show oh L M = false by rw [← HE.out]; exact rE (wH (.inr (.inr (.inr (.inr ⟨by omega, .inr h6⟩))))))
     have lX := (S.out.cell _ dG).1
     have lY := (S.out.cell _ dX).1
     have lL := (S.out.cell _ jT).1
     have lM := (S.out.cell _ wG).1
     go_wp2_with (first
      | (refine bQ (some 23) Try.func57 S (sQ yz.out) ?_; clear S; intro RD S; clear lX lY lL lM; have nR := (S.out.cell _ (.head _)).1; have pW := (S.out.cell _ GV).1; have oP := (S.out.cell _ Ea).1)
      | fail)
     clear nR pW oP
     go_ret
     refine ⟨?_, S.out.below⟩
     rw [HB.out]
     rfl
    have h6b : (k.f2 != 0) = false := bne_eq_false_iff_eq.mpr h6
    have h6c : (k.f2 == 0) = true := beq_iff_eq.mpr h6
    have h6d : decide (k.f2 = 0) = true := decide_eq_true h6
    have HG := ae.mk (PR yz.out (by omega) (by omega) (by omega))
    have lX := (S.out.cell _ dG).1
    have lY := (S.out.cell _ dX).1
    have lL := (S.out.cell _ jT).1
    have lM := (S.out.cell _ wG).1
    go_wp2_with (first
     | (refine bQ (some 23) Try.func57 S (sQ yz.out) ?_; clear S; intro Og S; clear lX lY lL lM; have nR := (S.out.cell _ (.head _)).1; have pW := (S.out.cell _ GV).1; have oP := (S.out.cell _ Ea).1)
     | fail)
    clear nR pW oP
    have hw1 := HW1.out
    go_wp2
    go_roundg rest.length
    case measure => exact Nat.lt_of_lt_of_le (Nat.lt_succ_self _) kX.out
    case rel => exact ⟨pre ++ [k], rest, (by rw [hw1]), ⟨by rw [List.append_assoc]; exact HE.out⟩, Nat.le_refl _, ⟨by rw [List.all_append, HOK.out, List.all_cons, HG.out]; rfl⟩, ⟨S.out.eU.bM.bM.bM.bM.bM.bM.bM⟩⟩
  | nil =>
   have hE := HE.out
   rw [List.append_nil] at hE
   subst hE
   clear HE hgg
   have hlt : ¬ ((pre.length : Int) < (pre.length : Int)) := by omega
   obtain ⟨f_, kG, kH, kJ, kK, mg, jd⟩ := St.eX S (.head _)
   go_wp2_with (first
    | (refine oW (some 99) Try.func126 S (HLE.out _ _ _ _ _ (S.out.tree _ dG)) ?_; clear S; intro Al cl ady S; clear f_ kG kH kJ kK mg jd)
    | fail)
   go_loopg [102] M.length (fun gg agE wr => ∃ (pm rest : List ai), agE = .int .i64 (pm.length : Int) ∧ ae (pm ++ rest = M) ∧ rest.length ≤ gg ∧ ae (dH pm = true) ∧ ae (St w (fun k => k < w.heap.size) [(some b1, .cells #[.int .u8 ck, .int .i64 cx, .int .i64 cy, .int .i64 cw, .int .i64 ch, .int .i64 aV, .slice A l.length cc] 26 (0, 0))] [] [(.slice Al M.length cl, M), (.slice Aa pre.length ca, pre), (.slice A l.length cc, l)] [] wr))
   case atStart => exact ⟨[], M, rfl, ⟨rfl⟩, Nat.le_refl _, ⟨rfl⟩, ⟨S.out⟩⟩
   case round =>
    clear S
    rename World => wz
    obtain ⟨pm, rest, rfl, HE, hgg, HD, S⟩ := hrel
    cases rest with
    | nil =>
     have hE := HE.out
     rw [List.append_nil] at hE
     subst hE
     have hlt : ¬ ((pm.length : Int) < (pm.length : Int)) := by omega
     have HB := ae.mk (show oh pre pm = true by unfold oh; rw [HOK.out, HD.out, decide_eq_true (by have := HL.out; omega)]; rfl)
     go_wp2
     go_ret
     refine ⟨?_, S.out.below⟩
     rw [HB.out]
     rfl
    | cons k rest =>
     have hlt : (pm.length : Int) < (M.length : Int) := by rw [← HE.out, List.length_append, List.length_cons]; omega
     have hw1 : wrap64 ((pm.length : Int) + 1) = ((pm ++ [k]).length : Int) := by have := Xe.out; rw [List.length_append, List.length_singleton]; unfold wrap64; omega
     have HW1 := ae.mk hw1
     have kX := ae.mk hgg
     have HPM := ae.mk (show pm.length ≤ 1048576 by have := Xe.out; omega)
     have OG := ae.mk hlt
     obtain ⟨kY, ua, uc, ek, S1⟩ := S.out.elem (.head _) (pm.length : Int) (Int.natCast_nonneg _) hlt
     subst ek
     have hrd : aj M (pm.length : Int) = k := by rw [← HE.out]; exact mV pm k rest
     rw [hrd] at S1
     simp only [Int.toNat_natCast] at S1
     replace S := ae.mk S1
     clear S1 hrd hgg hw1
     go_wp2
     have HK0 := ae.mk (show nT [] k = true from rfl)
     go_loopg [7] pm.length (fun gg v7 wr => ∃ (pa pb : List ai), v7 = .int .i64 (pa.length : Int) ∧ ae (pa ++ pb = pm) ∧ pb.length ≤ gg ∧ ae (nT pa k = true) ∧ ae (St w (fun k => k < w.heap.size) [(some b1, .cells #[.int .u8 ck, .int .i64 cx, .int .i64 cy, .int .i64 cw, .int .i64 ch, .int .i64 aV, .slice A l.length cc] 26 (0, 0))] [] [(.slice ua k.f3.length uc, k.f3), (.slice (some kY) M.length cl, M), (.slice Aa pre.length ca, pre), (.slice A l.length cc, l)] [((kY.add (pm.length * 7)), .int .u8 k.f0), (⟨(kY.add (pm.length * 7)).block, (kY.add (pm.length * 7)).off + 1, none⟩, .int .i64 k.f1.f0), (⟨(kY.add (pm.length * 7)).block, (kY.add (pm.length * 7)).off + 2, none⟩, .int .i64 k.f1.f1), (⟨(kY.add (pm.length * 7)).block, (kY.add (pm.length * 7)).off + 3, none⟩, .int .i64 k.f1.f2), (⟨(kY.add (pm.length * 7)).block, (kY.add (pm.length * 7)).off + 4, none⟩, .int .i64 k.f1.f3), (⟨(kY.add (pm.length * 7)).block, (kY.add (pm.length * 7)).off + 5, none⟩, .int .i64 k.f2), (⟨(kY.add (pm.length * 7)).block, (kY.add (pm.length * 7)).off + 6, none⟩, .slice ua k.f3.length uc)] wr))
     case atStart => exact ⟨[], pm, rfl, ⟨rfl⟩, Nat.le_refl _, ⟨rfl⟩, ⟨S.out⟩⟩
     case round =>
      clear S
      rename World => wy
      obtain ⟨pa, pb, rfl, HE2, hgg, W_, S⟩ := hrel
      cases pb with
      | nil =>
       have hE := HE2.out
       rw [List.append_nil] at hE
       subst hE
       have hlt : ¬ ((pa.length : Int) < (pa.length : Int)) := by omega
       go_wp2
       have hw1 := HW1.out
       go_wp2
       go_roundg rest.length
       case measure => exact Nat.lt_of_lt_of_le (Nat.lt_succ_self _) kX.out
       case rel => exact ⟨pa ++ [k], rest, (by rw [hw1]), ⟨by rw [List.append_assoc]; exact HE.out⟩, Nat.le_refl _, ⟨by rw [qw, HD.out, W_.out]; rfl⟩, ⟨S.out.eU.bM.bM.bM.bM.bM.bM.bM⟩⟩
      | cons q pb =>
       have hlt : (pa.length : Int) < (pm.length : Int) := by rw [← HE2.out, List.length_append, List.length_cons]; omega
       have hlt0 := OG.out
       have hlt2 : (pa.length : Int) < (M.length : Int) := by omega
       have hw1 : wrap64 ((pa.length : Int) + 1) = ((pa ++ [q]).length : Int) := by have := HPM.out; rw [List.length_append, List.length_singleton]; unfold wrap64; omega
       have HW2 := ae.mk hw1
       have afR := ae.mk hgg
       obtain ⟨adq, va, vc, eq_, S1⟩ := S.out.elem dG (pa.length : Int) (Int.natCast_nonneg _) hlt2
       injection eq_ with eq_
       subst eq_
       have hrd : aj M (pa.length : Int) = q := by rw [← HE.out, ← HE2.out, List.append_assoc]; exact mV pa q (pb ++ k :: rest)
       rw [hrd] at S1
       simp only [Int.toNat_natCast] at S1
       replace S := ae.mk S1
       clear S1 hrd hgg hw1
       by_cases hq : k.f2 = q.f2
       case pos =>
        have hqb : (k.f2 == q.f2) = true := beq_iff_eq.mpr hq
        have hqd : decide (k.f2 = q.f2) = true := decide_eq_true hq
        have HQ := ae.mk hq
        clear hq
        have WZ := (S.out.cell _ (.tail _ (.tail _ (.tail _ mm9)))).1
        have oP := (S.out.cell _ Ea).1
        go_wp2
        go_quiet (fail)
        clear WZ oP
        replace S := ae.mk (S.out.call (aQ (Below.refl _ _) nq))
        generalize wr.drewN nq = akC at S ⊢
        go_wp2
        have HB := ae.mk (show oh pre M = false by unfold oh; rw [← HE.out, Ol (by rw [← HE2.out]; unfold nT; rw [List.all_append, List.all_cons, decide_eq_false (by have := HQ.out; simpa using this), Bool.false_and, Bool.and_false]), Bool.and_false, Bool.and_false])
        go_ret
        refine ⟨?_, S.out.below⟩
        rw [HB.out]
        rfl
       case neg =>
        have hqb : (k.f2 == q.f2) = false := beq_eq_false_iff_ne.mpr hq
        have hqd : decide (k.f2 = q.f2) = false := decide_eq_false hq
        have HQ := ae.mk hq
        clear hq
        have WZ := (S.out.cell _ (.tail _ (.tail _ (.tail _ mm9)))).1
        have oP := (S.out.cell _ Ea).1
        go_wp2
        go_quiet (fail)
        clear WZ oP
        replace S := ae.mk (S.out.call (aQ (Below.refl _ _) nq))
        generalize wr.drewN nq = akD at S ⊢
        go_wp2
        have hw1 := HW2.out
        go_wp2
        go_roundg pb.length
        case measure => exact Nat.lt_of_lt_of_le (Nat.lt_succ_self _) afR.out
        case rel => exact ⟨pa ++ [q], pb, (by rw [hw1]), ⟨by rw [List.append_assoc]; exact HE2.out⟩, Nat.le_refl _, ⟨by unfold nT; rw [List.all_append, List.all_cons, decide_eq_true HQ.out]; rw [show (pa.all fun y => decide (k.f2 ≠ y.f2)) = true from W_.out]; rfl⟩, ⟨S.out.eU.bM.bM.bM.bM.bM.bM.bM⟩⟩
def aau.f (_ : Nat) (a0 a1 a2 a3 a4 a5 : Int) (l : List ai) : Option Bool := if sz ⟨a0, ⟨a1, a2, a3, a4⟩, a5, l⟩ ≤ 1048576 then some (kD ⟨a0, ⟨a1, a2, a3, a4⟩, a5, l⟩) else none
def bW (c : ai) : Bool := kD c && kS c
theorem ou {c : ai} (h : kD c = true) : sz c ≤ 20000 := by
 unfold kD at h
 simp only [Bool.and_eq_true, decide_eq_true_eq] at h
 omega
theorem aba : ∀ (N : Nat), (∀ c : ai, sz c ≤ N → ∀ d, d ∈ dZ c → sz d ≤ sz c) ∧ (∀ l : List ai, dM l ≤ N → ∀ d, d ∈ allL l → sz d ≤ dM l) := by
 intro N
 induction N with
 | zero =>
  refine ⟨fun c h => ?_, fun l h => ?_⟩
  ·rw [dB] at h; omega
  ·cases l with
   | nil => intro d hd; rw [jW] at hd; cases hd
   | cons z zs => rw [b_, dB] at h; omega
 | succ N ih =>
  have hC : ∀ c : ai, sz c ≤ N + 1 → ∀ d, d ∈ dZ c → sz d ≤ sz c := by
   intro c h d hd
   have hs := dB c
   rw [jY] at hd
   rcases List.mem_cons.1 hd with rfl | hd
   ·exact Nat.le_refl _
   ·have := ih.2 c.f3 (by omega) d hd
    omega
  refine ⟨hC, fun l => ?_⟩
  induction l with
  | nil => intro _ d hd; rw [jW] at hd; cases hd
  | cons x xs ihl =>
   intro h d hd
   rw [b_] at h ⊢
   rw [g_] at hd
   rcases List.mem_append.1 hd with hd | hd
   ·have := hC x (by omega) d hd
    omega
   ·have := ihl (by omega) d hd
    omega
theorem Vt {c d : ai} (h : d ∈ dZ c) : d.f3.length + 1 ≤ sz c := by
 have h1 := (aba (sz c)).1 c (Nat.le_refl _) d h
 have h2 := dB d
 have h3 := ku d.f3
 omega
section
variable {W : World} {b : Nat} {P : Nat → Prop} {A : Option Addr} {cc : Nat}
theorem ac4 (c : ai) (h : l7 c = false) (hl : c.f3.length ≤ 1000000) (hV : Kd.V k26 26 W b P (.slice A c.f3.length cc) c.f3) : Calls Try.prog 178 #[.agg #[.int .u8 c.f0, .int .i64 c.f1.f0, .int .i64 c.f1.f1, .int .i64 c.f1.f2, .int .i64 c.f1.f3, .int .i64 c.f2, .slice A c.f3.length cc]] W fun e w' => ∃ A n cc, e = .returned (.tuple #[.slice A n cc, .bool false]) ∧ Below W.heap.size W w' :=
 (UG c hl b P A cc W hV).mono (fun _ _ ⟨A, n, cc, h1, _, h3⟩ => ⟨A, n, cc, by rw [h1, h], h3⟩)
theorem ZG (c : ai) (h : l7 c = true) (hl : c.f3.length ≤ 1000000) (hV : Kd.V k26 26 W b P (.slice A c.f3.length cc) c.f3) : Calls Try.prog 178 #[.agg #[.int .u8 c.f0, .int .i64 c.f1.f0, .int .i64 c.f1.f1, .int .i64 c.f1.f2, .int .i64 c.f1.f3, .int .i64 c.f2, .slice A c.f3.length cc]] W fun e w' => ∃ A cc ls, e = .returned (.tuple #[.slice A ls.length cc, .bool true]) ∧ ls.length ≤ c.f3.length ∧ k23.R 23 w' W.heap.size (fun _ => True) (.slice A ls.length cc) ls ∧ Below W.heap.size W w' :=
 (UG c hl b P A cc W hV).mono (fun _ _ ⟨A, n, cc, h1, h2, h3⟩ => by
  obtain ⟨ls, rfl, h4, h5⟩ := h2 h
  exact ⟨A, cc, ls, by rw [h1, h], h4, h5, h3⟩)
theorem XD {c : ai} {v : Bool} (h : kD c = v) (hz : sz c ≤ 1048576) (b : Nat) (P : Nat → Prop) (A : Option Addr) (cc : Nat) (W : World) (hV : Kd.V k26 26 W b P (.slice A c.f3.length cc) c.f3) : Calls Try.prog 38 #[.agg #[.int .u8 c.f0, .int .i64 c.f1.f0, .int .i64 c.f1.f1, .int .i64 c.f1.f2, .int .i64 c.f1.f3, .int .i64 c.f2, .slice A c.f3.length cc]] W fun e w' => e = .returned (.bool v) ∧ Below W.heap.size W w' := by
 have h1 := Kd.oJ hV
 have h2 := aey c hz A cc W h1.2.2 h1.2.1
 rwa [h] at h2
end
abbrev KE (w : World) (c : ai) (e : Ending) (w' : World) : Prop := ∃ A n cc n1 n2, e = .returned (.tuple #[.slice A n cc, .int .i64 n1, .int .i64 n2]) ∧ (n1 == 0) = bW c ∧ Below w.heap.size w w'
theorem VD (c : ai) (hz : sz c ≤ 1048576) (b : Nat) (P : Nat → Prop) (A : Option Addr) (cc : Nat) (w : World) (hv : Kd.V k26 26 w b P (.slice A c.f3.length cc) c.f3) :
  Calls Try.prog 146 #[.agg #[.int .u8 c.f0, .int .i64 c.f1.f0, .int .i64 c.f1.f1, .int .i64 c.f1.f2, .int .i64 c.f1.f3, .int .i64 c.f2, .slice A c.f3.length cc]] w (KE w c) := by
 have S := ae.mk (St.start (ts := [(.slice A c.f3.length cc, c.f3)]) (b0 := w.heap.size) (w := w) (P := P) (fun t ht => by rw [List.mem_singleton.1 ht]; exact fC hv))
 unfold KE
 cases hm : kD c with
 | false =>
  have v_ := ae.mk (fun b P A cc W hV => XD hm hz b P A cc W hV)
  rw [show bW c = false by unfold bW; rw [hm]; rfl]
  clear hm hv hz
  obtain ⟨ck, ⟨cx, cy, cw, ch⟩, aV, l⟩ := c
  simp only [] at S v_ ⊢
  go_enter Try.func146, Try.ntmps146
  go_wp2_with (first
   | (refine boxS 1 _ 26 S ?_; clear S; intro b1 fH S)
   | (refine dW 11 rfl ?_; refine mQ k23 23 rfl 11 S ?_; clear S; intro Ae ce oe ik S HKe; obtain ⟨f_, kG, kH, kJ, kK, mg, jd⟩ := St.eX S dG)
   | (refine bQ (some 13) Try.func38 S (v_.out _ _ _ _ _ (S.out.tree _ (.head _))) ?_; clear S; intro iq S; clear f_ kG kH kJ kK mg jd)
   | fail)
  go_ret3
  exact ⟨_, _, _, _, _, rfl, rfl, S.out.below⟩
 | true =>
  have v_ := ae.mk (fun b P A cc W hV => XD hm hz b P A cc W hV)
  have RU := ae.mk (fun b P A cc W hV => @SS W b P A cc c hz hV)
  have hs := ou hm
  have hk : ∀ k, k ∈ dZ c → k.f3.length ≤ 20000 := fun k hk => by have := Vt hk; omega
  have hlen : (dZ c).length ≤ 20000 := hs
  have ht : bW c = (dZ c).all l7 := by unfold bW; rw [hm, Bool.true_and]; rfl
  rw [ht]
  generalize dZ c = L at RU hk hlen ⊢
  have nP := ae.mk hlen
  have HKK := ae.mk hk
  clear hm hv hz ht hs hk hlen
  obtain ⟨ck, ⟨cx, cy, cw, ch⟩, aV, l⟩ := c
  simp only [] at S v_ RU ⊢
  go_enter Try.func146, Try.ntmps146
  go_wp2_with (first
   | (refine boxS 1 _ 26 S ?_; clear S; intro b1 fH S)
   | (refine dW 11 rfl ?_; refine mQ k23 23 rfl 11 S ?_; clear S; intro Ae ce oe ik S HKe; obtain ⟨f_, kG, kH, kJ, kK, mg, jd⟩ := St.eX S dG)
   | (refine bQ (some 13) Try.func38 S (v_.out _ _ _ _ _ (S.out.tree _ (.head _))) ?_; clear S; intro iq S; clear f_ kG kH kJ kK mg jd; obtain ⟨f_, kG, kH, kJ, kK, mg, jd⟩ := St.eX S dG)
   | (refine oW (some 17) Try.func79 S (RU.out _ _ _ _ _ (S.out.tree _ (.head _))) ?_; clear S; intro Aa ca nI S; clear f_ kG kH kJ kK mg jd)
   | (refine dW 18 rfl ?_; refine mQ k23 23 rfl 18 S ?_; clear S; intro Ap cp op oH S iI)
   | fail)
  go_loopg [7, 21] L.length (fun gg v7 v21 wr => ∃ (pre rest : List ai) (out : List dF) (Ap : Option Addr) (cp : Nat) (op : Obj), v7 = .slice Ap out.length cp ∧ v21 = .int .i64 (pre.length : Int) ∧ ae (pre ++ rest = L) ∧ ae (pre.all l7 = true) ∧ ae (out.length ≤ 20000 * pre.length) ∧ rest.length ≤ gg ∧ ae (KR k23 23 w.heap.size (.slice Ap out.length cp) out op) ∧ ae (St w P [((Value.slice Ap out.length cp).ownBlock, op), ((Value.slice Ae 0 ce).ownBlock, oe), (some b1, .cells #[.int .u8 ck, .int .i64 cx, .int .i64 cy, .int .i64 cw, .int .i64 ch, .int .i64 aV, .slice A l.length cc] 26 (0, 0))] [] [(.slice Aa L.length ca, L), (.slice A l.length cc, l)] [] wr))
  case atStart => exact ⟨[], L, [], _, _, _, rfl, rfl, ⟨rfl⟩, ⟨rfl⟩, ⟨Nat.zero_le _⟩, Nat.le_refl _, iI, S⟩
  case round =>
   clear S iI
   obtain ⟨pre, rest, out, Ap, cp, op, rfl, rfl, HE, HA, HOL, hgg, iI, S⟩ := hrel
   cases rest with
   | nil =>
    have hE := HE.out
    rw [List.append_nil] at hE
    have hE2 := hE.symm
    subst hE2
    clear hE HE hgg
    have hlt : ¬ ((L.length : Int) < (L.length : Int)) := by omega
    go_wp2
    go_ret3
    exact ⟨_, _, _, _, ⟨_, rfl⟩, HA.out.symm, S.out.below⟩
   | cons k rest =>
    have Vf := ae.mk (HKK.out k (by rw [← HE.out]; simp))
    have HKL := ae.mk (show k.f3.length ≤ 1000000 by have := Vf.out; omega)
    have afS := ae.mk (show pre.length ≤ 20000 by have := nP.out; rw [← HE.out, List.length_append] at this; omega)
    have hk : k ∈ L := by rw [← HE.out]; simp
    have hlt : (pre.length : Int) < (L.length : Int) := by rw [← HE.out, List.length_append, List.length_cons]; omega
    have hw1 : wrap64 ((pre.length : Int) + 1) = ((pre ++ [k]).length : Int) := by have := nP.out; rw [List.length_append, List.length_singleton]; unfold wrap64; omega
    have HW1 := ae.mk hw1
    have kX := ae.mk hgg
    have HK := ae.mk hk
    have OI := ae.mk (show pre.length ≤ 1048576 by have := nP.out; omega)
    obtain ⟨kY, ua, uc, ek, S1⟩ := S.out.elem (.head _) (pre.length : Int) (Int.natCast_nonneg _) hlt
    subst ek
    have hrd : aj L (pre.length : Int) = k := by rw [← HE.out]; exact mV pre k rest
    rw [hrd] at S1
    simp only [Int.toNat_natCast] at S1
    replace S := ae.mk S1
    clear S1 hrd hk hgg hw1
    cases ho : l7 k with
    | false =>
     have HO := ae.mk ho
     clear ho
     obtain ⟨nR, lX, lY, lL, lM, oP, pW⟩ := St.O3 S
     go_wp2_with (first
      | (refine nO (some 29) Try.func178 (ac4 k HO.out HKL.out (S.out.tree _ (.head _))) ?_; rintro e fH ⟨Ax, nx, cx', rfl, hb⟩; refine ⟨_, rfl, ?_⟩; replace S := ae.mk (S.out.call hb); clear hb; clear nR lX lY lL lM oP pW)
      | fail)
     go_ret3
     exact ⟨_, _, _, _, _, rfl, (by rw [← HE.out, List.all_append, List.all_cons, HO.out, Bool.false_and, Bool.and_false]; rfl), S.out.below⟩
    | true =>
     have HO := ae.mk ho
     clear ho
     obtain ⟨nR, lX, lY, lL, lM, oP, pW⟩ := St.O3 S
     go_wp2_with (first
      | (refine nO (some 29) Try.func178 (ZG k HO.out HKL.out (S.out.tree _ (.head _))) ?_; rintro e fH ⟨Ax, cx', ls, rfl, h0, h1, hb⟩; refine ⟨_, rfl, ?_⟩; obtain ⟨ox, S1, hI⟩ := S.out.Rj (d := k23) (e := 23) rfl h1 hb; replace S := ae.mk S1; have HKx := ae.mk hI; have OE := ae.mk h0; clear S1 hI h0 h1 hb; clear nR lX lY lL lM oP pW)
      | (refine dW 38 rfl ?_; at_builtin; replace S := ae.mk S.out.uf; refine Vu k23 23 rfl 36 37 42 _ 32 Try.underlying42 info23 rfl (by decide) (by decide) (by decide) S iI ls (aa0 HKx.out S.out dG).1 (fun _ _ _ _ _ h => h) (by have := HOL.out; have := OE.out; have := Vf.out; have := afS.out; omega) ?_; clear S iI; intro KD cp2 NL ik S iI)
      | fail)
     have hw1 := HW1.out
     go_wp2
     go_roundg rest.length
     case measure => exact Nat.lt_of_lt_of_le (Nat.lt_succ_self _) kX.out
     case rel => exact ⟨pre ++ [k], rest, out ++ ls, _, _, _, (by rw [List.length_append]), (by rw [hw1]), ⟨by rw [List.append_assoc]; exact HE.out⟩, ⟨by rw [List.all_append, HA.out, List.all_cons, HO.out]; rfl⟩, ⟨by have := HOL.out; have := OE.out; have := Vf.out; rw [List.length_append, List.length_append, List.length_singleton]; omega⟩, Nat.le_refl _, iI, ⟨S.out.uf.gX.JB.JB.JB.eU.bM.bM.bM.bM.bM.bM.bM⟩⟩
theorem WM (c : ai) (hz : sz c ≤ 1048576) (b : Nat) (P : Nat → Prop) (A : Option Addr) (cc : Nat) (w : World) (hv : Kd.V k26 26 w b P (.slice A c.f3.length cc) c.f3) :
  Calls Try.prog 84 #[.agg #[.int .u8 c.f0, .int .i64 c.f1.f0, .int .i64 c.f1.f1, .int .i64 c.f1.f2, .int .i64 c.f1.f3, .int .i64 c.f2, .slice A c.f3.length cc]] w fun e w' => e = .returned (.bool (bW c)) ∧ Below w.heap.size w w' := by
 have S := ae.mk (St.start (ts := [(.slice A c.f3.length cc, c.f3)]) (b0 := w.heap.size) (w := w) (P := P) (fun t ht => by rw [List.mem_singleton.1 ht]; exact fC hv))
 have Xc := ae.mk (fun b P A cc W hV => VD c hz b P A cc W hV)
 unfold KE at Xc
 generalize bW c = v at Xc ⊢
 clear hv hz
 obtain ⟨ck, ⟨cx, cy, cw, ch⟩, aV, l⟩ := c
 simp only [] at S Xc ⊢
 go_enter Try.func84, Try.ntmps84
 go_wp2_with (first
  | (refine boxS 1 _ 26 S ?_; clear S; intro b1 fH S; obtain ⟨f_, kG, kH, kJ, kK, mg, jd⟩ := St.eX S (.head _))
  | (refine nO (some 8) Try.func146 (Xc.out _ _ _ _ _ (S.out.tree _ (.head _))) ?_; rintro e ik ⟨Ax, nx, cx', n1, n2, rfl, hn, hb⟩; refine ⟨_, rfl, ?_⟩; have hn2 : decide (n1 = 0) = v := (by rw [← hn]; by_cases h : n1 = 0 <;> simp [h]); replace S := ae.mk (S.out.call hb); clear hb; clear f_ kG kH kJ kK mg jd)
  | fail)
 go_ret
 exact ⟨rfl, S.out.below⟩
def lV.f (_ : Nat) (a0 a1 a2 a3 a4 a5 : Int) (l : List ai) : Option Bool := if sz ⟨a0, ⟨a1, a2, a3, a4⟩, a5, l⟩ ≤ 1048576 then some (bW ⟨a0, ⟨a1, a2, a3, a4⟩, a5, l⟩) else none
theorem lV.calls (k : Nat) (az : Int) (aN : Int) (aH : Int) (aK : Int) (dm : Int) (dn : Int) (eY : Option Addr) (fA : Nat) (aT : List (ai)) (r : Bool) (w : World) (tC : Kd.C k26 w eY aT.length aT) (uF : aT.length ≤ fA) (h : lV.f k az aN aH aK dm dn aT = some r) :
  Calls Try.prog 84 #[.agg #[.int .u8 az, .int .i64 aN, .int .i64 aH, .int .i64 aK, .int .i64 dm, .int .i64 dn, .slice eY aT.length fA]] w fun e w' => e = .returned (.bool r) ∧ Below w.heap.size w w' := by
 unfold lV.f at h
 split at h
 ·rename_i hz
  injection h with h
  subst h
  exact WM ⟨az, ⟨aN, aH, aK, dm⟩, dn, aT⟩ hz w.heap.size (fun _ => True) eY fA w (Kd.tK uF (Kd.qW (Kd.Bj nz tC) (fun _ _ => trivial)))
 ·cases h
theorem NY (c : ai) (hz : sz c ≤ 1048576) : Ev (fun k => lV.f k c.f0 c.f1.f0 c.f1.f1 c.f1.f2 c.f1.f3 c.f2 c.f3) (bW c) := by
 refine Ev.congr (f := fun _ => some (bW c)) (fun k => ?_) (Ev.now _)
 unfold lV.f
 rw [Kv, if_pos hz]
end Go.Proofs.Ytfdmfgaiblfbhaa.P
namespace Go.Proofs.Ytfdmfgaiblfbhaa.P
open Go.RowKit Go.Proofs.ag.aA Go.Proofs.ag.a_ Go.Proofs.ag.bG
attribute [local go_sem] jf jr jG jR iV iW jB jC
def XK.f (az : Int) (aN : Int) (aH : Int) (aK : Int) (dm : Int) (dn : Int) (aT : List (ai)) (a1 : Int) : Option (Bool) := if az = 2 then (if a1 = 1 then (some true) else (if az = 3 then (some (a1 == 2)) else (some false))) else (if az = 3 then (some (a1 == 2)) else (some false))
def sK.f (az : Int) (aN : Int) (aH : Int) (aK : Int) (dm : Int) (dn : Int) (aT : List (ai)) (a1 : Int) : Option (Bool) := if az = 2 then (if a1 = 1 then (some true) else (if az = 3 then (some (a1 == 2)) else (some false))) else (if az = 3 then (some (a1 == 2)) else (some false))
theorem sK.calls (az : Int) (aN : Int) (aH : Int) (aK : Int) (dm : Int) (dn : Int) (eY : Option Addr) (fA : Nat) (aT : List (ai)) (a1 : Int) (r : Bool) (w : World) (tC : Kd.C k26 w eY aT.length aT) (uF : aT.length ≤ fA) (h : sK.f az aN aH aK dm dn aT a1 = some r) :
  Calls Try.prog 99 #[.agg #[.int .u8 az, .int .i64 aN, .int .i64 aH, .int .i64 aK, .int .i64 dm, .int .i64 dn, .slice eY aT.length fA], .int .u8 a1] w fun e w' => e = .returned (.bool r) ∧ Below w.heap.size w w' := by
 have IJ := Try.underlying26
 clear tC uF
 have HB := ae.mk (Below.refl w.heap.size w)
 have H : (if az = 2 then (if a1 = 1 then (some true) else (if az = 3 then (some (a1 == 2)) else (some false))) else (if az = 3 then (some (a1 == 2)) else (some false))) = some r := h
 clear h
 by_cases c3 : az = 2
 ·rw [if_pos c3] at H
  have uT : (az == 2) = true := beq_iff_eq.mpr c3
  have Ey : (az != 2) = false := bne_eq_false_iff_eq.mpr c3
  clear c3
  by_cases c4 : a1 = 1
  ·rw [if_pos c4] at H
   have uU : (a1 == 1) = true := beq_iff_eq.mpr c4
   have af0 : (a1 != 1) = false := bne_eq_false_iff_eq.mpr c4
   clear c4
   obtain rfl := Option.some.inj H
   go_enter Try.func99, Try.ntmps99
   go_wp2_with (((with_reducible refine ay (N := 2) rfl ?_); refine aG ?hg (N := 2) ?hd (cs := #[.int .u8 az, .int .i64 aN, .int .i64 aH, .int .i64 aK, .int .i64 dm, .int .i64 dn, .slice eY aT.length fA]) (t := 26) ?hr ?_; (case hd => rfl); (case hg => rfl); (case hr => (go_simp; done)); intro gu hg w5 hbox hb; have cO := ae.mk (hbox); replace HB := ae.mk (ak (by repeat ((with_reducible exact HB.out))) hb); clear hb hbox hg; have Gh : w5.cell? ⟨gu, 0, none⟩ = some (.int .u8 az) := (af cO.out 0).trans rfl; have Gi : w5.cell? ⟨gu, 1, none⟩ = some (.int .i64 aN) := (af cO.out 1).trans rfl; have Gj : w5.cell? ⟨gu, 2, none⟩ = some (.int .i64 aH) := (af cO.out 2).trans rfl; have Gl : w5.cell? ⟨gu, 3, none⟩ = some (.int .i64 aK) := (af cO.out 3).trans rfl; have Gm : w5.cell? ⟨gu, 4, none⟩ = some (.int .i64 dm) := (af cO.out 4).trans rfl; have Gn : w5.cell? ⟨gu, 5, none⟩ = some (.int .i64 dn) := (af cO.out 5).trans rfl; have Gp : w5.cell? ⟨gu, 6, none⟩ = some (.slice eY aT.length fA) := (af cO.out 6).trans rfl; have Gq := ah cO.out 0; have Gs := ah cO.out 1; have Gt := ah cO.out 2; have Gu := ah cO.out 3; have Gv := ah cO.out 4; have Gw := ah cO.out 5; have Gx := ah cO.out 6))
   go_ret
   exact ⟨by rfl, by repeat ((with_reducible exact HB.out))⟩
  ·rw [if_neg c4] at H
   have uU : (a1 == 1) = false := beq_eq_false_iff_ne.mpr c4
   have af0 : (a1 != 1) = true := bne_iff_ne.mpr c4
   by_cases c7 : az = 3
   ·rw [if_pos c7] at H
    have Ie : (az == 3) = true := beq_iff_eq.mpr c7
    have af2 : (az != 3) = false := bne_eq_false_iff_eq.mpr c7
    clear c7
    obtain rfl := Option.some.inj H
    go_enter Try.func99, Try.ntmps99
    go_wp2_with (((with_reducible refine ay (N := 2) rfl ?_); refine aG ?hg (N := 2) ?hd (cs := #[.int .u8 az, .int .i64 aN, .int .i64 aH, .int .i64 aK, .int .i64 dm, .int .i64 dn, .slice eY aT.length fA]) (t := 26) ?hr ?_; (case hd => rfl); (case hg => rfl); (case hr => (go_simp; done)); intro gu hg w8 hbox hb; have cO := ae.mk (hbox); replace HB := ae.mk (ak (by repeat ((with_reducible exact HB.out))) hb); clear hb hbox hg; have aje : w8.cell? ⟨gu, 0, none⟩ = some (.int .u8 az) := (af cO.out 0).trans rfl; have ajf : w8.cell? ⟨gu, 1, none⟩ = some (.int .i64 aN) := (af cO.out 1).trans rfl; have ajg : w8.cell? ⟨gu, 2, none⟩ = some (.int .i64 aH) := (af cO.out 2).trans rfl; have ajh : w8.cell? ⟨gu, 3, none⟩ = some (.int .i64 aK) := (af cO.out 3).trans rfl; have aji : w8.cell? ⟨gu, 4, none⟩ = some (.int .i64 dm) := (af cO.out 4).trans rfl; have ajj : w8.cell? ⟨gu, 5, none⟩ = some (.int .i64 dn) := (af cO.out 5).trans rfl; have ajk : w8.cell? ⟨gu, 6, none⟩ = some (.slice eY aT.length fA) := (af cO.out 6).trans rfl; have ajo := ah cO.out 0; have ajp := ah cO.out 1; have ajq := ah cO.out 2; have ajr := ah cO.out 3; have ajs := ah cO.out 4; have ajt := ah cO.out 5; have aju := ah cO.out 6))
    go_ret
    exact ⟨by rfl, by repeat ((with_reducible exact HB.out))⟩
   ·rw [if_neg c7] at H
    have Ie : (az == 3) = false := beq_eq_false_iff_ne.mpr c7
    have af2 : (az != 3) = true := bne_iff_ne.mpr c7
    obtain rfl := Option.some.inj H
    go_enter Try.func99, Try.ntmps99
    go_wp2_with (((with_reducible refine ay (N := 2) rfl ?_); refine aG ?hg (N := 2) ?hd (cs := #[.int .u8 az, .int .i64 aN, .int .i64 aH, .int .i64 aK, .int .i64 dm, .int .i64 dn, .slice eY aT.length fA]) (t := 26) ?hr ?_; (case hd => rfl); (case hg => rfl); (case hr => (go_simp; done)); intro gu hg w10 hbox hb; have cO := ae.mk (hbox); replace HB := ae.mk (ak (by repeat ((with_reducible exact HB.out))) hb); clear hb hbox hg; have agO : w10.cell? ⟨gu, 0, none⟩ = some (.int .u8 az) := (af cO.out 0).trans rfl; have agP : w10.cell? ⟨gu, 1, none⟩ = some (.int .i64 aN) := (af cO.out 1).trans rfl; have agQ : w10.cell? ⟨gu, 2, none⟩ = some (.int .i64 aH) := (af cO.out 2).trans rfl; have agR : w10.cell? ⟨gu, 3, none⟩ = some (.int .i64 aK) := (af cO.out 3).trans rfl; have agS : w10.cell? ⟨gu, 4, none⟩ = some (.int .i64 dm) := (af cO.out 4).trans rfl; have agT : w10.cell? ⟨gu, 5, none⟩ = some (.int .i64 dn) := (af cO.out 5).trans rfl; have agU : w10.cell? ⟨gu, 6, none⟩ = some (.slice eY aT.length fA) := (af cO.out 6).trans rfl; have ahi := ah cO.out 0; have ahj := ah cO.out 1; have ahk := ah cO.out 2; have ahl := ah cO.out 3; have ahm := ah cO.out 4; have ahn := ah cO.out 5; have aho := ah cO.out 6))
    go_ret
    exact ⟨by rfl, by repeat ((with_reducible exact HB.out))⟩
 ·rw [if_neg c3] at H
  have uT : (az == 2) = false := beq_eq_false_iff_ne.mpr c3
  have Ey : (az != 2) = true := bne_iff_ne.mpr c3
  by_cases c12 : az = 3
  ·rw [if_pos c12] at H
   have Qw : (az == 3) = true := beq_iff_eq.mpr c12
   have Qx : (az != 3) = false := bne_eq_false_iff_eq.mpr c12
   clear c12
   obtain rfl := Option.some.inj H
   go_enter Try.func99, Try.ntmps99
   go_wp2_with (((with_reducible refine ay (N := 2) rfl ?_); refine aG ?hg (N := 2) ?hd (cs := #[.int .u8 az, .int .i64 aN, .int .i64 aH, .int .i64 aK, .int .i64 dm, .int .i64 dn, .slice eY aT.length fA]) (t := 26) ?hr ?_; (case hd => rfl); (case hg => rfl); (case hr => (go_simp; done)); intro gu hg yK hbox hb; have cO := ae.mk (hbox); replace HB := ae.mk (ak (by repeat ((with_reducible exact HB.out))) hb); clear hb hbox hg; have Ph : yK.cell? ⟨gu, 0, none⟩ = some (.int .u8 az) := (af cO.out 0).trans rfl; have Pj : yK.cell? ⟨gu, 1, none⟩ = some (.int .i64 aN) := (af cO.out 1).trans rfl; have Pm : yK.cell? ⟨gu, 2, none⟩ = some (.int .i64 aH) := (af cO.out 2).trans rfl; have Pn : yK.cell? ⟨gu, 3, none⟩ = some (.int .i64 aK) := (af cO.out 3).trans rfl; have agV : yK.cell? ⟨gu, 4, none⟩ = some (.int .i64 dm) := (af cO.out 4).trans rfl; have agW : yK.cell? ⟨gu, 5, none⟩ = some (.int .i64 dn) := (af cO.out 5).trans rfl; have agX : yK.cell? ⟨gu, 6, none⟩ = some (.slice eY aT.length fA) := (af cO.out 6).trans rfl; have Py := ah cO.out 0; have Pz := ah cO.out 1; have PD := ah cO.out 2; have PE := ah cO.out 3; have ahp := ah cO.out 4; have ahq := ah cO.out 5; have ahr := ah cO.out 6))
   go_ret
   exact ⟨by rfl, by repeat ((with_reducible exact HB.out))⟩
  ·rw [if_neg c12] at H
   have Qw : (az == 3) = false := beq_eq_false_iff_ne.mpr c12
   have Qx : (az != 3) = true := bne_iff_ne.mpr c12
   obtain rfl := Option.some.inj H
   go_enter Try.func99, Try.ntmps99
   go_wp2_with (((with_reducible refine ay (N := 2) rfl ?_); refine aG ?hg (N := 2) ?hd (cs := #[.int .u8 az, .int .i64 aN, .int .i64 aH, .int .i64 aK, .int .i64 dm, .int .i64 dn, .slice eY aT.length fA]) (t := 26) ?hr ?_; (case hd => rfl); (case hg => rfl); (case hr => (go_simp; done)); intro gu hg zB hbox hb; have cO := ae.mk (hbox); replace HB := ae.mk (ak (by repeat ((with_reducible exact HB.out))) hb); clear hb hbox hg; have Yq : zB.cell? ⟨gu, 0, none⟩ = some (.int .u8 az) := (af cO.out 0).trans rfl; have Yr : zB.cell? ⟨gu, 1, none⟩ = some (.int .i64 aN) := (af cO.out 1).trans rfl; have Yt : zB.cell? ⟨gu, 2, none⟩ = some (.int .i64 aH) := (af cO.out 2).trans rfl; have Yu : zB.cell? ⟨gu, 3, none⟩ = some (.int .i64 aK) := (af cO.out 3).trans rfl; have agY : zB.cell? ⟨gu, 4, none⟩ = some (.int .i64 dm) := (af cO.out 4).trans rfl; have agZ : zB.cell? ⟨gu, 5, none⟩ = some (.int .i64 dn) := (af cO.out 5).trans rfl; have ag0 : zB.cell? ⟨gu, 6, none⟩ = some (.slice eY aT.length fA) := (af cO.out 6).trans rfl; have YW := ah cO.out 0; have YX := ah cO.out 1; have YY := ah cO.out 2; have YZ := ah cO.out 3; have ahs := ah cO.out 4; have aht := ah cO.out 5; have ahu := ah cO.out 6))
   go_ret
   exact ⟨by rfl, by repeat ((with_reducible exact HB.out))⟩
end Go.Proofs.Ytfdmfgaiblfbhaa.P
namespace Go.Proofs.Ytfdmfgaiblfbhaa.P
open Go.RowKit Go.Proofs.ag.aA Go.Proofs.ag.a_ Go.Proofs.ag.bG
def iT (ax k : Int) : Bool := (k == 2 && ax == 1) || (k == 3 && ax == 2)
theorem Qr (c : ai) (ax : Int) : sK.f c.f0 c.f1.f0 c.f1.f1 c.f1.f2 c.f1.f3 c.f2 c.f3 ax = some (iT ax c.f0) := by
 unfold sK.f iT
 by_cases h2 : c.f0 = 2
 ·by_cases h1 : ax = 1
  ·rw [if_pos h2, if_pos h1]; simp [h2, h1]
  ·rw [if_pos h2, if_neg h1, if_neg (by omega)]; simp [h2, h1]
 ·rw [if_neg h2]
  by_cases h3 : c.f0 = 3
  ·rw [if_pos h3]; simp [h3]
  ·rw [if_neg h3]; simp [h2, h3]
mutual
def fG (ax : Int) : ai → Int
 | ⟨a, _, _, l⟩ => if a = 1 then 1 else if iT ax a = true then ((l.length : Int) - 1) + vJ ax l else oZ ax 0 l
def vJ (ax : Int) : List ai → Int
 | [] => 0
 | k :: ks => fG ax k + vJ ax ks
def oZ (ax : Int) : Int → List ai → Int
 | m, [] => m
 | m, k :: ks => oZ ax (mx m (fG ax k)) ks
end
theorem wF (ax : Int) (c : ai) : fG ax c = if c.f0 = 1 then 1 else if iT ax c.f0 = true then ((c.f3.length : Int) - 1) + vJ ax c.f3 else oZ ax 0 c.f3 := by cases c; simp [fG]
theorem E5 (ax : Int) : vJ ax [] = 0 := by simp [vJ]
theorem wL (ax : Int) (k : ai) (ks : List ai) : vJ ax (k :: ks) = fG ax k + vJ ax ks := by simp [vJ]
theorem Cc (ax m : Int) : oZ ax m [] = m := by simp [oZ]
theorem oz (ax m : Int) (k : ai) (ks : List ai) : oZ ax m (k :: ks) = oZ ax (mx m (fG ax k)) ks := by simp [oZ]
theorem aeG {a b c : Int} (h : a ≤ c) (k : b ≤ c) : mx a b ≤ c := by unfold mx; split <;> omega
theorem acX (a b : Int) : a ≤ mx a b := by unfold mx; split <;> omega
theorem Us (a b : Int) : b ≤ mx a b := by unfold mx; split <;> omega
theorem DL {c x : ai} (h : (dZ c).all lC = true) (hx : x ∈ c.f3) : (dZ x).all lC = true := by
 rw [jY, List.all_cons, Bool.and_eq_true] at h
 obtain ⟨p, q, e⟩ := List.append_of_mem hx
 have h2 := h.2
 rw [e, oK, g_, List.all_append, List.all_append] at h2
 simp only [Bool.and_eq_true] at h2
 exact h2.2.1
theorem nU {c : ai} (h : (dZ c).all lC = true) : lC c = true := by
 rw [jY, List.all_cons, Bool.and_eq_true] at h
 exact h.1
theorem vG {c : ai} (h : lC c = true) : (c.f0 = 1 ∧ c.f3.length = 0) ∨ ((c.f0 = 2 ∨ c.f0 = 3) ∧ 2 ≤ c.f3.length) := by
 unfold lC at h
 simp only [Bool.and_eq_true, decide_eq_true_eq] at h
 obtain ⟨⟨⟨_, h1⟩, h2⟩, h3⟩ := h
 by_cases e : c.f0 = 1
 ·exact .inl ⟨e, (h2 e).1⟩
 ·exact .inr ⟨by omega, (h3 (by omega)).1⟩
theorem Ci (l : List ai) (i : Int) (h0 : 0 ≤ i) (h1 : i < (l.length : Int)) : aj l i ∈ l := by
 unfold aj
 rw [List.getD_eq_getElem?_getD, List.getElem?_eq_getElem (by omega), Option.getD_some]
 exact List.getElem_mem _
theorem yt {l : List ai} {k : ai} (h : k ∈ l) : sz k ≤ dM l := by
 obtain ⟨p, q, e⟩ := List.append_of_mem h
 rw [e, jH, b_]
 omega
def iU (c : ai) : List Int → Option ai
 | [] => some c
 | i :: is => if i < 0 ∨ i ≥ (c.f3.length : Int) then none else iU (aj c.f3 i) is
end Go.Proofs.Ytfdmfgaiblfbhaa.P
namespace Go.Proofs.Ytfdmfgaiblfbhaa.P
open Go.RowKit Go.Proofs.ag.aA Go.Proofs.ag.a_ Go.Proofs.ag.bG
attribute [local go_sem] jf jG
section
variable {W : World} {b : Nat} {P : Nat → Prop} {A : Option Addr} {cc : Nat}
theorem OU {c : ai} {ax : Int} {v : Bool} (h : iT ax c.f0 = v) (hV : Kd.V k26 26 W b P (.slice A c.f3.length cc) c.f3) :
  Calls Try.prog 99 #[.agg #[.int .u8 c.f0, .int .i64 c.f1.f0, .int .i64 c.f1.f1, .int .i64 c.f1.f2, .int .i64 c.f1.f3, .int .i64 c.f2, .slice A c.f3.length cc], .int .u8 ax] W fun e w' => e = .returned (.bool v) ∧ Below W.heap.size W w' :=
 have h2 := Kd.oJ hV
 sK.calls _ _ _ _ _ _ A cc c.f3 ax _ W h2.2.2 h2.2.1 ((Qr c ax).trans (congrArg some h))
end
def Oo.f (_ : Nat) (a0 a1 a2 a3 a4 a5 : Int) (l : List ai) (ax : Int) : Option Int := if sz ⟨a0, ⟨a1, a2, a3, a4⟩, a5, l⟩ ≤ 1048576 then some (fG ax ⟨a0, ⟨a1, a2, a3, a4⟩, a5, l⟩) else none
end Go.Proofs.Ytfdmfgaiblfbhaa.P
namespace Go.Proofs.Ytfdmfgaiblfbhaa.P
open Go.RowKit Go.Proofs.ag.aA Go.Proofs.ag.a_ Go.Proofs.ag.bG
section
variable {W : World} {b : Nat} {P : Nat → Prop} {A : Option Addr} {cc : Nat}
end
def adf.f (_ : Nat) (a0 a1 a2 a3 a4 a5 : Int) (l : List ai) (ax : Int) : Option Int := if sz ⟨a0, ⟨a1, a2, a3, a4⟩, a5, l⟩ ≤ 1048576 ∧ (dZ ⟨a0, ⟨a1, a2, a3, a4⟩, a5, l⟩).all lC = true then some (fG ax ⟨a0, ⟨a1, a2, a3, a4⟩, a5, l⟩) else none
end Go.Proofs.Ytfdmfgaiblfbhaa.P

namespace Go.Proofs.Ytfdmfgaiblfbhaa.P
open Go.RowKit Go.Proofs.ag.aA Go.Proofs.ag.a_ Go.Proofs.ag.bG
attribute [local go_sem] jf jr jG jR iV iW jB jC
def qg.f (az : Int) (aN : Int) (aH : Int) (aK : Int) (a1 : Int) : Option (Int) := if a1 = 2 then (some aK) else (if a1 = 1 then (some aH) else (some 0))
theorem qg.calls (az : Int) (aN : Int) (aH : Int) (aK : Int) (a1 : Int) (r : Int) (w : World) (h : qg.f az aN aH aK a1 = some r) :
  Calls Try.prog 98 #[.agg #[.int .i64 az, .int .i64 aN, .int .i64 aH, .int .i64 aK], .int .u8 a1] w fun e w' => e = .returned (.int .i64 r) ∧ Below w.heap.size w w' := by
 have QN := Try.underlying23
 have HB := ae.mk (Below.refl w.heap.size w)
 have H : (if a1 = 2 then (some aK) else (if a1 = 1 then (some aH) else (some 0))) = some r := h
 clear h
 by_cases c3 : a1 = 2
 ·rw [if_pos c3] at H
  have uT : (a1 == 2) = true := beq_iff_eq.mpr c3
  have Ey : (a1 != 2) = false := bne_eq_false_iff_eq.mpr c3
  clear c3
  obtain rfl := Option.some.inj H
  go_enter Try.func98, Try.ntmps98
  go_wp2_with (((with_reducible refine ay (N := 2) rfl ?_); refine aG ?hg (N := 2) ?hd (cs := #[.int .i64 az, .int .i64 aN, .int .i64 aH, .int .i64 aK]) (t := 23) ?hr ?_; (case hd => rfl); (case hg => rfl); (case hr => (go_simp; done)); intro rU hg w4 hbox hb; have nJ := ae.mk (hbox); have Qg := ae.mk ((by rw [hg]; exact (dC (by repeat ((with_reducible exact HB.out)))) : w.heap.size ≤ rU)); replace HB := ae.mk (ak (by repeat ((with_reducible exact HB.out))) hb); clear hb hbox hg; have acp : w4.cell? ⟨rU, 0, none⟩ = some (.int .i64 az) := (af nJ.out 0).trans rfl; have acr : w4.cell? ⟨rU, 1, none⟩ = some (.int .i64 aN) := (af nJ.out 1).trans rfl; have acs : w4.cell? ⟨rU, 2, none⟩ = some (.int .i64 aH) := (af nJ.out 2).trans rfl; have acu : w4.cell? ⟨rU, 3, none⟩ = some (.int .i64 aK) := (af nJ.out 3).trans rfl; have acH := ah nJ.out 0; have acI := ah nJ.out 1; have acJ := ah nJ.out 2; have acK := ah nJ.out 3))
  go_ret
  exact ⟨by rfl, by repeat ((with_reducible first | exact HB.out | refine gG ?_ Qg.out))⟩
 ·rw [if_neg c3] at H
  have uT : (a1 == 2) = false := beq_eq_false_iff_ne.mpr c3
  have Ey : (a1 != 2) = true := bne_iff_ne.mpr c3
  by_cases c6 : a1 = 1
  ·rw [if_pos c6] at H
   have zQ : (a1 == 1) = true := beq_iff_eq.mpr c6
   have LY : (a1 != 1) = false := bne_eq_false_iff_eq.mpr c6
   clear c6
   obtain rfl := Option.some.inj H
   go_enter Try.func98, Try.ntmps98
   go_wp2_with (((with_reducible refine ay (N := 2) rfl ?_); refine aG ?hg (N := 2) ?hd (cs := #[.int .i64 az, .int .i64 aN, .int .i64 aH, .int .i64 aK]) (t := 23) ?hr ?_; (case hd => rfl); (case hg => rfl); (case hr => (go_simp; done)); intro rU hg w7 hbox hb; have nJ := ae.mk (hbox); have Qg := ae.mk ((by rw [hg]; exact (dC (by repeat ((with_reducible exact HB.out)))) : w.heap.size ≤ rU)); replace HB := ae.mk (ak (by repeat ((with_reducible exact HB.out))) hb); clear hb hbox hg; have TQ : w7.cell? ⟨rU, 0, none⟩ = some (.int .i64 az) := (af nJ.out 0).trans rfl; have TR : w7.cell? ⟨rU, 1, none⟩ = some (.int .i64 aN) := (af nJ.out 1).trans rfl; have TS : w7.cell? ⟨rU, 2, none⟩ = some (.int .i64 aH) := (af nJ.out 2).trans rfl; have TT : w7.cell? ⟨rU, 3, none⟩ = some (.int .i64 aK) := (af nJ.out 3).trans rfl; have Uf := ah nJ.out 0; have Ug := ah nJ.out 1; have Uh := ah nJ.out 2; have Ui := ah nJ.out 3))
   go_ret
   exact ⟨by rfl, by repeat ((with_reducible exact HB.out))⟩
  ·rw [if_neg c6] at H
   have zQ : (a1 == 1) = false := beq_eq_false_iff_ne.mpr c6
   have LY : (a1 != 1) = true := bne_iff_ne.mpr c6
   obtain rfl := Option.some.inj H
   go_enter Try.func98, Try.ntmps98
   go_wp2_with (((with_reducible refine ay (N := 2) rfl ?_); refine aG ?hg (N := 2) ?hd (cs := #[.int .i64 az, .int .i64 aN, .int .i64 aH, .int .i64 aK]) (t := 23) ?hr ?_; (case hd => rfl); (case hg => rfl); (case hr => (go_simp; done)); intro rU hg w9 hbox hb; have nJ := ae.mk (hbox); have Qg := ae.mk ((by rw [hg]; exact (dC (by repeat ((with_reducible exact HB.out)))) : w.heap.size ≤ rU)); replace HB := ae.mk (ak (by repeat ((with_reducible exact HB.out))) hb); clear hb hbox hg))
   go_ret
   exact ⟨by rfl, by repeat ((with_reducible exact HB.out))⟩
end Go.Proofs.Ytfdmfgaiblfbhaa.P
namespace Go.Proofs.Ytfdmfgaiblfbhaa.P
open Go.RowKit Go.Proofs.ag.aA Go.Proofs.ag.a_ Go.Proofs.ag.bG
def aI (ax : Int) (r : dF) : Int := if ax = 1 then r.f2 else if ax = 2 then r.f3 else 0
theorem JV (r : dF) (ax : Int) : qg.f r.f0 r.f1 r.f2 r.f3 ax = some (aI ax r) := by
 unfold qg.f aI
 by_cases h1 : ax = 1
 ·rw [if_neg (by omega), if_pos h1, if_pos h1]
 ·by_cases h2 : ax = 2
  ·rw [if_pos h2, if_neg h1, if_pos h2]
  ·rw [if_neg h2, if_neg h1, if_neg h1, if_neg h2]
end Go.Proofs.Ytfdmfgaiblfbhaa.P
namespace Go.Proofs.Ytfdmfgaiblfbhaa.P
open Go.RowKit Go.Proofs.ag.aA Go.Proofs.ag.a_ Go.Proofs.ag.bG
attribute [local go_sem] jf jr jG jR iV iW jB jC
def QS.f (a0 : Int) : Option (Bool) := if a0 = 1 then (some true) else (some (a0 == 2))
end Go.Proofs.Ytfdmfgaiblfbhaa.P
namespace Go.Proofs.Ytfdmfgaiblfbhaa.P
open Go.RowKit Go.Proofs.ag.aA Go.Proofs.ag.a_ Go.Proofs.ag.bG
theorem Zr (Inv : List ai → World → Prop) (r : ai → Bool) (g : Nat) (lb : Array Value) (eg : ∀ args w, (callFunc g args).run Try.prog w = .ok (.enter g args) w) (l : List ai) (A : Option Addr) (c : Nat)
  (w0 : World) (hR : Kd.C k26 w0 A l.length l) (hW : ∀ s W, Inv s W → Below w0.heap.size w0 W) (hD : ∀ s W n, Inv s W → Inv s (W.drewN n))
  (hcall : ∀ (x : ai) (rest : List ai) (W : World) (B : Option Addr) (cb : Nat), x ∈ l → (∃ pre, pre ++ x :: rest = l) → Inv (x :: rest) W → Kd.C k26 w0 B x.f3.length x.f3 → x.f3.length ≤ cb → Calls Try.prog g (#[.agg #[.int .u8 x.f0, .int .i64 x.f1.f0, .int .i64 x.f1.f1, .int .i64 x.f1.f2, .int .i64 x.f1.f3, .int .i64 x.f2, .slice B x.f3.length cb]] ++ lb) W fun e w' => e = .returned (.bool (r x)) ∧ Inv (if r x = true then [] else rest) w')
  (w : World) (hI : Inv l w) (hl : l.length ≤ 9223372036854775807) :
  Calls Try.prog 192 #[.slice A l.length c, .func (.func g) #[] lb] w fun e w' => ∃ i : Int, e = .returned (.int .i64 i) ∧ decide (i ≥ 0) = l.any r ∧ Inv [] w' := by
 have HR := ae.mk hR
 have HW := ae.mk hW
 have HD := ae.mk hD
 have HI := ae.mk hI
 have uq := ae.mk hcall
 clear hR hW hcall hD hI
 go_enter Try.func192, Try.ntmps192
 go_wp2
 go_loopg [5, 8] l.length (fun gg _ v8 wr => ∃ (kk : Nat), kk ≤ l.length ∧ l.length - kk ≤ gg ∧ v8 = .int .i64 kk ∧ ae (Inv (l.drop kk) wr) ∧ ae (l.any r = (l.drop kk).any r))
 case atStart => exact ⟨0, Nat.zero_le _, by omega, rfl, ⟨by simpa using HI.out⟩, ⟨by simp⟩⟩
 case round =>
  clear HI
  obtain ⟨kk, hkk, hg, rfl, HI, HS⟩ := hrel
  by_cases hlt : kk < l.length
  ·have hltz : (kk : Int) < (l.length : Int) := by omega
   obtain ⟨ad, B, cb, rfl, hc0, hc1, hc2, hc3, hc4, hc5, hc6, hlb, hgb⟩ := n_ HR.out (kk : Int) (by omega) (by omega)
   have hbw := HW.out _ wr HI.out
   replace hc0 := (hbw.cell (World.block_lt_of_cell? w0 _ hc0)).trans hc0
   replace hc1 := (hbw.cell (World.block_lt_of_cell? w0 _ hc1)).trans hc1
   replace hc2 := (hbw.cell (World.block_lt_of_cell? w0 _ hc2)).trans hc2
   replace hc3 := (hbw.cell (World.block_lt_of_cell? w0 _ hc3)).trans hc3
   replace hc4 := (hbw.cell (World.block_lt_of_cell? w0 _ hc4)).trans hc4
   replace hc5 := (hbw.cell (World.block_lt_of_cell? w0 _ hc5)).trans hc5
   replace hc6 := (hbw.cell (World.block_lt_of_cell? w0 _ hc6)).trans hc6
   clear hbw
   have hmem : (aj l (kk : Int)) ∈ l := AY z26 l kk hlt
   have hdr : l.drop kk = aj l (kk : Int) :: l.drop (kk + 1) := by
    rw [List.drop_eq_getElem_cons hlt]
    simp only [aj, Int.toNat_natCast, List.getD_eq_getElem?_getD, List.getElem?_eq_getElem hlt, Option.getD_some]
   have HX : ae ((l.drop kk).any r = (r (aj l (kk : Int)) || (l.drop (kk + 1)).any r)) := ⟨by rw [hdr, List.any_cons]⟩
   have hcall := uq.out _ (l.drop (kk + 1)) wr B cb hmem ⟨l.take kk, by rw [← hdr]; exact List.take_append_drop kk l⟩ (by rw [← hdr]; exact HI.out) hgb hlb
   clear hmem hgb hlb hdr
   simp only [Int.toNat_natCast] at hc0 hc1 hc2 hc3 hc4 hc5 hc6
   generalize aj l (kk : Int) = x at hc0 hc1 hc2 hc3 hc4 hc5 hc6 HX hcall
   have HC := ae.mk hcall
   clear hcall
   cases hq : r x with
   | true =>
    have h := HC.out
    rw [hq, if_pos rfl] at h
    have HH := ae.mk h
    have HQ := ae.mk hq
    clear hq HC h
    go_wp2_with fail
    refine HH.out.mono ?_
    rintro e w' ⟨rfl, hb'⟩
    have HB := ae.mk hb'
    clear hb'
    go_wp2
    go_ret
    refine ⟨_, rfl, ?_, HB.out⟩
    rw [HS.out, HX.out, HQ.out, Bool.true_or]
    exact decide_eq_true (by omega)
   | false =>
    have h := HC.out
    rw [hq, if_neg (by simp)] at h
    have HH := ae.mk h
    have HQ := ae.mk hq
    clear hq HC h
    go_wp2_with fail
    refine HH.out.mono ?_
    rintro e w' ⟨rfl, hb'⟩
    have HB := ae.mk hb'
    clear hb'
    go_wp2
    go_roundg (l.length - (kk + 1))
    case measure => omega
    case rel =>
     refine ⟨kk + 1, by omega, by omega, by go_num, HB, ⟨?_⟩⟩
     rw [HS.out, HX.out, HQ.out, Bool.false_or]
  ·have hltz : ¬ (kk : Int) < (l.length : Int) := by omega
   have hd : l.drop kk = [] := List.drop_eq_nil_of_le (by omega)
   have HI2 := ae.mk (hd ▸ HI.out)
   have HS2 := ae.mk (hd ▸ HS.out)
   clear HI HS hd
   go_wp2
   go_ret
   refine ⟨_, rfl, ?_, HI2.out⟩
   rw [HS2.out]
   rfl
theorem OZ (Inv : List ai → World → Prop) (r : ai → Bool) (g : Nat) (lb : Array Value) (eg : ∀ args w, (callFunc g args).run Try.prog w = .ok (.enter g args) w) (l : List ai) (A : Option Addr) (c : Nat)
  (w0 : World) (hR : Kd.C k26 w0 A l.length l) (hW : ∀ s W, Inv s W → Below w0.heap.size w0 W) (hD : ∀ s W n, Inv s W → Inv s (W.drewN n))
  (hcall : ∀ (x : ai) (rest : List ai) (W : World) (B : Option Addr) (cb : Nat), x ∈ l → (∃ pre, pre ++ x :: rest = l) → Inv (x :: rest) W → Kd.C k26 w0 B x.f3.length x.f3 → x.f3.length ≤ cb → Calls Try.prog g (#[.agg #[.int .u8 x.f0, .int .i64 x.f1.f0, .int .i64 x.f1.f1, .int .i64 x.f1.f2, .int .i64 x.f1.f3, .int .i64 x.f2, .slice B x.f3.length cb]] ++ lb) W fun e w' => e = .returned (.bool (r x)) ∧ Inv (if r x = true then [] else rest) w')
  (w : World) (hI : Inv l w) (hl : l.length ≤ 9223372036854775807) :
  Calls Try.prog 174 #[.slice A l.length c, .func (.func g) #[] lb] w fun e w' => e = .returned (.bool (l.any r)) ∧ Inv [] w' := by
 have hi := Zr Inv r g lb eg l A c w0 hR hW hD hcall w hI hl
 clear hR hW hD hcall hI
 have HI := ae.mk hi
 clear hi
 go_enter Try.func174, Try.ntmps174
 go_wp2_with fail
 refine HI.out.mono ?_
 rintro e w' ⟨i, rfl, hd, hb'⟩
 have HB := ae.mk hb'
 have HN := ae.mk hd
 clear hb' hd
 go_wp2
 go_ret
 exact ⟨by rw [← HN.out]; rfl, HB.out⟩
theorem abS (r : ai → dF → Bool) (g : Nat) (eg : ∀ args w, (callFunc g args).run Try.prog w = .ok (.enter g args) w) (la : List ai) (lb : List dF) (A B : Option Addr) (ca cb : Nat) (w : World) (hA : Kd.C k26 w A la.length la) (hB : Kd.C k23 w B lb.length lb)
  (hcall : ∀ W (x : ai) (X : Option Addr) (cx : Nat) (y : dF), x ∈ la → Below w.heap.size w W → Kd.C k26 w X x.f3.length x.f3 → x.f3.length ≤ cx → Calls Try.prog g #[.agg #[.int .u8 x.f0, .int .i64 x.f1.f0, .int .i64 x.f1.f1, .int .i64 x.f1.f2, .int .i64 x.f1.f3, .int .i64 x.f2, .slice X x.f3.length cx], .agg #[.int .i64 y.f0, .int .i64 y.f1, .int .i64 y.f2, .int .i64 y.f3]] W fun e w' => e = .returned (.bool (r x y)) ∧ Below W.heap.size W w') :
  Calls Try.prog 211 #[.slice A la.length ca, .slice B lb.length cb, .func (.func g) #[] #[]] w fun e w' => e = .returned (.bool (la.length == lb.length && rD r la lb)) ∧ Below w.heap.size w w' := by
 have HA := ae.mk hA
 have HLB := ae.mk hB
 have HC := ae.mk hcall
 have HB := ae.mk (Below.refl w.heap.size w)
 have HL := ae.mk (show la.length ≤ 9223372036854775807 from hA.2.1)
 clear hA hB hcall
 by_cases hl : la.length = lb.length
 ·have hl1 : ((la.length : Int) != (lb.length : Int)) = false := by simp [hl]
  have hl2 : (la.length == lb.length) = true := by simp [hl]
  rw [hl2, Bool.true_and]
  have HE := ae.mk hl
  clear hl hl2
  go_enter Try.func211, Try.ntmps211
  go_wp2
  go_loopg [17] la.length (fun gg v17 wr => ∃ (kk : Nat), kk ≤ la.length ∧ la.length - kk ≤ gg ∧ v17 = .int .i64 kk ∧ ae (rD r la lb = rD r (la.drop kk) (lb.drop kk)) ∧ ae (Below w.heap.size w wr))
  case atStart => exact ⟨0, Nat.zero_le _, by omega, rfl, ⟨by simp⟩, HB⟩
  case round =>
   clear HB
   obtain ⟨kk, hkk, hgg, rfl, HS, HB⟩ := hrel
   by_cases hlt : kk < la.length
   ·have hltz : (kk : Int) < (la.length : Int) := by omega
    have agk : (kk : Int) < (lb.length : Int) := by have := HE.out; omega
    have hw : wrap64 ((kk : Int) + 1) = ((kk + 1 : Nat) : Int) := by unfold wrap64; have := HL.out; omega
    have HX := ae.mk (abQ r z26 z23 la lb kk hlt (by omega))
    have hmem : aj la (kk : Int) ∈ la := AY z26 la kk hlt
    obtain ⟨cd, X, cx, rfl, c0, c1, c2, c3, c4, c5, c6, cl, cg⟩ := n_ HA.out (kk : Int) (by omega) hltz
    obtain ⟨dd, rfl, d0, d1, d2, d3⟩ := LV HLB.out (kk : Int) (by omega) agk
    simp only [Int.toNat_natCast] at c0 c1 c2 c3 c4 c5 c6 d0 d1 d2 d3
    replace c0 := (HB.out.cell (World.block_lt_of_cell? w _ c0)).trans c0
    replace c1 := (HB.out.cell (World.block_lt_of_cell? w _ c1)).trans c1
    replace c2 := (HB.out.cell (World.block_lt_of_cell? w _ c2)).trans c2
    replace c3 := (HB.out.cell (World.block_lt_of_cell? w _ c3)).trans c3
    replace c4 := (HB.out.cell (World.block_lt_of_cell? w _ c4)).trans c4
    replace c5 := (HB.out.cell (World.block_lt_of_cell? w _ c5)).trans c5
    replace c6 := (HB.out.cell (World.block_lt_of_cell? w _ c6)).trans c6
    have D0 := ae.mk d0
    have D1 := ae.mk d1
    have D2 := ae.mk d2
    have D3 := ae.mk d3
    clear d0 d1 d2 d3
    have HX := ae.mk (show rD r (la.drop kk) (lb.drop kk) = (r (aj la (kk : Int)) (pg lb (kk : Int)) && rD r (la.drop (kk + 1)) (lb.drop (kk + 1))) from HX.out)
    have cG := ae.mk cg
    have cL := ae.mk cl
    clear cg cl
    have HM := ae.mk hmem
    clear hmem
    generalize aj la (kk : Int) = x at *
    generalize pg lb (kk : Int) = y at *
    have HCx := ae.mk (fun W hW => HC.out W x X cx y HM.out hW cG.out cL.out )
    have HW := ae.mk hw
    have HKK := ae.mk (show kk + 1 ≤ la.length from hlt)
    have kX := ae.mk hgg
    clear hw hlt hgg hkk HM
    go_wp2_with (first | ((with_reducible refine ay (N := 8) rfl ?_); refine aG ?hg (N := 8) ?hd (cs := #[.int .u8 0, .int .i64 0, .int .i64 0, .int .i64 0, .int .i64 0, .int .i64 0, .slice none 0 0]) (t := 26) ?hr ?_; (case hd => rfl); (case hg => rfl); (case hr => (go_simp; done)); intro b8 hg wb8 hbox hb; have K8 := ae.mk hbox; have G8 := ae.mk (show w.heap.size ≤ b8 by rw [hg]; exact HB.out.size); have q_ := ae.mk (ak HB.out hb); clear HB; have HB := q_; clear q_; clear hb hbox hg) | ((with_reducible refine lq (.store 26 (.tmp 8) (.tmp 21)) rfl ?_); go_loud (refine fO (w0 := w) rfl rfl 26 (.tmp 8) (.tmp 21) rfl (g := b8) (j := 0) (base := w.heap.size) #[.int .u8 x.f0, .int .i64 x.f1.f0, .int .i64 x.f1.f1, .int .i64 x.f1.f2, .int .i64 x.f1.f3, .int .i64 x.f2, .slice X x.f3.length cx] (u := .agg #[.int .u8 x.f0, .int .i64 x.f1.f0, .int .i64 x.f1.f1, .int .i64 x.f1.f2, .int .i64 x.f1.f3, .int .i64 x.f2, .slice X x.f3.length cx]) (bF := [.int .u8 x.f0, .int .i64 x.f1.f0, .int .i64 x.f1.f1, .int .i64 x.f1.f2, .int .i64 x.f1.f3, .int .i64 x.f2, .slice X x.f3.length cx]) ?sA ?sX rfl ?sT ?s1 K8.out ?sJ rfl HB.out HB.out.size G8.out ?_; (case sA => rfl); (case sX => rfl); (case sT => rfl); (case s1 => (simp [Value.oneCell'])); (case sJ => (simp)); intro ws8 hbk hbb hgg; clear K8 HB; have K8 := ae.mk hbk; have HB := ae.mk hbb; clear hbk hbb hgg; clear c0 c1 c2 c3 c4 c5 c6; have d0 := (HB.out.cell (World.block_lt_of_cell? w _ D0.out)).trans D0.out; have d1 := (HB.out.cell (World.block_lt_of_cell? w _ D1.out)).trans D1.out; have d2 := (HB.out.cell (World.block_lt_of_cell? w _ D2.out)).trans D2.out; have d3 := (HB.out.cell (World.block_lt_of_cell? w _ D3.out)).trans D3.out)) | ((with_reducible refine ay (N := 9) rfl ?_); refine aG ?hg (N := 9) ?hd (cs := #[.int .i64 0, .int .i64 0, .int .i64 0, .int .i64 0]) (t := 23) ?hr ?_; (case hd => rfl); (case hg => rfl); (case hr => (go_simp; done)); intro b9 hg wb9 hbox hb; have K9 := ae.mk hbox; have G9 := ae.mk (show w.heap.size ≤ b9 by rw [hg]; exact HB.out.size); have NE := ae.mk (show b8 ≠ b9 by rw [hg]; exact Nat.ne_of_lt (eH K8.out)); have UM := ae.mk (aJ K8.out hb); clear K8; have K8 := UM; clear UM; have q_ := ae.mk (ak HB.out hb); clear HB; have HB := q_; clear q_; clear hb hbox hg d0 d1 d2 d3) | ((with_reducible refine lq (.store 23 (.tmp 9) (.tmp 25)) rfl ?_); go_loud (refine fO (w0 := w) rfl rfl 23 (.tmp 9) (.tmp 25) rfl (g := b9) (j := 0) (base := w.heap.size) #[.int .i64 y.f0, .int .i64 y.f1, .int .i64 y.f2, .int .i64 y.f3] (u := .agg #[.int .i64 y.f0, .int .i64 y.f1, .int .i64 y.f2, .int .i64 y.f3]) (bF := [.int .i64 y.f0, .int .i64 y.f1, .int .i64 y.f2, .int .i64 y.f3]) ?sA ?sX rfl ?sT ?s1 K9.out ?sJ rfl HB.out HB.out.size G9.out ?_; (case sA => rfl); (case sX => rfl); (case sT => rfl); (case s1 => (simp [Value.oneCell'])); (case sJ => (simp)); intro ws9 hbk hbb hgg; have UM := ae.mk (bP K8.out hgg (fun e_ => absurd (Option.some.inj e_) NE.out)); clear K8; have K8 := UM; clear UM; clear K9 HB; have K9 := ae.mk hbk; have HB := ae.mk hbb; clear hbk hbb hgg; have e0 := (af K8.out 0).trans rfl; have e1 := (af K8.out 1).trans rfl; have e2 := (af K8.out 2).trans rfl; have e3 := (af K8.out 3).trans rfl; have e4 := (af K8.out 4).trans rfl; have e5 := (af K8.out 5).trans rfl; have e6 := (af K8.out 6).trans rfl; have f0 := (af K9.out 0).trans rfl; have f1 := (af K9.out 1).trans rfl; have f2 := (af K9.out 2).trans rfl; have f3 := (af K9.out 3).trans rfl)))
    clear e0 e1 e2 e3 e4 e5 e6 f0 f1 f2 f3 K8 K9 NE G8 G9
    refine (HCx.out _ HB.out).mono ?_
    rintro e w' ⟨rfl, hb⟩
    have q_ := ae.mk (ak HB.out hb); clear HB; have HB := q_; clear q_
    clear hb
    cases hq : r x y with
    | true =>
     have HQ := ae.mk hq
     clear hq
     go_wp2
     go_roundg (la.length - (kk + 1))
     case measure => have h1 := kX.out; have h2 := HKK.out; omega
     case rel => exact ⟨kk + 1, HKK.out, Nat.le_refl _, (by rw [HW.out]), ⟨by rw [HS.out, HX.out, HQ.out, Bool.true_and]⟩, HB⟩
    | false =>
     have HQ := ae.mk hq
     clear hq
     go_wp2
     go_ret
     rw [HS.out, HX.out, HQ.out, Bool.false_and]
     exact ⟨rfl, HB.out⟩
   ·have hltz : ¬ (kk : Int) < (la.length : Int) := by omega
    go_wp2
    go_ret
    rw [HS.out, List.drop_eq_nil_of_le (by omega), Ij]
    exact ⟨rfl, HB.out⟩
 ·have hl1 : ((la.length : Int) != (lb.length : Int)) = true := by simp; omega
  have hl2 : (la.length == lb.length) = false := by simp [hl]
  rw [hl2, Bool.false_and]
  clear hl hl2
  go_enter Try.func211, Try.ntmps211
  go_wp2
  go_ret
  exact ⟨rfl, HB.out⟩
theorem aeo (X Y Wd H ax : Int) (sizes : List Int) (hl : sizes.length ≤ 1000000) (B : Option Addr) (cb : Nat) (w : World) (hi : Kd.C (Kd.int .i64) w B sizes.length sizes) :
  Calls Try.prog 45 #[.agg #[.int .i64 X, .int .i64 Y, .int .i64 Wd, .int .i64 H], .int .u8 ax, .slice B sizes.length cb] w (KF w (pY X Y Wd H ax sizes)) := by
 have S := ae.mk (St.start (ts := []) (b0 := w.heap.size) (w := w) (P := fun _ => True) (fun _ h => by cases h))
 have HI := ae.mk hi
 have nP := ae.mk hl
 clear hi hl
 by_cases hax : ax = 1 ∨ ax = 2
 case neg =>
  have HQ := ae.mk (xQ (X := X) (Y := Y) (W := Wd) (H := H) (sizes := sizes) (.inl hax))
  have Be := ae.mk hax
  clear hax
  go_enter Try.func45, Try.ntmps45
  go_wp2_with (first | (refine boxS 3 _ 23 S ?_; clear S; intro b3 fH S; obtain ⟨bf, bg, bu, bz⟩ := St.at4 S (.head _)) | (refine bQ (some 23) Try.func127 S (U3 Be.out _ _ _ _) ?_; clear S; intro ik S; clear bf bg bu bz) | (refine boxS 9 _ 23 S ?_; clear S; intro b9 iq S) | (refine jg 23 9 24 #[.int .i64 0, .int .i64 0, .int .i64 0, .int .i64 0] 0 4 S ?_; clear S; intro nI S))
  go_ret3
  rw [HQ.out]
  exact ⟨none, 0, none, 0, .cells #[] 0 (0, 0), .cells #[] 0 (0, 0), rfl, (fun h => by cases h), S.out.below⟩
 have Be := ae.mk hax
 obtain ⟨S0, hS0⟩ : ∃ s, s = tX ax X Y := ⟨_, rfl⟩
 obtain ⟨T0, hT0⟩ : ∃ s, s = tX ax Y X := ⟨_, rfl⟩
 obtain ⟨D, hD⟩ : ∃ s, s = tX ax Wd H := ⟨_, rfl⟩
 obtain ⟨E, hE⟩ : ∃ s, s = tX ax H Wd := ⟨_, rfl⟩
 have HTU := ae.mk (fun (W : World) => show Calls Try.prog 127 #[.agg #[.int .i64 X, .int .i64 Y, .int .i64 Wd, .int .i64 H], .int .u8 ax] W fun e w' => e = .returned (.tuple #[.agg #[.int .i64 S0, .int .i64 T0, .int .i64 D, .int .i64 E], .bool true]) ∧ Below W.heap.size W w' by rw [hS0, hT0, hD, hE]; exact Fa hax X Y Wd H)
 by_cases hm : o9 X Y Wd H = true
 case neg =>
  have hm2 := Bool.eq_false_iff.mpr hm
  have HQ := ae.mk (xQ (ax := ax) (sizes := sizes) (.inr (.inl hm2)))
  have v_ := ae.mk hm2
  clear hm hm2 hax hS0 hT0 hD hE
  go_enter Try.func45, Try.ntmps45
  go_wp2_with (first | (refine boxS 3 _ 23 S ?_; clear S; intro b3 fH S; obtain ⟨bf, bg, bu, bz⟩ := St.at4 S (.head _)) | (refine bQ (some 23) Try.func127 S (HTU.out _) ?_; clear S; intro ik S; clear bf bg bu bz) | (refine boxS 9 _ 23 S ?_; clear S; intro b9 iq S) | (refine jg 23 9 24 #[.int .i64 S0, .int .i64 T0, .int .i64 D, .int .i64 E] 0 4 S ?_; clear S; intro nI S; obtain ⟨bf, bg, bu, bz⟩ := St.at4 S dG) | (refine dW 30 rfl ?_; (refine di (by rfl) ?_; dsimp only); refine bQ (some 30) Try.func128 S (NQ v_.out) ?_; clear S; intro oH S; clear bf bg bu bz))
  go_ret3
  rw [HQ.out]
  exact ⟨none, 0, none, 0, .cells #[] 0 (0, 0), .cells #[] 0 (0, 0), rfl, (fun h => by cases h), S.out.below⟩
 have v_ := ae.mk hm
 by_cases h0 : sizes.length = 0
 case pos =>
  have HQ := ae.mk (xQ (X := X) (Y := Y) (W := Wd) (H := H) (ax := ax) (.inr (.inr h0)))
  obtain ⟨JC, Gf, TB⟩ := Bf (a := (sizes.length : Int)) (b := 0) (by omega)
  have TC : (sizes.length == 0) = true := beq_iff_eq.mpr (by omega)
  have TD : decide (sizes.length = 0) = true := decide_eq_true (by omega)
  clear hm h0 hax hS0 hT0 hD hE
  go_enter Try.func45, Try.ntmps45
  go_wp2_with (first | (refine boxS 3 _ 23 S ?_; clear S; intro b3 fH S; obtain ⟨bf, bg, bu, bz⟩ := St.at4 S (.head _)) | (refine bQ (some 23) Try.func127 S (HTU.out _) ?_; clear S; intro ik S; clear bf bg bu bz) | (refine boxS 9 _ 23 S ?_; clear S; intro b9 iq S) | (refine jg 23 9 24 #[.int .i64 S0, .int .i64 T0, .int .i64 D, .int .i64 E] 0 4 S ?_; clear S; intro nI S; obtain ⟨bf, bg, bu, bz⟩ := St.at4 S dG) | (refine dW 30 rfl ?_; (refine di (by rfl) ?_; dsimp only); refine bQ (some 30) Try.func128 S (NQ v_.out) ?_; clear S; intro oH S; clear bf bg bu bz))
  go_ret3
  rw [HQ.out]
  exact ⟨none, 0, none, 0, .cells #[] 0 (0, 0), .cells #[] 0 (0, 0), rfl, (fun h => by cases h), S.out.below⟩
 have hq := Tm hax hm h0
 rw [← hS0, ← hT0, ← hD, ← hE] at hq
 have hb := U1 hax hm
 rw [← hS0, ← hD] at hb
 have HB := ae.mk hb
 rw [hq]
 obtain ⟨JC, Gf, TB⟩ := eqF (a := (sizes.length : Int)) (b := 0) (by omega)
 have TC : (sizes.length == 0) = false := beq_eq_false_iff_ne.mpr (by omega)
 have TD : decide (sizes.length = 0) = false := decide_eq_false (by omega)
 obtain ⟨R, hR⟩ : ∃ R, R = ng ax S0 T0 D E 0 true [] [] sizes := ⟨_, rfl⟩
 rw [← hR]
 have HR := ae.mk hR
 clear hq hb hm h0 hax hS0 hT0 hD hE hR
 go_enter Try.func45, Try.ntmps45
 go_wp2_with (first | (refine boxS 3 _ 23 S ?_; clear S; intro b3 fH S; obtain ⟨bf, bg, bu, bz⟩ := St.at4 S (.head _)) | (refine bQ (some 23) Try.func127 S (HTU.out _) ?_; clear S; intro ik S; clear bf bg bu bz) | (refine boxS 9 _ 23 S ?_; clear S; intro b9 iq S) | (refine jg 23 9 24 #[.int .i64 S0, .int .i64 T0, .int .i64 D, .int .i64 E] 0 4 S ?_; clear S; intro nI S; obtain ⟨bf, bg, bu, bz⟩ := St.at4 S dG) | (refine dW 30 rfl ?_; (refine di (by rfl) ?_; dsimp only); refine bQ (some 30) Try.func128 S (NQ v_.out) ?_; clear S; intro oH S; clear bf bg bu bz; have uB := (S.out.at (.head _) 0).trans rfl))
 clear uB
 clear JC Gf TB TC TD
 go_loopg [11, 12, 13, 42] sizes.length (fun gg v11 v12 v13 v42 wr => ∃ (pre rest : List Int) (off : Int) (ps ls : List dF) (Ap : Option Addr) (cp : Nat) (op : Obj) (Aq : Option Addr) (cq : Nat) (oq : Obj), v11 = .slice Ap ps.length cp ∧ v12 = .slice Aq ls.length cq ∧ v13 = .int .i64 (S0 + off) ∧ v42 = .int .i64 (pre.length : Int) ∧ ae (pre ++ rest = sizes) ∧ rest.length ≤ gg ∧ ae (0 ≤ off ∧ off ≤ D ∧ ps.length ≤ pre.length ∧ ls.length ≤ pre.length) ∧ ae (ng ax S0 T0 D E off (pre.length == 0) ps ls rest = R) ∧ ae (KR k23 23 w.heap.size (.slice Ap ps.length cp) ps op) ∧ ae (KR k23 23 w.heap.size (.slice Aq ls.length cq) ls oq) ∧ ae (St w (fun _ => True) [((Value.slice Aq ls.length cq).ownBlock, oq), ((Value.slice Ap ps.length cp).ownBlock, op), (some b9, .cells #[.int .i64 S0, .int .i64 T0, .int .i64 D, .int .i64 E] 23 (0, 0)), (some b3, .cells #[.int .i64 X, .int .i64 Y, .int .i64 Wd, .int .i64 H] 23 (0, 0))] [] [] [] wr))
 case atStart => exact ⟨[], sizes, 0, [], [], none, 0, _, none, 0, _, rfl, rfl, by rw [Int.add_zero], rfl, ⟨rfl⟩, Nat.le_refl _, ⟨by have := HB.out; simp; omega⟩, ⟨HR.out.symm⟩, ⟨La _ _ _⟩, ⟨La _ _ _⟩, ⟨S.out.noK.noK⟩⟩
 case round =>
  clear S HR
  obtain ⟨pre, rest, off, ps, ls, Ap, cp, op, Aq, cq, oq, rfl, rfl, rfl, rfl, HE, hgg, HO, HG, iI, mY, S⟩ := hrel
  cases rest with
  | nil =>
   have hE := HE.out
   rw [List.append_nil] at hE
   subst hE
   clear HE hgg
   have hlt : ¬ ((pre.length : Int) < (pre.length : Int)) := by omega
   have hw : wrap64 (S0 + D) = S0 + D := by have := HB.out; unfold wrap64; omega
   have R_ := ae.mk (MJ HG.out)
   by_cases hod : off = D
   case pos =>
    obtain ⟨hza, hzb, hzd⟩ := Bf (a := (S0 + off)) (b := wrap64 (S0 + D)) (by omega)
    obtain ⟨hya, hyb, hyd⟩ := Bf (a := (S0 + off)) (b := (S0 + D)) (by omega)
    have KU := ae.mk hod
    clear hod hw
    have uB := (S.out.at dX 0).trans rfl
    have xx := (S.out.at dX 2).trans rfl
    go_wp2
    clear uB xx
    go_ret3
    rw [R_.out, if_pos KU.out]
    have S2 := S.out.uf
    exact ⟨Ap, cp, Aq, cq, op, oq, rfl, fun _ => S2.UH iI.out mY.out, S.out.below⟩
   case neg =>
    obtain ⟨hza, hzb, hzd⟩ := eqF (a := (S0 + off)) (b := wrap64 (S0 + D)) (by omega)
    obtain ⟨hya, hyb, hyd⟩ := eqF (a := (S0 + off)) (b := (S0 + D)) (by omega)
    have KU := ae.mk hod
    clear hod hw
    have uB := (S.out.at dX 0).trans rfl
    have xx := (S.out.at dX 2).trans rfl
    go_wp2
    clear uB xx
    have HQ := ae.mk (R_.out.trans (if_neg KU.out))
    go_ret3
    rw [HQ.out]
    exact ⟨none, 0, none, 0, .cells #[] 0 (0, 0), .cells #[] 0 (0, 0), rfl, (fun h => by cases h), S.out.below⟩
  | cons n ns =>
   have hlt : (pre.length : Int) < (sizes.length : Int) := by rw [← HE.out, List.length_append, List.length_cons]; omega
   have hw1 : wrap64 ((pre.length : Int) + 1) = ((pre ++ [n]).length : Int) := by have := nP.out; rw [List.length_append, List.length_singleton]; unfold wrap64; omega
   have HW1 := ae.mk hw1
   have kX := ae.mk hgg
   have yx := ae.mk (show ps.length ≤ 1000000 ∧ ls.length ≤ 1000000 by have := HO.out; have := nP.out; omega)
   have hrd : rd sizes (pre.length : Int) = n := by rw [← HE.out]; simp [rd, List.getD_eq_getElem?_getD]
   obtain ⟨D7, ek, xi⟩ := Kd.o5 (Kd.dL HI.out S.out.below) (pre.length : Int) (Int.natCast_nonneg _) hlt
   subst ek
   rw [hrd] at xi
   simp only [Int.toNat_natCast] at xi
   clear hrd hgg hw1
   go_upto_if 48 with fail
   clear xi
   go_cut [12, 13] (fun v12 v13 wc => ∃ (o' : Int) (ls' : List dF) (Aq : Option Addr) (cq : Nat) (oq : Obj), v12 = .slice Aq ls'.length cq ∧ v13 = .int .i64 (S0 + o') ∧ ae (0 ≤ o' ∧ o' ≤ D + 1 ∧ ls'.length ≤ pre.length + 1) ∧ ae (yN ax S0 T0 D E o' ps ls' n ns = R) ∧ ae (KR k23 23 w.heap.size (.slice Aq ls'.length cq) ls' oq) ∧ ae (St w (fun _ => True) [((Value.slice Aq ls'.length cq).ownBlock, oq), ((Value.slice Ap ps.length cp).ownBlock, op), (some b9, .cells #[.int .i64 S0, .int .i64 T0, .int .i64 D, .int .i64 E] 23 (0, 0)), (some b3, .cells #[.int .i64 X, .int .i64 Y, .int .i64 Wd, .int .i64 H] 23 (0, 0))] [] [] [] wc))
   case first =>
    by_cases hp2 : pre.length = 0
    case pos =>
     have hp : (pre.length == 0) = true := beq_iff_eq.mpr hp2
     obtain ⟨hpa, hpb⟩ := lu (a := 0) (b := (pre.length : Int)) (by omega)
     have hpc : decide (0 < pre.length) = false := decide_eq_false (by omega)
     have hpe : ¬ (0 < pre.length) := by omega
     have HG2 := ae.mk (show yN ax S0 T0 D E off ps ls n ns = R by have h := HG.out; rw [hp] at h; exact h)
     clear hp hp2
     go_wp2
     go_meet
     case rel => exact ⟨off, ls, _, _, _, rfl, rfl, ⟨by have := HO.out; omega⟩, HG2, mY, S⟩
    case neg =>
     have hp : (pre.length == 0) = false := beq_eq_false_iff_ne.mpr hp2
     obtain ⟨hpa, hpb⟩ := qO (a := 0) (b := (pre.length : Int)) (by omega)
     have hpc : decide (0 < pre.length) = true := decide_eq_true (by omega)
     have hpe : 0 < pre.length := by omega
     have HG2 := ae.mk (show yN ax S0 T0 D E (off + 1) ps (ls ++ [nC ax (S0 + off) T0 E 1]) n ns = R by have h := HG.out; rw [hp] at h; exact h)
     have OJ := ae.mk (show wrap64 ((S0 + off) + 1) = S0 + (off + 1) by have := HO.out; have := HB.out; unfold wrap64; omega)
     clear hp hp2
     have FZ := (S.out.at dX 1).trans rfl
     have F5 := (S.out.at dX 3).trans rfl
     go_wp2_with (first | (refine bQ (some 57) Try.func127 S (Fa Be.out (S0 + off) T0 1 E) ?_; clear S; intro fH S; clear FZ F5) | (refine boxS 16 _ 23 S ?_; clear S; intro b16 ik S) | (refine jg 23 16 58 #[.int .i64 (tX ax (S0 + off) T0), .int .i64 (tX ax T0 (S0 + off)), .int .i64 (tX ax 1 E), .int .i64 (tX ax E 1)] 0 4 S ?_; clear S; intro iq S; obtain ⟨BD, BF, BG, BH⟩ := St.at4 S (.head _)) | (refine dW 63 rfl ?_; at_builtin; replace S := ae.mk S.out.uf; refine t_ k23 23 rfl 60 62 42 _ 32 Try.underlying42 info23 rfl (by decide) (by decide) (by decide) S mY ⟨tX ax (S0 + off) T0, tX ax T0 (S0 + off), tX ax 1 E, tX ax E 1⟩ [.int .i64 (tX ax (S0 + off) T0), .int .i64 (tX ax T0 (S0 + off)), .int .i64 (tX ax 1 E), .int .i64 (tX ax E 1)] (fun _ _ _ => qB _ _ _ _) (by have := yx.out; omega) ?_; clear S mY; intro Aq2 cq2 oq2 nI S mY; clear BD BF BG BH))
     go_meet
     case rel => exact ⟨off + 1, _, _, _, _, (by rw [List.length_append]; rfl), (by rw [OJ.out]), ⟨by have := HO.out; rw [List.length_append, List.length_singleton]; omega⟩, HG2, mY, ⟨S.out.uf.gX.qN.qN.qN.qN⟩⟩
   case rest =>
    clear S mY HG
    obtain ⟨o', ls', Aq, cq, oq, rfl, rfl, qH, HG, mY, S⟩ := hcut
    rename World => wx
    have yx := ae.mk (show ps.length ≤ 1000000 ∧ ls'.length ≤ 1000001 by have := HO.out; have := qH.out; have := nP.out; omega)
    have hg : wrap64 (wrap64 (S0 + D) - (S0 + o')) = D - o' := by have := HB.out; have := qH.out; unfold wrap64; omega
    by_cases hn : n < 1
    case pos =>
     obtain ⟨hna, hnb⟩ := qO (a := n) (b := 1) (by omega)
     have HQ := ae.mk (HG.out.symm.trans (yZ (.inl hn)))
     go_wp2
     go_ret3
     rw [HQ.out]
     exact ⟨none, 0, none, 0, .cells #[] 0 (0, 0), .cells #[] 0 (0, 0), rfl, (fun h => by cases h), S.out.below⟩
    obtain ⟨hna, hnb⟩ := lu (a := n) (b := 1) (by omega)
    by_cases hd : D < o' + n
    case pos =>
     obtain ⟨hda, hdb⟩ := qO (a := wrap64 (wrap64 (S0 + D) - (S0 + o'))) (b := n) (by omega)
     obtain ⟨hea, heb⟩ := qO (a := D - o') (b := n) (by omega)
     have HQ := ae.mk (HG.out.symm.trans (yZ (.inr hd)))
     have uB := (S.out.at dX 0).trans rfl
     have xx := (S.out.at dX 2).trans rfl
     go_wp2
     clear uB xx
     go_ret3
     rw [HQ.out]
     exact ⟨none, 0, none, 0, .cells #[] 0 (0, 0), .cells #[] 0 (0, 0), rfl, (fun h => by cases h), S.out.below⟩
    obtain ⟨hda, hdb⟩ := lu (a := wrap64 (wrap64 (S0 + D) - (S0 + o'))) (b := n) (by omega)
    obtain ⟨hea, heb⟩ := lu (a := D - o') (b := n) (by omega)
    have HG2 := ae.mk ((O0 (fun h => h.elim hn hd)).symm.trans HG.out)
    have HN := ae.mk hn
    have HD2 := ae.mk hd
    have OJ := ae.mk (show wrap64 ((S0 + o') + n) = S0 + (o' + n) by have := qH.out; have := HB.out; unfold wrap64; omega)
    clear hn hd hg
    obtain ⟨uB, FZ, xx, F5⟩ := St.at4 S dX
    go_wp2_with (first | (refine bQ (some 88) Try.func127 S (Fa Be.out (S0 + o') T0 n E) ?_; clear S; intro fH S; clear uB FZ xx F5) | (refine boxS 18 _ 23 S ?_; clear S; intro b18 ik S) | (refine jg 23 18 89 #[.int .i64 (tX ax (S0 + o') T0), .int .i64 (tX ax T0 (S0 + o')), .int .i64 (tX ax n E), .int .i64 (tX ax E n)] 0 4 S ?_; clear S; intro iq S; obtain ⟨abx, aby, abz, abA⟩ := St.at4 S (.head _)) | (refine dW 94 rfl ?_; at_builtin; replace S := ae.mk S.out.JB; refine t_ k23 23 rfl 91 93 42 _ 32 Try.underlying42 info23 rfl (by decide) (by decide) (by decide) S iI ⟨tX ax (S0 + o') T0, tX ax T0 (S0 + o'), tX ax n E, tX ax E n⟩ [.int .i64 (tX ax (S0 + o') T0), .int .i64 (tX ax T0 (S0 + o')), .int .i64 (tX ax n E), .int .i64 (tX ax E n)] (fun _ _ _ => qB _ _ _ _) (by have := yx.out; omega) ?_; clear S iI; intro KD cp2 NL nI S iI; clear abx aby abz abA))
    have hw1 := HW1.out
    go_wp2
    go_roundg ns.length
    case measure => exact Nat.lt_of_lt_of_le (Nat.lt_succ_self _) kX.out
    case rel => exact ⟨pre ++ [n], ns, o' + n, _, ls', _, _, _, _, _, _, (by rw [List.length_append]; rfl), rfl, (by rw [OJ.out]), (by rw [hw1]), ⟨by rw [List.append_assoc]; exact HE.out⟩, Nat.le_refl _, ⟨by have := HO.out; have := qH.out; have := HN.out; have := HD2.out; simp only [List.length_append, List.length_singleton]; omega⟩, ⟨by rw [show ((pre ++ [n]).length == 0) = false by simp]; exact HG2.out⟩, iI, mY, ⟨S.out.uf.gX.qN.qN.JB.qN⟩⟩
def agr.f (_ : Nat) (X Y Wd H ax : Int) (sizes : List Int) : Option (List dF × List dF × Bool) := if sizes.length ≤ 1000000 then some (pY X Y Wd H ax sizes) else none
theorem Two.lower {α β : Type} {d : Kd α} {e : TypeId} {d' : Kd β} {e' : TypeId} {w W W1 : World} {v v' : Value} {l : List α} {l' : List β} {o o' : Obj} (h : Two d e d' e' W W1 v l v' l' o o') (hs : w.heap.size ≤ W.heap.size) : Two d e d' e' w W1 v l v' l' o o' :=
 ⟨zH h.one hs, zH h.two hs, fun g hg => ⟨Nat.le_trans hs (h.at1 g hg).1, (h.at1 g hg).2⟩, fun g hg => ⟨Nat.le_trans hs (h.at2 g hg).1, (h.at2 g hg).2⟩, h.ne⟩
theorem abK (c : ai) (hl : c.f3.length ≤ 1000000) (b : Nat) (P : Nat → Prop) (A : Option Addr) (cc : Nat) (w : World) (hv : Kd.V k26 26 w b P (.slice A c.f3.length cc) c.f3) :
  Calls Try.prog 210 #[.agg #[.int .u8 c.f0, .int .i64 c.f1.f0, .int .i64 c.f1.f1, .int .i64 c.f1.f2, .int .i64 c.f1.f3, .int .i64 c.f2, .slice A c.f3.length cc]] w (KF w (w_ c)) := by
 have S := ae.mk (St.start (ts := [(.slice A c.f3.length cc, c.f3)]) (b0 := w.heap.size) (w := w) (P := P) (fun t ht => by rw [List.mem_singleton.1 ht]; exact fC hv))
 have nP := ae.mk hl
 clear hl hv
 obtain ⟨ck, ⟨cx, cy, cw, ch⟩, aV, l⟩ := c
 simp only [] at S nP ⊢
 rw [show w_ ⟨ck, ⟨cx, cy, cw, ch⟩, aV, l⟩ = pY cx cy cw ch (((ck - 2) % 256 + 1) % 256) (l.map (pU ck)) from rfl]
 obtain ⟨T, hT⟩ : ∃ T, T = pY cx cy cw ch (((ck - 2) % 256 + 1) % 256) (l.map (pU ck)) := ⟨_, rfl⟩
 rw [← hT]
 have HT := ae.mk hT
 clear hT
 go_enter Try.func210, Try.ntmps210
 go_wp2_with (first
  | (refine boxS 1 _ 26 S ?_; clear S; intro b1 fH S; have jd := (S.out.at (.head _) 6).trans rfl)
  | fail)
 clear jd
 go_loopg [5, 11] l.length (fun gg v3 v9 wr => ∃ (pre rest : List ai) (Ap : Option Addr) (cp : Nat) (op : Obj), v3 = .slice Ap pre.length cp ∧ v9 = .int .i64 (pre.length : Int) ∧ ae (pre ++ rest = l) ∧ rest.length ≤ gg ∧ ae (KR (Kd.int .i64) 3 w.heap.size (.slice Ap pre.length cp) (pre.map (pU ck)) op) ∧ ae (St w P [((Value.slice Ap pre.length cp).ownBlock, op), (some b1, .cells #[.int .u8 ck, .int .i64 cx, .int .i64 cy, .int .i64 cw, .int .i64 ch, .int .i64 aV, .slice A l.length cc] 26 (0, 0))] [] [(.slice A l.length cc, l)] [] wr))
 case atStart => exact ⟨[], l, _, _, _, rfl, rfl, ⟨rfl⟩, Nat.le_refl _, ⟨La _ _ _⟩, ⟨S.out.noK⟩⟩
 case round =>
  clear S
  obtain ⟨pre, rest, Ap, cp, op, rfl, rfl, HE, hgg, iI, S⟩ := hrel
  cases rest with
  | nil =>
   have hE := HE.out
   rw [List.append_nil] at hE
   have hE2 := hE.symm
   subst hE2
   clear hE HE hgg
   have hlt : ¬ ((l.length : Int) < (l.length : Int)) := by omega
   have hlm : (l.map (pU ck)).length = l.length := List.length_map _
   have hcut := fun W hi => aeo cx cy cw ch (((ck - 2) % 256 + 1) % 256) (l.map (pU ck)) (by have := nP.out; simpa using this) Ap cp W hi
   rw [hlm, ← HT.out] at hcut
   have Fv := ae.mk hcut
   clear hcut hlm
   have kG := (S.out.at dG 1).trans rfl
   have kH := (S.out.at dG 2).trans rfl
   have kJ := (S.out.at dG 3).trans rfl
   have kK := (S.out.at dG 4).trans rfl
   have f_ := (S.out.at dG 0).trans rfl
   go_wp2_with (first
    | (refine nO (some 38) Try.func45 (Fv.out _ (by have h := (Kd.fD (K_ iI.out S.out (.head _))).2.2; rw [List.length_map] at h; exact h)) ?_; rintro e ik ⟨A1, c1, A2, c2, o1, o2, rfl, h1, hb⟩; refine ⟨_, rfl, ?_⟩; have HCU := ae.mk (fun h => (h1 h).lower S.out.below.size); replace S := ae.mk (S.out.call hb); clear h1 hb; clear kG kH kJ kK f_)
    | fail)
   go_ret3
   exact ⟨_, _, _, _, _, _, rfl, HCU.out, S.out.below⟩
  | cons k rest =>
   have hk : k ∈ l := by rw [← HE.out]; simp
   have hlt : (pre.length : Int) < (l.length : Int) := by rw [← HE.out, List.length_append, List.length_cons]; omega
   have hw1 : wrap64 ((pre.length : Int) + 1) = ((pre ++ [k]).length : Int) := by have := nP.out; rw [List.length_append, List.length_singleton]; unfold wrap64; omega
   have HW1 := ae.mk hw1
   have kX := ae.mk hgg
   have HK := ae.mk hk
   have OI := ae.mk (show pre.length ≤ 1048576 by have := nP.out; omega)
   obtain ⟨kY, ua, uc, ek, S1⟩ := S.out.elem (.head _) (pre.length : Int) (Int.natCast_nonneg _) hlt
   subst ek
   have hrd : aj l (pre.length : Int) = k := by rw [← HE.out]; exact mV pre k rest
   rw [hrd] at S1
   simp only [Int.toNat_natCast] at S1
   replace S := ae.mk S1
   clear S1 hrd hk hgg hw1
   by_cases hk2 : ck = 2
   case pos =>
    have hka : (ck == 2) = true := beq_iff_eq.mpr hk2
    have hkb : decide (ck = 2) = true := decide_eq_true hk2
    have KZ := ae.mk (show (pre ++ [k]).map (pU ck) = pre.map (pU ck) ++ [k.f1.f2] by rw [List.map_append]; exact congrArg (pre.map (pU ck) ++ [·]) (if_pos hk2))
    clear hk2
    obtain ⟨nR, lX, lY, lL, lM, oP, pW⟩ := St.O3 S
    go_wp2_with (first
     | (refine boxS 7 _ 26 S ?_; clear S; intro b7 iq S; clear nR lX lY lL lM oP pW)
     | (refine jg 26 7 14 #[.int .u8 k.f0, .int .i64 k.f1.f0, .int .i64 k.f1.f1, .int .i64 k.f1.f2, .int .i64 k.f1.f3, .int .i64 k.f2, .slice ua k.f3.length uc] 0 7 S ?_; clear S; intro nI S; have f_ := (S.out.at dX 0).trans rfl; have Dz := (S.out.at (.head _) 3).trans rfl)
     | (refine dW 23 rfl ?_; at_builtin; replace S := ae.mk S.out.uf; refine t_ (Kd.int .i64) 3 rfl 18 22 41 (.int .i64 0) 8 Try.underlying41 info3 rfl (by decide) (by decide) (by decide) S iI k.f1.f2 [.int .i64 k.f1.f2] (fun _ _ _ => rfl) (by have := OI.out; simp only [List.length_map]; omega) ?_; clear S iI; intro KD cp2 NL oH S iI; clear f_ Dz)
     | fail)
    have e2 : ((pre.map (pU ck)) ++ [k.f1.f2]).length = (pre ++ [k]).length := by simp
    rw [e2, ← KZ.out] at iI
    rw [e2] at S
    have hw1 := HW1.out
    go_wp2
    go_roundg rest.length
    case measure => exact Nat.lt_of_lt_of_le (Nat.lt_succ_self _) kX.out
    case rel => exact ⟨pre ++ [k], rest, _, _, _, (by rw [List.length_append]; rfl), (by rw [hw1]), ⟨by rw [List.append_assoc]; exact HE.out⟩, Nat.le_refl _, iI, ⟨S.out.uf.gX.uf.uf.eU.bM.bM.bM.bM.bM.bM.bM⟩⟩
   case neg =>
    have hka : (ck == 2) = false := beq_eq_false_iff_ne.mpr hk2
    have hkb : decide (ck = 2) = false := decide_eq_false hk2
    have KZ := ae.mk (show (pre ++ [k]).map (pU ck) = pre.map (pU ck) ++ [k.f1.f3] by rw [List.map_append]; exact congrArg (pre.map (pU ck) ++ [·]) (if_neg hk2))
    clear hk2
    obtain ⟨nR, lX, lY, lL, lM, oP, pW⟩ := St.O3 S
    go_wp2_with (first
     | (refine boxS 7 _ 26 S ?_; clear S; intro b7 uo S; clear nR lX lY lL lM oP pW)
     | (refine jg 26 7 14 #[.int .u8 k.f0, .int .i64 k.f1.f0, .int .i64 k.f1.f1, .int .i64 k.f1.f2, .int .i64 k.f1.f3, .int .i64 k.f2, .slice ua k.f3.length uc] 0 7 S ?_; clear S; intro wV S; have f_ := (S.out.at dX 0).trans rfl; have DC := (S.out.at (.head _) 4).trans rfl)
     | (refine dW 29 rfl ?_; at_builtin; replace S := ae.mk S.out.uf; refine t_ (Kd.int .i64) 3 rfl 24 28 41 (.int .i64 0) 8 Try.underlying41 info3 rfl (by decide) (by decide) (by decide) S iI k.f1.f3 [.int .i64 k.f1.f3] (fun _ _ _ => rfl) (by have := OI.out; simp only [List.length_map]; omega) ?_; clear S iI; intro KD cp2 NL Hw S iI; clear f_ DC)
     | fail)
    have e2 : ((pre.map (pU ck)) ++ [k.f1.f3]).length = (pre ++ [k]).length := by simp
    rw [e2, ← KZ.out] at iI
    rw [e2] at S
    have hw1 := HW1.out
    go_wp2
    go_roundg rest.length
    case measure => exact Nat.lt_of_lt_of_le (Nat.lt_succ_self _) kX.out
    case rel => exact ⟨pre ++ [k], rest, _, _, _, (by rw [List.length_append]; rfl), (by rw [hw1]), ⟨by rw [List.append_assoc]; exact HE.out⟩, Nat.le_refl _, iI, ⟨S.out.uf.gX.uf.uf.eU.bM.bM.bM.bM.bM.bM.bM⟩⟩
theorem abG (k : ai) (r : dF) (A : Option Addr) (cc : Nat) (w : World) :
  Calls Try.prog 212 #[.agg #[.int .u8 k.f0, .int .i64 k.f1.f0, .int .i64 k.f1.f1, .int .i64 k.f1.f2, .int .i64 k.f1.f3, .int .i64 k.f2, .slice A k.f3.length cc], .agg #[.int .i64 r.f0, .int .i64 r.f1, .int .i64 r.f2, .int .i64 r.f3]] w fun e w' => e = .returned (.bool (qh k.f1 r)) ∧ Below w.heap.size w w' := by
 have S := ae.mk (St.start (ts := []) (b0 := w.heap.size) (w := w) (P := fun _ => True) (fun _ h => by cases h))
 go_enter Try.func212, Try.ntmps212
 go_wp2_with (first
  | (refine boxS 2 _ 26 S ?_; clear S; intro b2 fH S)
  | (refine boxS 3 _ 23 S ?_; clear S; intro b3 ik S; obtain ⟨bf, bg, bu, bz⟩ := St.at4 S (.head _); have zS := (S.out.at dG 1).trans rfl; have zT := (S.out.at dG 2).trans rfl; have zU := (S.out.at dG 3).trans rfl; have FY := (S.out.at dG 4).trans rfl)
  | fail)
 clear bf bg bu bz zS zT zU FY
 all_goals (go_ret; refine ⟨?_, S.out.below⟩; clear S; simp [qh, *])
theorem Wh (c : ai) (hl : c.f3.length ≤ 1000000) (b : Nat) (P : Nat → Prop) (A : Option Addr) (cc : Nat) (w : World) (hv : Kd.V k26 26 w b P (.slice A c.f3.length cc) c.f3) :
  Calls Try.prog 206 #[.agg #[.int .u8 c.f0, .int .i64 c.f1.f0, .int .i64 c.f1.f1, .int .i64 c.f1.f2, .int .i64 c.f1.f3, .int .i64 c.f2, .slice A c.f3.length cc]] w (Qn w c) := by
 have S := ae.mk (St.start (ts := [(.slice A c.f3.length cc, c.f3)]) (b0 := w.heap.size) (w := w) (P := P) (fun t ht => by rw [List.mem_singleton.1 ht]; exact fC hv))
 have hcut := fun b P A cc W hV => abK c hl b P A cc W hV
 have ho : l7 c = AO c (w_ c) := rfl
 have hl2 := (ML c).2
 unfold Qn
 generalize l7 c = v at ho ⊢
 generalize w_ c = T at ho hl2 hcut
 clear hl hv
 obtain ⟨ck, ⟨cx, cy, cw, ch⟩, aV, l⟩ := c
 obtain ⟨t1, t2, t3⟩ := T
 simp only [AO] at S hl2 hcut ho ⊢
 have HL2 := ae.mk hl2
 clear hl2
 by_cases h1 : ck = 1
 case pos =>
  have hv : v = true := by rw [ho, h1]; rfl
  have ha : (ck == 1) = true := beq_iff_eq.mpr h1
  have hb : decide (ck = 1) = true := decide_eq_true h1
  have HL := ae.mk hv
  clear hv h1 ho hcut
  go_enter Try.func206, Try.ntmps206
  go_wp2_with (first
   | (refine boxS 1 _ 26 S ?_; clear S; intro b1 fH S; have f_ := (S.out.at (.head _) 0).trans rfl)
   | fail)
  clear f_
  go_ret2
  rw [HL.out]
  exact ⟨_, _, _, rfl, fun _ => ⟨[], rfl, Nat.zero_le _, Kd.uy _ _ _ _ _⟩, S.out.below⟩
 have ha : (ck == 1) = false := beq_eq_false_iff_ne.mpr h1
 have hd : decide (ck = 1) = false := decide_eq_false h1
 rw [ha, Bool.false_or] at ho
 clear h1
 cases t3 with
 | false =>
  rw [Bool.false_and] at ho
  have HL := ae.mk ho
  have Fv := ae.mk (fun b P A cc W hV => MM (hcut b P A cc W hV))
  clear hcut ho
  go_enter Try.func206, Try.ntmps206
  go_wp2_with (first
   | (refine boxS 1 _ 26 S ?_; clear S; intro b1 fH S; obtain ⟨f_, kG, kH, kJ, kK, mg, jd⟩ := St.eX S (.head _))
   | (refine nO (some 12) Try.func210 (Fv.out _ _ _ _ _ (S.out.tree _ (.head _))) ?_; rintro e ik ⟨Ap, np, cp, Aq, nq, cq, rfl, hb⟩; refine ⟨_, rfl, ?_⟩; replace S := ae.mk (S.out.call hb); clear hb; clear f_ kG kH kJ kK mg jd)
   | fail)
  go_ret2
  rw [HL.out]
  exact ⟨_, _, _, rfl, (fun h => by cases h), S.out.below⟩
 | true =>
  rw [Bool.true_and] at ho
  have Fv := ae.mk (fun b P A cc W hV => O1 (hcut b P A cc W hV))
  have HEF := ae.mk (fun (A B : Option Addr) (ca cb : Nat) (W : World) (h1 : Kd.C k26 W A l.length l) (h2 : Kd.C k23 W B t1.length t1) => (show Calls Try.prog 211 #[.slice A l.length ca, .slice B t1.length cb, .func (.func 212) #[] #[]] W fun e w' => e = .returned (.bool v) ∧ Below W.heap.size W w' by rw [ho]; exact abS (fun k r => qh k.f1 r) 212 (pK Try.func212 (by decide +kernel) (by kernel_rfl)) l t1 A B ca cb W h1 h2 (fun W x X cx y _ _ _ _ => abG x y X cx W)))
  clear hcut ho
  go_enter Try.func206, Try.ntmps206
  go_wp2_with (first
   | (refine boxS 1 _ 26 S ?_; clear S; intro b1 fH S; obtain ⟨f_, kG, kH, kJ, kK, mg, jd⟩ := St.eX S (.head _))
   | (refine nO (some 12) Try.func210 (Fv.out _ _ _ _ _ (S.out.tree _ (.head _))) ?_; rintro e ik ⟨Ap, cp, Aq, cq, op, oq, rfl, h1, hb⟩; refine ⟨_, rfl, ?_⟩; obtain ⟨S1, hp, hq⟩ := S.out.two h1 hb; replace S := ae.mk S1; have iI := ae.mk hp; have mY := ae.mk hq; clear S1 hp hq h1 hb; clear f_ kG kH kJ kK mg jd; have jd := (S.out.at dX 6).trans rfl)
   | (refine dW 22 rfl ?_; (refine di (by rfl) ?_; dsimp only); refine bQ (some 22) Try.func211 S (HEF.out _ _ _ _ _ (Kd.oJ (S.out.tree _ (.head _))).2.2 (aa0 iI.out S.out (.head _)).1) ?_; clear S; intro iq S; clear jd)
   | fail)
  go_ret2
  exact ⟨_, _, _, rfl, fun _ => ⟨t2, rfl, HL2.out, S.out.QY mY.out dG⟩, S.out.below⟩
def oV (w0 : World) (gw j : Nat) (W : World) : Prop := Below w0.heap.size w0 W ∧ ∃ (n : Int) (v : Value) (ls : List dF), W.heap[gw]? = some (.cells #[.int .i64 n, v] 182 (0, 0)) ∧ Kd.R k23 23 W w0.heap.size (fun _ => True) v ls ∧ ls.length ≤ j
def Fr (gw : Nat) (W W' : World) : Prop := ∀ k cs t, k ≠ gw → t ≠ 23 → W.heap[k]? = some (.cells cs t (0, 0)) → W'.heap[k]? = some (.cells cs t (0, 0))
theorem Fr.refl (gw : Nat) (W : World) : Fr gw W W := fun _ _ _ _ _ h => h
theorem Fr.trans {gw : Nat} {W W1 W2 : World} (h : Fr gw W W1) (k : Fr gw W1 W2) : Fr gw W W2 := fun i cs t hi ht hb => k i cs t hi ht (h i cs t hi ht hb)
theorem Fr.below {gw : Nat} {W W1 : World} (h : Below W.heap.size W W1) : Fr gw W W1 := fun _ _ _ _ _ hb => aJ hb h
theorem Fr.store {gw : Nat} {W W1 : World} (h : W.grownBy W1 (some gw)) : Fr gw W W1 := fun _ _ _ hi _ hb => bP hb h (fun e => absurd (Option.some.inj e) hi)
theorem Fr.append {gw base : Nat} {W W1 : World} {v : Value} {xs : List dF} {ok : Nat → Prop} (hv : Kd.R k23 23 W base ok v xs) (h : W.grownBy W1 v.ownBlock) : Fr gw W W1 := fun _ _ _ _ ht hb => bP hb h (Kd.yL hv hb (fun e => ht e.symm))
theorem oV.below {w0 W W1 : World} {gw j : Nat} (h : oV w0 gw j W) (hb : Below W.heap.size W W1) : oV w0 gw j W1 := by
 obtain ⟨h1, n, v, ls, h2, h3, h4⟩ := h
 exact ⟨ak h1 hb, n, v, ls, aJ h2 hb, Kd.kU h3 hb, h4⟩
theorem oV.mono {w0 W : World} {gw j j' : Nat} (h : oV w0 gw j W) (hj : j ≤ j') : oV w0 gw j' W := by
 obtain ⟨h1, n, v, ls, h2, h3, h4⟩ := h
 exact ⟨h1, n, v, ls, h2, h3, Nat.le_trans h4 hj⟩
theorem abE (x : ai) (B : Option Addr) (cb b3 gw : Nat) (r : Bool) (R : World → Prop) (W : World) (hk : W.heap[b3]? = some (.cells #[.pointer (some ⟨gw, 0, none⟩)] 180 (0, 0)))
  (h : ∀ W1, Below W.heap.size W W1 → Calls Try.prog 197 #[.pointer (some ⟨gw, 0, none⟩), .agg #[.int .u8 x.f0, .int .i64 x.f1.f0, .int .i64 x.f1.f1, .int .i64 x.f1.f2, .int .i64 x.f1.f3, .int .i64 x.f2, .slice B x.f3.length cb]] W1 fun e w' => e = .returned (.bool r) ∧ R w') :
  Calls Try.prog 207 (#[.agg #[.int .u8 x.f0, .int .i64 x.f1.f0, .int .i64 x.f1.f1, .int .i64 x.f1.f2, .int .i64 x.f1.f3, .int .i64 x.f2, .slice B x.f3.length cb]] ++ #[.pointer (some ⟨b3, 0, none⟩)]) W fun e w' => e = .returned (.bool (!r)) ∧ R w' := by
 have HK := ae.mk hk
 have H := ae.mk h
 clear hk h
 simp only [List.append_toArray, List.cons_append, List.nil_append]
 cases r
 all_goals
  go_enter Try.func207, Try.ntmps207
  go_wp2_with (first
   | ((with_reducible refine ay (N := 2) rfl ?_); refine aG ?hg (N := 2) ?hd (cs := #[.int .u8 x.f0, .int .i64 x.f1.f0, .int .i64 x.f1.f1, .int .i64 x.f1.f2, .int .i64 x.f1.f3, .int .i64 x.f2, .slice B x.f3.length cb]) (t := 26) ?hr ?_; (case hd => rfl); (case hg => rfl); (case hr => first | (go_simp; done) | (go_simp; rfl)); intro b2 hg XU hbox hb; have lK := ae.mk hbox; have HB := ae.mk hb; have K3 := ae.mk (aJ HK.out hb); have d0 := (af K3.out 0).trans rfl; have c0 := (af lK.out 0).trans rfl; have c1 := (af lK.out 1).trans rfl; have c2 := (af lK.out 2).trans rfl; have c3 := (af lK.out 3).trans rfl; have c4 := (af lK.out 4).trans rfl; have c5 := (af lK.out 5).trans rfl; have c6 := (af lK.out 6).trans rfl; clear hb hbox hg)
   | fail)
  clear c0 c1 c2 c3 c4 c5 c6 d0
  refine (H.out _ HB.out).mono ?_
  rintro e w' ⟨rfl, hR⟩
  have HR := ae.mk hR
  clear hR
  go_wp2
  go_ret
  exact ⟨rfl, HR.out⟩
def pV.T5 : Bool × List (List Nat × List Nat) := (true, [([], []), ([], []), ([1], [1]), ([2], [2]), ([3], [3]), ([], []), ([4, 5], [4, 5]), ([0, 0, 1, 2, 3, 4, 5, 6], [0]), ([7, 0, 1, 2, 3, 4, 5, 6], [7]), ([8, 6, 6, 0, 1, 2, 3, 4, 5, 6], [6, 8])])
def pV.B5 : List Nat := [0, 0, 2, 6, 14, 0, 62, 127, 255, 511]
theorem pV.Oa : iJ .any (opsOf Try.f197 5) = pV.T5 := by kernel_rfl
theorem pV.FM : jm pV.T5.2 pV.B5 = true := by kernel_rfl
theorem aae (w0 : World) (gw : Nat) (hgw : w0.heap.size ≤ gw) : ∀ (N : Nat) (c : ai), sz c ≤ N → N ≤ 20000 → ∀ (A : Option Addr) (cc : Nat), Kd.C k26 w0 A c.f3.length c.f3 → c.f3.length ≤ cc → ∀ (j : Nat) (W : World), j + dM c.f3 ≤ 1000000 → oV w0 gw j W →
  Calls Try.prog 197 #[.pointer (some ⟨gw, 0, none⟩), .agg #[.int .u8 c.f0, .int .i64 c.f1.f0, .int .i64 c.f1.f1, .int .i64 c.f1.f2, .int .i64 c.f1.f3, .int .i64 c.f2, .slice A c.f3.length cc]] W fun e w' => e = .returned (.bool (kS c)) ∧ oV w0 gw (j + dM c.f3) w' ∧ Fr gw W w' := by
 intro N
 induction N with
 | zero => intro c h; rw [dB] at h; omega
 | succ N ih =>
  intro c hc hN A cc hr hlc j W hj hI
  have hsz := dB c
  have hlen := ku c.f3
  have Xw : ∀ (b2 j1 : Nat) (W1 : World), b2 ≠ gw → W1.heap[b2]? = some (.cells #[.pointer (some ⟨gw, 0, none⟩)] 180 (0, 0)) → oV w0 gw j1 W1 → j1 ≤ j + c.f3.length →
    Calls Try.prog 174 #[.slice A c.f3.length cc, .func (.func 207) #[] #[.pointer (some ⟨b2, 0, none⟩)]] W1 fun e w' => e = .returned (.bool (!(c.f3.all kS))) ∧ oV w0 gw (j + dM c.f3) w' ∧ Fr gw W1 w' := by
   intro b2 j1 W1 hne hk hi hj1
   have hcon := OZ (fun rest w' => (∃ i, oV w0 gw i w' ∧ i + dM rest ≤ (j + dM c.f3) + rest.length) ∧ Fr gw W1 w') (fun x => !kS x) 207 #[.pointer (some ⟨b2, 0, none⟩)] (pK Try.func207 (by decide +kernel) (by kernel_rfl)) c.f3 A cc w0 hr
    (fun s w' h => by obtain ⟨⟨i, h1, _⟩, _⟩ := h; exact h1.1)
    (fun s w' n h => by obtain ⟨⟨i, h1, h2⟩, h3⟩ := h; exact ⟨⟨i, h1.below (aQ (Below.refl _ _) n), h2⟩, h3.trans (Fr.below (aQ (Below.refl _ _) n))⟩)
    (fun x rest w' B cb hx hp h hCx hlx => by
     obtain ⟨⟨i, h1, h2⟩, h3⟩ := h
     obtain ⟨pre, hp⟩ := hp
     have e1 : dM c.f3 = dM pre + (sz x + dM rest) := by rw [← hp, jH, b_]
     have e2 := dB x
     have e3 := ku rest
     have e4 := ku pre
     rw [b_, List.length_cons] at h2
     refine (abE x B cb b2 gw (kS x) (fun w'' => oV w0 gw (i + dM x.f3) w'' ∧ Fr gw W1 w'') w' (h3 b2 _ 180 hne (by decide) hk) (fun W2 hb2 => ?_)).mono ?_
     ·refine (ih x (by omega) (by omega) B cb hCx hlx i W2 (by omega) (h1.below hb2)).mono ?_
      rintro e w'' ⟨he, hi2, hf⟩
      exact ⟨he, hi2, h3.trans ((Fr.below hb2).trans hf)⟩
     ·rintro e w'' ⟨he, hi2, hf⟩
      refine ⟨he, ⟨⟨i + dM x.f3, hi2, ?_⟩, hf⟩⟩
      split
      ·rw [lW]; show _ ≤ _ + 0; omega
      ·omega)
    W1 ⟨⟨j1, hi, by omega⟩, Fr.refl gw W1⟩ hr.2.1
   refine hcon.mono ?_
   rintro e w' ⟨he, ⟨i, h1, h2⟩, h3⟩
   rw [lW] at h2
   refine ⟨?_, h1.mono (by simpa using h2), h3⟩
   rw [he, List.not_all_eq_any_not]
  have hL : ∀ W1, Below w0.heap.size w0 W1 → Calls Try.prog 206 #[.agg #[.int .u8 c.f0, .int .i64 c.f1.f0, .int .i64 c.f1.f1, .int .i64 c.f1.f2, .int .i64 c.f1.f3, .int .i64 c.f2, .slice A c.f3.length cc]] W1 fun e w' => ∃ Au n cu, e = .returned (.tuple #[.slice Au n cu, .bool (l7 c)]) ∧ (l7 c = true → ∃ us : List dF, n = us.length ∧ us.length ≤ c.f3.length ∧ k23.R 23 w' W1.heap.size (fun _ => True) (.slice Au us.length cu) us) ∧ Below W1.heap.size W1 w' := fun W1 hb => Wh c (by omega) W1.heap.size (fun _ => True) A cc W1 (Kd.tK hlc (Kd.qW (Kd.Bj nz (Kd.dL hr hb)) (fun _ _ => trivial)))
  rw [rM]
  obtain ⟨hB, n, v, ls, hK, hV, hls⟩ := hI
  obtain ⟨Av, cv, ev⟩ := Kd.ja hV
  subst ev
  have HB := ae.mk hB
  have KW := ae.mk hK
  have RV := ae.mk hV
  have FR := ae.mk (Fr.refl gw W)
  have HGW := ae.mk hgw
  have Qh := ae.mk Xw
  have HL := ae.mk hL
  have OE := ae.mk hls
  have HJ := ae.mk hj
  have HN := ae.mk hlen
  clear hB hK hV Xw hL hls hj hlen hsz ih hr hlc hc hN
  obtain ⟨ck, ⟨cx, cy, cw, ch⟩, aV, l⟩ := c
  simp only [] at Qh HL HJ HN ⊢
  generalize l7 ⟨ck, ⟨cx, cy, cw, ch⟩, aV, l⟩ = q at HL ⊢
  generalize l.all kS = p at Qh ⊢
  cases q with
  | false =>
   rw [Bool.false_and]
   go_enter Try.func197, Try.ntmps197
   go_wp2_with (first
    | ((with_reducible refine ay (N := 2) rfl ?_); refine aG ?hg (N := 2) ?hd (cs := #[.pointer (some ⟨gw, 0, none⟩)]) (t := 180) ?hr ?_; (case hd => rfl); (case hg => rfl); (case hr => first | (go_simp; done) | (go_simp; rfl)); intro b2 hg XU hbox hb; have lK := ae.mk hbox; have Xh := ae.mk (show b2 ≠ gw by rw [hg]; exact Nat.ne_of_gt (eH KW.out)); have bY := ae.mk (ak HB.out hb); have o_ := ae.mk (aJ KW.out hb); have nG := ae.mk (Kd.kU RV.out hb); have nD := ae.mk (FR.out.trans (Fr.below hb)); clear HB KW RV FR; have HB := bY; have KW := o_; have RV := nG; have FR := nD; clear bY o_ nG nD; clear hb hbox hg)
    | ((with_reducible refine ay (N := 3) rfl ?_); refine aG ?hg (N := 3) ?hd (cs := #[.int .u8 ck, .int .i64 cx, .int .i64 cy, .int .i64 cw, .int .i64 ch, .int .i64 aV, .slice A l.length cc]) (t := 26) ?hr ?_; (case hd => rfl); (case hg => rfl); (case hr => first | (go_simp; done) | (go_simp; rfl)); intro b3 hg U_ hbox hb; have bU := ae.mk hbox; have NE3 := ae.mk (show b3 ≠ gw by rw [hg]; exact Nat.ne_of_gt (eH KW.out)); have bY := ae.mk (ak HB.out hb); have o_ := ae.mk (aJ KW.out hb); have nG := ae.mk (Kd.kU RV.out hb); have nD := ae.mk (FR.out.trans (Fr.below hb)); have oC := ae.mk (aJ lK.out hb); clear HB KW RV FR lK; have HB := bY; have KW := o_; have RV := nG; have FR := nD; have lK := oC; clear bY o_ nG nD oC; have c0 := (af bU.out 0).trans rfl; have c1 := (af bU.out 1).trans rfl; have c2 := (af bU.out 2).trans rfl; have c3 := (af bU.out 3).trans rfl; have c4 := (af bU.out 4).trans rfl; have c5 := (af bU.out 5).trans rfl; have c6 := (af bU.out 6).trans rfl; clear hb hbox hg)
    | fail)
   clear c0 c1 c2 c3 c4 c5 c6
   refine (HL.out _ HB.out).mono ?_
   rintro e w1 ⟨Au, nu, cu, rfl, _, hb⟩
   have bY := ae.mk (ak HB.out hb); have o_ := ae.mk (aJ KW.out hb); have nG := ae.mk (Kd.kU RV.out hb); have nD := ae.mk (FR.out.trans (Fr.below hb)); have oC := ae.mk (aJ lK.out hb); have uJ := ae.mk (aJ bU.out hb); clear HB KW RV FR lK bU; have HB := bY; have KW := o_; have RV := nG; have FR := nD; have lK := oC; have bU := uJ; clear bY o_ nG nD oC uJ
   clear hb
   go_wp2
   go_ret
   exact ⟨rfl, ⟨HB.out, n, _, ls, KW.out, RV.out, by have := OE.out; omega⟩, FR.out⟩
  | true =>
   rw [Bool.true_and]
   go_enter Try.func197, Try.ntmps197
   go_wp2_with (first
    | ((with_reducible refine ay (N := 2) rfl ?_); refine aG ?hg (N := 2) ?hd (cs := #[.pointer (some ⟨gw, 0, none⟩)]) (t := 180) ?hr ?_; (case hd => rfl); (case hg => rfl); (case hr => first | (go_simp; done) | (go_simp; rfl)); intro b2 hg XU hbox hb; have lK := ae.mk hbox; have Xh := ae.mk (show b2 ≠ gw by rw [hg]; exact Nat.ne_of_gt (eH KW.out)); have bY := ae.mk (ak HB.out hb); have o_ := ae.mk (aJ KW.out hb); have nG := ae.mk (Kd.kU RV.out hb); have nD := ae.mk (FR.out.trans (Fr.below hb)); clear HB KW RV FR; have HB := bY; have KW := o_; have RV := nG; have FR := nD; clear bY o_ nG nD; clear hb hbox hg)
    | ((with_reducible refine ay (N := 3) rfl ?_); refine aG ?hg (N := 3) ?hd (cs := #[.int .u8 ck, .int .i64 cx, .int .i64 cy, .int .i64 cw, .int .i64 ch, .int .i64 aV, .slice A l.length cc]) (t := 26) ?hr ?_; (case hd => rfl); (case hg => rfl); (case hr => first | (go_simp; done) | (go_simp; rfl)); intro b3 hg U_ hbox hb; have bU := ae.mk hbox; have NE3 := ae.mk (show b3 ≠ gw by rw [hg]; exact Nat.ne_of_gt (eH KW.out)); have bY := ae.mk (ak HB.out hb); have o_ := ae.mk (aJ KW.out hb); have nG := ae.mk (Kd.kU RV.out hb); have nD := ae.mk (FR.out.trans (Fr.below hb)); have oC := ae.mk (aJ lK.out hb); clear HB KW RV FR lK; have HB := bY; have KW := o_; have RV := nG; have FR := nD; have lK := oC; clear bY o_ nG nD oC; have c0 := (af bU.out 0).trans rfl; have c1 := (af bU.out 1).trans rfl; have c2 := (af bU.out 2).trans rfl; have c3 := (af bU.out 3).trans rfl; have c4 := (af bU.out 4).trans rfl; have c5 := (af bU.out 5).trans rfl; have c6 := (af bU.out 6).trans rfl; clear hb hbox hg)
    | fail)
   clear c0 c1 c2 c3 c4 c5 c6
   refine (HL.out _ HB.out).mono ?_
   rintro e w1 ⟨Au, nu, cu, rfl, hu, hb⟩
   obtain ⟨us, eu, hul, hu2⟩ := hu trivial
   subst eu
   have nP := ae.mk hul
   have HU := ae.mk (Kd.qA hu2 HB.out.size)
   clear hul hu hu2
   have bY := ae.mk (ak HB.out hb); have o_ := ae.mk (aJ KW.out hb); have nG := ae.mk (Kd.kU RV.out hb); have nD := ae.mk (FR.out.trans (Fr.below hb)); have oC := ae.mk (aJ lK.out hb); have uJ := ae.mk (aJ bU.out hb); clear HB KW RV FR lK bU; have HB := bY; have KW := o_; have RV := nG; have FR := nD; have lK := oC; have bU := uJ; clear bY o_ nG nD oC uJ
   clear hb
   have d0 := (af lK.out 0).trans rfl
   have e0 := (af KW.out 0).trans rfl
   have e1 := (af KW.out 1).trans rfl
   go_wp2_with (first
    | ((with_reducible refine lq (.store 3 (.tmp 20) (.tmp 18)) rfl ?_); go_loud (refine fO (w0 := w0) rfl rfl 3 (.tmp 20) (.tmp 18) rfl (g := gw) (j := 0) (base := w0.heap.size) #[.int .i64 (wrap64 (n + 1)), .slice Av ls.length cv] (u := .int .i64 (wrap64 (n + 1))) (bF := [.int .i64 (wrap64 (n + 1))]) ?sA ?sX rfl ?sT ?s1 KW.out ?sJ rfl HB.out HB.out.size HGW.out ?_; (case sA => rfl); (case sX => rfl); (case sT => rfl); (case s1 => (simp [Value.oneCell'])); (case sJ => (first | decide | simp)); intro ws hbk hbb hgg; have nG := ae.mk (Kd.Es RV.out rfl hgg (fun k_ hk => hk ▸ Kd.yL RV.out KW.out (by decide))); have NU := ae.mk (Kd.Es HU.out rfl hgg (fun k_ hk => hk ▸ Kd.yL HU.out KW.out (by decide))); have nD := ae.mk (FR.out.trans (Fr.store hgg)); have oC := ae.mk (bP lK.out hgg (fun e_ => absurd (Option.some.inj e_) Xh.out)); have uJ := ae.mk (bP bU.out hgg (fun e_ => absurd (Option.some.inj e_) NE3.out)); clear RV HU FR lK bU; have RV := nG; have HU := NU; have FR := nD; have lK := oC; have bU := uJ; clear nG NU nD oC uJ; clear KW HB d0 e0 e1; have KW := ae.mk hbk; have HB := ae.mk hbb; clear hbk hbb hgg))
    | fail)
   have hb : Below ws.heap.size ws ws.drew := bC (Below.refl _ _)
   have bY := ae.mk (ak HB.out hb); have o_ := ae.mk (aJ KW.out hb); have nG := ae.mk (Kd.kU RV.out hb); have nD := ae.mk (FR.out.trans (Fr.below hb)); have oC := ae.mk (aJ lK.out hb); have uJ := ae.mk (aJ bU.out hb); have NU := ae.mk (Kd.kU HU.out hb); clear HB KW RV FR lK bU HU; have HB := bY; have KW := o_; have RV := nG; have FR := nD; have lK := oC; have bU := uJ; have HU := NU; clear bY o_ nG nD oC uJ NU
   clear hb
   refine jL (n := 10) (S := fun w' => Below w0.heap.size w0 w' ∧ w'.heap[b2]? = some (.cells #[.pointer (some ⟨gw, 0, none⟩)] 180 (0, 0)) ∧ w'.heap[gw]? = some (.cells #[.int .i64 (wrap64 (n + 1)), .slice Av ls.length cv] 182 (0, 0))) (ds := [9]) (bA 10 0) (by kernel_rfl) rfl rfl ⟨HB.out, lK.out, KW.out⟩ (fun hHeld => ?_); refine fP pV.Oa pV.FM (fun au fE => ?_)
   generalize ws.drew = wd at HB KW RV FR lK bU HU hHeld ⊢
   refine eQ 0 21 (bA 10 1) au fE hHeld ?_ (hv := by intro w' hs_; have c := (af hs_.2.1 0).trans rfl; go_simp; with_reducible rfl)
   refine eQ 1 22 (bA 10 3) au fE hHeld ?_ (hv := by intro w' hs_; have c := (af hs_.2.1 0).trans rfl; go_simp; with_reducible rfl)
   refine aC 2 23 (bA 10 7) au ?_
   refine aC 3 24 (bA 10 15) au ?_
   refine eQ 4 25 (bA 10 31) au fE hHeld ?_ (hv := by intro w' hs_; have c := (af hs_.2.2 1).trans rfl; go_simp; with_reducible rfl)
   refine aC 5 26 (bA 10 63) au ?_
   refine lI 6 (some 27) (bA 10 127) au (fun K hK => ?_)
   refine Kd.Bv k23 (w0 := w0) w0.heap.size (by rfl) (.tmp 25) (.tmp 26) 42 23 (.agg #[(.int .i64 0), (.int .i64 0), (.int .i64 0), (.int .i64 0)]) 32 rfl Try.underlying42 info23 rfl (by decide) (by omega) (.slice Av ls.length cv) ls us Au us.length cu (fun _ => True) (fun _ => False) rfl rfl RV.out (Kd.fD HU.out).2.2 (fun _ _ h => h) (fun _ h => h.elim) (fun _ _ => trivial) HB.out HB.out.size (by have h1 := OE.out; have h2 := nP.out; have h3 := HJ.out; have h4 := HN.out; omega) ?_
   intro v1 wk ho hb hg hat
   have q1 := ae.mk (FR.out.trans (Fr.append RV.out hg))
   have q2 := ae.mk (bP lK.out hg (Kd.yL RV.out lK.out (by decide)))
   have q3 := ae.mk (bP bU.out hg (Kd.yL RV.out bU.out (by decide)))
   have q4 := ae.mk (bP KW.out hg (Kd.yL RV.out KW.out (by decide)))
   clear FR lK bU KW HB RV HU
   have FR := q1
   have lK := q2
   have bU := q3
   have KW := q4
   have HB := ae.mk hb
   have RV := ae.mk ho
   clear q1 q2 q3 q4 hb ho hg hat
   obtain ⟨A1, c1, e1⟩ := Kd.ja RV.out
   subst e1
   refine hK.out _ _ ⟨HB.out, lK.out, KW.out⟩ (fun hHeld => ?_)
   clear hK K
   refine fK 27 ?_
   refine aC 7 28 (bA 10 255) au ?_
   refine aC 8 29 (bA 10 511) au ?_
   refine uG 9 none (bA 10 1023) au (fun K hK => ?_)
   obtain ⟨w9, BV⟩ : ∃ w9, w9 = wk.setCells gw 1 [.slice A1 (ls ++ us).length c1] := ⟨_, rfl⟩
   have hst := pJ (j := 1) (cs' := #[.int .i64 (wrap64 (n + 1)), .slice A1 (ls ++ us).length c1]) (bF := [.slice A1 (ls ++ us).length c1]) KW.out (by first | decide | simp) rfl
   rw [← BV] at hst
   refine Hl (w1 := w9) (by rfl) rfl ?_ ?_
   ·rw [BV]; exact Bc 42 (.tmp 29) (.tmp 27) rfl (cs := #[.int .i64 (wrap64 (n + 1)), .slice Av ls.length cv]) (t0 := 182) (bF := [.slice A1 (ls ++ us).length c1]) rfl rfl rfl (by kernel_rfl) (by simp [Value.oneCell']) KW.out (by first | decide | simp)
   have KJ := ae.mk (grown_below HB.out hst.2 HGW.out HB.out.size)
   have RV9 := ae.mk (Kd.Es RV.out rfl hst.2 (fun k_ hk => hk ▸ Kd.yL RV.out KW.out (by decide)))
   have FR9 := ae.mk (FR.out.trans (Fr.store hst.2))
   have K29 := ae.mk (bP lK.out hst.2 (fun e_ => absurd (Option.some.inj e_) Xh.out))
   have K39 := ae.mk (bP bU.out hst.2 (fun e_ => absurd (Option.some.inj e_) NE3.out))
   have KW9 := ae.mk hst.1
   clear hst
   refine hK.out _ _ ?_
   clear hK K BV
   refine lh (jb au.out (by kernel_rfl)) ?_
   have c6 := (af K39.out 6).trans rfl
   cases p
   all_goals
    go_wp2_with fail
    refine (Qh.out b2 (j + us.length) _ Xh.out K29.out ⟨KJ.out, _, _, _, KW9.out, RV9.out, by have := OE.out; rw [List.length_append]; omega⟩ (by have := nP.out; omega)).mono ?_
    rintro e w2 ⟨rfl, hi, hf⟩
    have HI := ae.mk hi
    have HF := ae.mk (FR9.out.trans hf)
    clear hi hf
    go_wp2
    go_ret
    exact ⟨rfl, HI.out, HF.out⟩
theorem acU : (Try.prog.info? 9).map (fun i => (i.zero, i.size, i.bytes)) = some (some (.string ⟨#[]⟩), 1, 16) := by kernel_rfl
theorem UE (e at_ : Int) (he : e ≠ 0) (w : World) : Calls Try.prog 196 #[.int .i64 e, .int .i64 at_] w fun x w' => (∃ t v, x = .returned (.iface t v)) ∧ Below w.heap.size w w' := by
 have hb : (e == 0) = false := beq_eq_false_iff_ne.mpr he
 clear he
 go_enter Try.func196, Try.ntmps196
 go_wp2
 go_ret
 exact ⟨⟨_, _, rfl⟩, aW (Below.refl _ _) _⟩
theorem VG (ad : Addr) (c0 : Nat) (l0 : List ByteArray) (hl : l0.length ≤ 1000) (w : World) (hr0 : Kd.C Kd.string w (some ad) l0.length l0) (hc0 : l0.length ≤ c0) :
  Calls Try.prog 205 #[.slice (some ad) l0.length c0] w fun e w' => ∃ A n c, e = .returned (.slice A n c) ∧ Below w.heap.size w w' := by
 have heq : ∀ W : World, (binOp .eql 190 (.slice (some ad) l0.length c0) (.slice none 0 0)).run Try.prog W = .ok (.bool false) W := fun W => Lib.run_eql_slice_nil W 190 9 (some ad) l0.length c0 0 0 Try.underlying190
 have HR := ae.mk hr0
 have HL := ae.mk hl
 clear hl hr0
 go_enter Try.func205, Try.ntmps205
 go_wp2_with (first | ((with_reducible refine ay (N := 5) rfl ?_); refine Kd.vN Kd.string w.heap.size 9 ?hg (N := 5) ?hd (xs := ([] : List ByteArray)) (inner := []) (ok := fun _ => True) (dY := fun _ => True) ?hr ?hp (fun _ hk => hk) trivial (Below.refl _ _) (Nat.le_refl _) (by simp) ?_; (case hd => rfl); (case hg => rfl); (case hr => (go_simp; done)); (case hp => exact bI.none _ _); intro v5 w5 ho hb o7 jQ; clear o7 jQ; have HO := ae.mk ho; have HB := ae.mk hb; clear ho hb; obtain ⟨Ao, co, eo⟩ := Kd.ja HO.out; subst eo) | ((with_reducible refine ni (b := .append) (xs := #[.tmp 5, .tmp 6]) rfl ?_); at_builtin; refine Kd.qo (Rr := Kd.string.K w) Kd.string (w0 := w) w.heap.size rfl (.tmp 5) (.tmp 6) 190 9 (.string ⟨#[]⟩) 16 rfl Try.underlying190 acU rfl (by decide) (by omega) (.slice Ao ([] : List ByteArray).length co) ([] : List ByteArray) l0 _ _ _ (fun _ => True) (fun _ => False) rfl rfl HO.out ?aR (fun _ _ h => h) (fun _ h => h.elim) (fun _ _ => trivial) HB.out HB.out.size ?aL ?_; (case aR => exact Kd.dL HR.out HB.out); (case aL => have := HL.out; simp; omega); intro v7 w7 ho hb o7 agf; have HO7 := ae.mk ho; have HB7 := ae.mk hb; clear ho hb o7 agf))
 obtain ⟨A7, c7, e7⟩ := Kd.ja HO7.out
 subst e7
 go_ret
 exact ⟨_, _, _, rfl, HB7.out⟩
theorem Xz (tv : TypeId) (v : Value) (ad : Addr) (c0 : Nat) (x : ByteArray) (w : World) (hr0 : Kd.C Kd.string w (some ad) 1 [x]) (hc0 : 1 ≤ c0) :
  Calls Try.prog 195 #[.iface tv v, .slice (some ad) 1 c0] w fun e w' => (∃ t u, e = .returned (.iface t u)) ∧ Below w.heap.size w w' := by
 have HCl := ae.mk (VG ad c0 [x] (by simp) w hr0 hc0)
 clear hr0
 go_enter Try.func195, Try.ntmps195
 go_wp2_with fail
 refine HCl.out.mono ?_
 rintro e w' ⟨A, n, c, rfl, hb⟩
 have HB := ae.mk hb
 clear hb
 go_wp2
 go_ret
 exact ⟨⟨_, _, rfl⟩, aW HB.out _⟩
section
variable {σ : Type} (step : σ → ai → Bool × σ)
mutual
def qF : ai → σ → Bool × σ
 | ⟨a, b, d, l⟩, s => if (step s ⟨a, b, d, l⟩).1 = true then qP l (step s ⟨a, b, d, l⟩).2 else (false, (step s ⟨a, b, d, l⟩).2)
def qP : List ai → σ → Bool × σ
 | [], s => (true, s)
 | k :: ks, s => if (qF k s).1 = true then qP ks (qF k s).2 else (false, (qF k s).2)
end
theorem OT (c : ai) (s : σ) : qF step c s = if (step s c).1 = true then qP step c.f3 (step s c).2 else (false, (step s c).2) := by cases c; simp [qF]
theorem Cf (s : σ) : qP step [] s = (true, s) := by simp [qP]
theorem GY (k : ai) (ks : List ai) (s : σ) : qP step (k :: ks) s = if (qF step k s).1 = true then qP step ks (qF step k s).2 else (false, (qF step k s).2) := by simp [qP]
theorem UT : ∀ (l : List ai) (s : σ), qR (fun s k => (!(qF step k s).1, (qF step k s).2)) s l = (!(qP step l s).1, (qP step l s).2) := by
 intro l
 induction l with
 | nil => intro s; rw [Cf]; rfl
 | cons k ks ih =>
  intro s
  rw [GY]
  simp only [qR]
  cases h : (qF step k s).1 with
  | true => simp [ih]
  | false => simp
def r_ : List ai → σ → Bool × σ
 | [], s => (true, s)
 | k :: ks, s => if (step s k).1 = true then r_ ks (step s k).2 else (false, (step s k).2)
theorem WO : ∀ (a b : List ai) (s : σ), r_ step (a ++ b) s = if (r_ step a s).1 = true then r_ step b (r_ step a s).2 else (false, (r_ step a s).2) := by
 intro a
 induction a with
 | nil => intro b s; simp [r_]
 | cons k ks ih =>
  intro b s
  simp only [List.cons_append, r_]
  by_cases h : (step s k).1 = true
  ·simp [h, ih]
  ·simp [h]
theorem Vs : ∀ (N : Nat), (∀ c : ai, sz c ≤ N → ∀ s, qF step c s = r_ step (dZ c) s) ∧ (∀ l : List ai, dM l ≤ N → ∀ s, qP step l s = r_ step (allL l) s) := by
 intro N
 induction N with
 | zero =>
  refine ⟨fun c h => ?_, fun l h => ?_⟩
  ·rw [dB] at h; omega
  ·cases l with
   | nil => intro s; rw [Cf, jW]; rfl
   | cons x xs => rw [b_, dB] at h; omega
 | succ N ih =>
  have hC : ∀ c : ai, sz c ≤ N + 1 → ∀ s, qF step c s = r_ step (dZ c) s := by
   intro c h s
   rw [dB] at h
   rw [OT, jY]
   simp only [r_]
   rw [ih.2 c.f3 (by omega)]
  refine ⟨hC, fun l => ?_⟩
  induction l with
  | nil => intro _ s; rw [Cf, jW]; rfl
  | cons x xs ihl =>
   intro h s
   rw [b_] at h
   rw [GY, g_, WO, hC x (by omega), ihl (by omega)]
end
theorem acT {σ : Type} (Inv : σ → World → Prop) (step : σ → ai → Bool × σ) (g : Nat) (lb : Array Value) (eg : ∀ args w, (callFunc g args).run Try.prog w = .ok (.enter g args) w) (l : List ai) (A : Option Addr) (c : Nat)
  (w0 : World) (hR : Kd.C k26 w0 A l.length l) (hW : ∀ s W, Inv s W → Below w0.heap.size w0 W) (hD : ∀ s W n, Inv s W → Inv s (W.drewN n))
  (hcall : ∀ s W (x : ai) (B : Option Addr) (cb : Nat), x ∈ l → Inv s W → Kd.C k26 w0 B x.f3.length x.f3 → x.f3.length ≤ cb → Calls Try.prog g (#[.agg #[.int .u8 x.f0, .int .i64 x.f1.f0, .int .i64 x.f1.f1, .int .i64 x.f1.f2, .int .i64 x.f1.f3, .int .i64 x.f2, .slice B x.f3.length cb]] ++ lb) W fun e w' => e = .returned (.bool (step s x).1) ∧ Inv (step s x).2 w')
  (s : σ) (w : World) (hI : Inv s w) (hl : l.length ≤ 9223372036854775807) :
  Calls Try.prog 192 #[.slice A l.length c, .func (.func g) #[] lb] w fun e w' => e = .returned (.int .i64 (kC step 0 s l).1) ∧ Inv (kC step 0 s l).2 w' := by
 have HR := ae.mk hR
 have HW := ae.mk hW
 have HI := ae.mk hI
 have uq := ae.mk hcall
 clear hR hW hcall hD hI
 go_enter Try.func192, Try.ntmps192
 go_wp2
 go_loopg [5, 8] l.length (fun gg _ v8 wr => ∃ (kk : Nat) (t : σ), kk ≤ l.length ∧ l.length - kk ≤ gg ∧ v8 = .int .i64 kk ∧ ae (Inv t wr) ∧ ae (kC step 0 s l = kC step kk t (l.drop kk)))
 case atStart => exact ⟨0, s, Nat.zero_le _, by omega, rfl, HI, ⟨by simp⟩⟩
 case round =>
  clear HI
  obtain ⟨kk, t, hkk, hg, rfl, HI, HS⟩ := hrel
  by_cases hlt : kk < l.length
  ·have hltz : (kk : Int) < (l.length : Int) := by omega
   obtain ⟨ad, B, cb, rfl, hc0, hc1, hc2, hc3, hc4, hc5, hc6, hlb, hgb⟩ := n_ HR.out (kk : Int) (by omega) (by omega)
   have hbw := HW.out t wr HI.out
   replace hc0 := (hbw.cell (World.block_lt_of_cell? w0 _ hc0)).trans hc0
   replace hc1 := (hbw.cell (World.block_lt_of_cell? w0 _ hc1)).trans hc1
   replace hc2 := (hbw.cell (World.block_lt_of_cell? w0 _ hc2)).trans hc2
   replace hc3 := (hbw.cell (World.block_lt_of_cell? w0 _ hc3)).trans hc3
   replace hc4 := (hbw.cell (World.block_lt_of_cell? w0 _ hc4)).trans hc4
   replace hc5 := (hbw.cell (World.block_lt_of_cell? w0 _ hc5)).trans hc5
   replace hc6 := (hbw.cell (World.block_lt_of_cell? w0 _ hc6)).trans hc6
   clear hbw
   have HX : ae (kC step kk t (l.drop kk) = if (step t (aj l (kk : Int))).1 = true then ((kk : Int), (step t (aj l (kk : Int))).2) else kC step ((kk + 1 : Nat) : Int) (step t (aj l (kk : Int))).2 (l.drop (kk + 1))) := ⟨PV step z26 l kk hlt t⟩
   have hmem : (aj l (kk : Int)) ∈ l := AY z26 l kk hlt
   have hcall := uq.out t wr _ B cb hmem HI.out hgb hlb
   clear hmem hgb hlb
   simp only [Int.toNat_natCast] at hc0 hc1 hc2 hc3 hc4 hc5 hc6
   generalize aj l (kk : Int) = x at hc0 hc1 hc2 hc3 hc4 hc5 hc6 HX hcall
   have HC := ae.mk hcall
   clear hcall
   cases hq : (step t x).1 with
   | true =>
    have h := HC.out
    rw [hq] at h
    have HH := ae.mk h
    have HQ := ae.mk hq
    clear hq HC h
    go_wp2_with fail
    refine HH.out.mono ?_
    rintro e w' ⟨rfl, hb'⟩
    have HB := ae.mk hb'
    clear hb'
    go_wp2
    go_ret
    rw [HS.out, HX.out, if_pos HQ.out]
    exact ⟨rfl, HB.out⟩
   | false =>
    have h := HC.out
    rw [hq] at h
    have HH := ae.mk h
    have HQ := ae.mk hq
    clear hq HC h
    go_wp2_with fail
    refine HH.out.mono ?_
    rintro e w' ⟨rfl, hb'⟩
    have HB := ae.mk hb'
    clear hb'
    go_wp2
    go_roundg (l.length - (kk + 1))
    case measure => omega
    case rel =>
     refine ⟨kk + 1, (step t x).2, by omega, by omega, by go_num, HB, ⟨?_⟩⟩
     rw [HS.out, HX.out, if_neg (by rw [HQ.out]; simp)]
  ·have hltz : ¬ (kk : Int) < (l.length : Int) := by omega
   go_wp2
   go_ret
   rw [HS.out, List.drop_eq_nil_of_le (by omega)]
   exact ⟨rfl, HI.out⟩
theorem Td {σ : Type} (Inv : σ → World → Prop) (step : σ → ai → Bool × σ) (g : Nat) (lb : Array Value) (eg : ∀ args w, (callFunc g args).run Try.prog w = .ok (.enter g args) w) (l : List ai) (A : Option Addr) (c : Nat)
  (w0 : World) (hR : Kd.C k26 w0 A l.length l) (hW : ∀ s W, Inv s W → Below w0.heap.size w0 W) (hD : ∀ s W n, Inv s W → Inv s (W.drewN n))
  (hcall : ∀ s W (x : ai) (B : Option Addr) (cb : Nat), x ∈ l → Inv s W → Kd.C k26 w0 B x.f3.length x.f3 → x.f3.length ≤ cb → Calls Try.prog g (#[.agg #[.int .u8 x.f0, .int .i64 x.f1.f0, .int .i64 x.f1.f1, .int .i64 x.f1.f2, .int .i64 x.f1.f3, .int .i64 x.f2, .slice B x.f3.length cb]] ++ lb) W fun e w' => e = .returned (.bool (step s x).1) ∧ Inv (step s x).2 w')
  (s : σ) (w : World) (hI : Inv s w) (hl : l.length ≤ 9223372036854775807) :
  Calls Try.prog 174 #[.slice A l.length c, .func (.func g) #[] lb] w fun e w' => e = .returned (.bool (qR step s l).1) ∧ Inv (qR step s l).2 w' := by
 have hi := acT Inv step g lb eg l A c w0 hR hW hD hcall s w hI hl
 rw [N8]
 clear hR hW hD hcall hI
 generalize kC step 0 s l = r at hi
 have HI := ae.mk hi
 clear hi
 go_enter Try.func174, Try.ntmps174
 go_wp2_with fail
 refine HI.out.mono ?_
 rintro e w' ⟨rfl, hb'⟩
 have HB := ae.mk hb'
 clear hb'
 go_wp2
 go_ret
 exact ⟨rfl, HB.out⟩
theorem PO (l : List ai) (A : Option Addr) (c : Nat) (g : Nat) (lb : Array Value) (Q : World → Prop) (b : Bool) (w : World)
  (h : Calls Try.prog 174 #[.slice A l.length c, .func (.func g) #[] lb] w fun e w' => e = .returned (.bool b) ∧ Q w') (hD : ∀ W n, Q W → Q (W.drewN n)) :
  Calls Try.prog 142 #[.slice A l.length c, .func (.func g) #[] lb] w fun e w' => e = .returned (.bool (!b)) ∧ Q w' := by
 have H := ae.mk h
 clear h hD
 cases b
 all_goals
  go_enter Try.func142, Try.ntmps142
  go_wp2_with fail
  refine H.out.mono ?_
  rintro e w' ⟨rfl, hb⟩
  have HB := ae.mk hb
  clear hb
  go_wp2
  go_ret
  exact ⟨rfl, HB.out⟩
structure Kp (S : Nat → Prop) (W W' : World) : Prop where
 size : W.heap.size ≤ W'.heap.size
 blk : ∀ k, k < W.heap.size → ¬ S k → W'.heap[k]? = W.heap[k]?
theorem Kp.refl (S : Nat → Prop) (W : World) : Kp S W W := ⟨Nat.le_refl _, fun _ _ _ => rfl⟩
theorem Kp.trans {S : Nat → Prop} {W W1 W2 : World} (h : Kp S W W1) (k : Kp S W1 W2) : Kp S W W2 := ⟨Nat.le_trans h.size k.size, fun i hi hs => (k.blk i (Nat.lt_of_lt_of_le hi h.size) hs).trans (h.blk i hi hs)⟩
theorem Kp.below {S : Nat → Prop} {W W1 : World} (h : Below W.heap.size W W1) : Kp S W W1 := ⟨h.size, fun i hi _ => h.block i hi⟩
theorem Kp.at {S : Nat → Prop} {W W1 : World} {g : Nat} {o : Obj} (h : Kp S W W1) (hb : W.heap[g]? = some o) (hs : ¬ S g) : W1.heap[g]? = some o := (h.blk g (eH hb) hs).trans hb
theorem abD (x : ai) (B : Option Addr) (cb g : Nat) (lb : Array Value) (b3 : Nat) (r : Bool) (R : World → Prop) (W : World) (hk : W.heap[b3]? = some (.cells #[.func (.func g) #[] lb] 27 (0, 0)))
  (h : ∀ W1, Below W.heap.size W W1 → Calls Try.prog 175 #[.agg #[.int .u8 x.f0, .int .i64 x.f1.f0, .int .i64 x.f1.f1, .int .i64 x.f1.f2, .int .i64 x.f1.f3, .int .i64 x.f2, .slice B x.f3.length cb], .func (.func g) #[] lb] W1 fun e w' => e = .returned (.bool r) ∧ R w') :
  Calls Try.prog 193 (#[.agg #[.int .u8 x.f0, .int .i64 x.f1.f0, .int .i64 x.f1.f1, .int .i64 x.f1.f2, .int .i64 x.f1.f3, .int .i64 x.f2, .slice B x.f3.length cb]] ++ #[.pointer (some ⟨b3, 0, none⟩)]) W fun e w' => e = .returned (.bool (!r)) ∧ R w' := by
 have HK := ae.mk hk
 have H := ae.mk h
 clear hk h
 simp only [List.append_toArray, List.cons_append, List.nil_append]
 cases r
 all_goals
  go_enter Try.func193, Try.ntmps193
  go_wp2_with (((with_reducible refine ay (N := 2) rfl ?_); refine aG ?hg (N := 2) ?hd (cs := #[.int .u8 x.f0, .int .i64 x.f1.f0, .int .i64 x.f1.f1, .int .i64 x.f1.f2, .int .i64 x.f1.f3, .int .i64 x.f2, .slice B x.f3.length cb]) (t := 26) ?hr ?_; (case hd => rfl); (case hg => rfl); (case hr => (go_simp; done)); intro b2 hg w2 hbox hb; have HB := ae.mk hb; have K2 := ae.mk hbox; have K3 := ae.mk (aJ HK.out hb); clear hb hbox hg; have c0 := (af K2.out 0).trans rfl; have c1 := (af K2.out 1).trans rfl; have c2 := (af K2.out 2).trans rfl; have c3 := (af K2.out 3).trans rfl; have c4 := (af K2.out 4).trans rfl; have c5 := (af K2.out 5).trans rfl; have c6 := (af K2.out 6).trans rfl; have d0 := (af K3.out 0).trans rfl))
  clear c0 c1 c2 c3 c4 c5 c6 d0
  refine (H.out _ HB.out).mono ?_
  rintro e w' ⟨rfl, hR⟩
  have HR := ae.mk hR
  clear hR
  go_wp2
  go_ret
  exact ⟨rfl, HR.out⟩
theorem aa' {σ : Type} (S : Nat → Prop) (Inv : σ → World → Prop) (step : σ → ai → Bool × σ) (g : Nat) (lb : Array Value) (eg : ∀ args w, (callFunc g args).run Try.prog w = .ok (.enter g args) w) (w0 : World)
  (hW : ∀ s W, Inv s W → Below w0.heap.size w0 W) (hB : ∀ s W W', Inv s W → Below W.heap.size W W' → Inv s W') (hS : ∀ s W, Inv s W → ∀ k, S k → k < W.heap.size)
  (hcall : ∀ s W (x : ai) (B : Option Addr) (cb : Nat), Inv s W → Kd.C k26 w0 B x.f3.length x.f3 → x.f3.length ≤ cb → Calls Try.prog g (#[.agg #[.int .u8 x.f0, .int .i64 x.f1.f0, .int .i64 x.f1.f1, .int .i64 x.f1.f2, .int .i64 x.f1.f3, .int .i64 x.f2, .slice B x.f3.length cb]] ++ lb) W fun e w' => e = .returned (.bool (step s x).1) ∧ Inv (step s x).2 w' ∧ Kp S W w') :
  ∀ (N : Nat) (c : ai), sz c ≤ N → ∀ (A : Option Addr) (cc : Nat), Kd.C k26 w0 A c.f3.length c.f3 → c.f3.length ≤ cc → ∀ s W, Inv s W →
   Calls Try.prog 175 #[.agg #[.int .u8 c.f0, .int .i64 c.f1.f0, .int .i64 c.f1.f1, .int .i64 c.f1.f2, .int .i64 c.f1.f3, .int .i64 c.f2, .slice A c.f3.length cc], .func (.func g) #[] lb] W fun e w' => e = .returned (.bool (qF step c s).1) ∧ Inv (qF step c s).2 w' ∧ Kp S W w' := by
 intro N
 induction N with
 | zero => intro c h; rw [dB] at h; omega
 | succ N ih =>
  intro c hc A cc hr hlc s W hI
  have hsz := dB c
  have Xx : ∀ (b3 : Nat) (s1 : σ) (W1 : World), Inv s1 W1 → W1.heap[b3]? = some (.cells #[.func (.func g) #[] lb] 27 (0, 0)) → ¬ S b3 →
    Calls Try.prog 142 #[.slice A c.f3.length cc, .func (.func 193) #[] #[.pointer (some ⟨b3, 0, none⟩)]] W1 fun e w' => e = .returned (.bool (qP step c.f3 s1).1) ∧ Inv (qP step c.f3 s1).2 w' ∧ Kp S W1 w' := by
   intro b3 s1 W1 hI1 hk3 hs3
   have hcon := Td (fun t w' => Inv t w' ∧ Kp S W1 w') (fun t k => (!(qF step k t).1, (qF step k t).2)) 193 #[.pointer (some ⟨b3, 0, none⟩)] (pK Try.func193 (by decide +kernel) (by kernel_rfl)) c.f3 A cc w0 hr (fun t w' h => hW t w' h.1)
    (fun t w' n h => ⟨hB t w' _ h.1 (aQ (Below.refl _ _) n), h.2.trans (Kp.below (aQ (Below.refl _ _) n))⟩)
    (fun t w' x B cb hx h hCx hlx => by
     refine abD x B cb g lb b3 _ _ w' (h.2.at hk3 hs3) (fun W2 hb2 => ?_)
     refine (ih x ?_ B cb hCx hlx t W2 (hB t w' W2 h.1 hb2)).mono fun e w'' ⟨he, hi, hk⟩ => ⟨he, hi, (h.2.trans (Kp.below hb2)).trans hk⟩
     have : sz x ≤ dM c.f3 := by
      obtain ⟨p, q, e⟩ := List.append_of_mem hx
      rw [e, jH, b_]; omega
     omega) s1 W1 ⟨hI1, Kp.refl S W1⟩ hr.2.1
   rw [UT] at hcon
   have := PO c.f3 A cc 193 _ _ _ W1 hcon (fun w' n h => ⟨hB _ w' _ h.1 (aQ (Below.refl _ _) n), h.2.trans (Kp.below (aQ (Below.refl _ _) n))⟩)
   rw [Bool.not_not] at this
   exact this
  have ab7 : ∀ k, S k → k < W.heap.size := hS s W hI
  have hE := OT step c s
  have hcl := fun W1 (h : Inv s W1) => hcall s W1 c A cc h hr hlc
  rcases hst : step s c with ⟨q, s1⟩
  rw [hst] at hE hcl
  simp only [] at hE hcl
  rw [hE]
  have HN := ae.mk fun b3 W1 => Xx b3 s1 W1
  have HI := ae.mk hI
  have uq := ae.mk hcl
  have Xa := ae.mk hB
  have HS := ae.mk hS
  have HS0 := ae.mk ab7
  have HK := ae.mk (Kp.refl S W)
  clear Xx hI hcall hB hS ih hr hlc hsz hc hW hE hcl hst ab7
  obtain ⟨ck, ⟨cx, cy, cw, ch⟩, aV, l⟩ := c
  simp only [] at HN uq ⊢
  generalize qP step l s1 = ns at HN ⊢
  obtain ⟨n1, n2⟩ := ns
  cases q with
  | false =>
   simp only [Bool.false_eq_true, if_false]
   clear HN
   go_enter Try.func175, Try.ntmps175
   go_wp2_with (first | ((with_reducible refine ay (N := 2) rfl ?_); refine aG ?hg (N := 2) ?hd (cs := #[.int .u8 ck, .int .i64 cx, .int .i64 cy, .int .i64 cw, .int .i64 ch, .int .i64 aV, .slice A l.length cc]) (t := 26) ?hr ?_; (case hd => rfl); (case hg => rfl); (case hr => (go_simp; done)); intro b2 hg XU hbox hb; have K2 := ae.mk hbox; have HS2 := ae.mk (show ¬ b2 < W.heap.size by rw [hg]; exact Nat.lt_irrefl _); have dQ := ae.mk (Xa.out _ _ _ HI.out hb); have dU := ae.mk (HK.out.trans (Kp.below hb)); clear HI HK; have HI := dQ; have HK := dU; clear dQ dU; clear hb hbox hg) | ((with_reducible refine ay (N := 3) rfl ?_); refine aG ?hg (N := 3) ?hd (cs := #[.func (.func g) #[] lb]) (t := 27) ?hr ?_; (case hd => rfl); (case hg => rfl); (case hr => (go_simp; done)); intro b3 hg U_ hbox hb; have K3 := ae.mk hbox; have ig := ae.mk (aJ K2.out hb); have NS := ae.mk (fun h => Nat.lt_irrefl _ (Nat.lt_of_lt_of_le (hg ▸ HS.out _ _ HI.out b3 h) (Nat.le_refl _)) : ¬ S b3); have NS2 := ae.mk (fun h => HS2.out (HS0.out b2 h) : ¬ S b2); clear K2; have K2 := ig; clear ig; have dQ := ae.mk (Xa.out _ _ _ HI.out hb); have dU := ae.mk (HK.out.trans (Kp.below hb)); clear HI HK; have HI := dQ; have HK := dU; clear dQ dU; clear hb hbox hg; have c0 := (af K2.out 0).trans rfl; have c1 := (af K2.out 1).trans rfl; have c2 := (af K2.out 2).trans rfl; have c3 := (af K2.out 3).trans rfl; have c4 := (af K2.out 4).trans rfl; have c5 := (af K2.out 5).trans rfl; have c6 := (af K2.out 6).trans rfl; have d0 := (af K3.out 0).trans rfl))
   clear c0 c1 c2 c3 c4 c5 c6 d0
   refine (uq.out _ HI.out).mono ?_
   rintro e w' ⟨rfl, hi, hk⟩
   have HI' := ae.mk hi
   have HK' := ae.mk (HK.out.trans hk)
   clear hi hk
   go_wp2
   go_ret
   exact ⟨rfl, HI'.out, HK'.out⟩
  | true =>
   simp only [if_true]
   cases n1
   all_goals
    go_enter Try.func175, Try.ntmps175
    go_wp2_with (first | ((with_reducible refine ay (N := 2) rfl ?_); refine aG ?hg (N := 2) ?hd (cs := #[.int .u8 ck, .int .i64 cx, .int .i64 cy, .int .i64 cw, .int .i64 ch, .int .i64 aV, .slice A l.length cc]) (t := 26) ?hr ?_; (case hd => rfl); (case hg => rfl); (case hr => (go_simp; done)); intro b2 hg XU hbox hb; have K2 := ae.mk hbox; have HS2 := ae.mk (show ¬ b2 < W.heap.size by rw [hg]; exact Nat.lt_irrefl _); have dQ := ae.mk (Xa.out _ _ _ HI.out hb); have dU := ae.mk (HK.out.trans (Kp.below hb)); clear HI HK; have HI := dQ; have HK := dU; clear dQ dU; clear hb hbox hg) | ((with_reducible refine ay (N := 3) rfl ?_); refine aG ?hg (N := 3) ?hd (cs := #[.func (.func g) #[] lb]) (t := 27) ?hr ?_; (case hd => rfl); (case hg => rfl); (case hr => (go_simp; done)); intro b3 hg U_ hbox hb; have K3 := ae.mk hbox; have ig := ae.mk (aJ K2.out hb); have NS := ae.mk (fun h => Nat.lt_irrefl _ (Nat.lt_of_lt_of_le (hg ▸ HS.out _ _ HI.out b3 h) (Nat.le_refl _)) : ¬ S b3); have NS2 := ae.mk (fun h => HS2.out (HS0.out b2 h) : ¬ S b2); clear K2; have K2 := ig; clear ig; have dQ := ae.mk (Xa.out _ _ _ HI.out hb); have dU := ae.mk (HK.out.trans (Kp.below hb)); clear HI HK; have HI := dQ; have HK := dU; clear dQ dU; clear hb hbox hg; have c0 := (af K2.out 0).trans rfl; have c1 := (af K2.out 1).trans rfl; have c2 := (af K2.out 2).trans rfl; have c3 := (af K2.out 3).trans rfl; have c4 := (af K2.out 4).trans rfl; have c5 := (af K2.out 5).trans rfl; have c6 := (af K2.out 6).trans rfl; have d0 := (af K3.out 0).trans rfl))
    clear c0 c1 c2 c3 c4 c5 c6 d0
    refine (uq.out _ HI.out).mono ?_
    rintro e w' ⟨rfl, hi, hk⟩
    have HI' := ae.mk hi
    have HK' := ae.mk (HK.out.trans hk)
    have K3' := ae.mk (hk.at K3.out NS.out)
    have K2' := ae.mk (hk.at K2.out NS2.out)
    clear hi hk
    have c6 : w'.cell? ⟨b2, 6, none⟩ = some (.slice A l.length cc) := (af K2'.out 6).trans rfl
    go_wp2_with fail
    clear c6
    refine (HN.out b3 w' HI'.out K3'.out NS.out).mono ?_
    rintro e w'' ⟨rfl, hi, hk⟩
    have HI2 := ae.mk hi
    have HK2 := ae.mk (HK'.out.trans hk)
    clear hi hk
    go_wp2
    go_ret
    exact ⟨rfl, HI2.out, HK2.out⟩
def uH (x : ai) : Bool := if x.f0 = 1 then decide (x.f3.length = 0) && (decide (0 ≤ x.f2) && decide (x.f2 ≤ 2147483647)) else if x.f0 = 2 ∨ x.f0 = 3 then decide (2 ≤ x.f3.length) && decide (x.f2 = 0) else false
theorem x_ (x : ai) : lC x = (uH x && jX x.f1) := by
 unfold lC uH
 by_cases h1 : x.f0 = 1
 ·simp [h1, Bool.and_comm, Bool.and_assoc]
 ·by_cases h2 : x.f0 = 2
  ·simp [h2, Bool.and_comm]
  ·by_cases h3 : x.f0 = 3
   ·simp [h3, Bool.and_comm]
   ·have : ¬ (1 ≤ x.f0 ∧ x.f0 ≤ 3) := by omega
    simp [h1, h2, h3, this]
def iR (s : Int × List Int) (x : ai) : Bool × (Int × List Int) :=
 if 20000 < wrap64 (s.1 + 1) then (false, (wrap64 (s.1 + 1), s.2))
 else if lC x = false then (false, (wrap64 (s.1 + 1), s.2))
 else if x.f0 = 1 then (if x.f2 ∈ s.2 then (false, (wrap64 (s.1 + 1), s.2)) else (true, (wrap64 (s.1 + 1), x.f2 :: s.2)))
 else (true, (wrap64 (s.1 + 1), s.2))
def lv (l : List ai) : List ai := l.filter fun x => decide (x.f0 = 1)
theorem Uz : ∀ (rest pre : List ai), (pre ++ rest).length ≤ 1048576 → pre.length ≤ 20000 → dH (lv pre) = true →
  (r_ iR rest ((pre.length : Int), ((lv pre).map (·.f2)).reverse)).1 = (decide (pre.length + rest.length ≤ 20000) && (rest.all lC && dH (lv (pre ++ rest)))) := by
 intro rest
 induction rest with
 | nil =>
  intro pre _ h2 h3
  simp [r_, h3]
  exact h2
 | cons x xs ih =>
  intro pre h1 h2 h3
  have hlen : (pre ++ x :: xs).length = pre.length + xs.length + 1 := by simp; omega
  have hw : wrap64 ((pre.length : Int) + 1) = ((pre.length + 1 : Nat) : Int) := (wq (by omega) (by omega)).trans (by omega)
  have hsp : pre ++ x :: xs = (pre ++ [x]) ++ xs := by simp
  simp only [r_]
  unfold iR
  simp only [hw]
  by_cases c1 : (20000 : Int) < ((pre.length + 1 : Nat) : Int)
  ·rw [if_pos c1]
   simp
   intro h
   omega
  ·rw [if_neg c1]
   cases c2 : lC x with
   | false => simp [c2]
   | true =>
    simp only [Bool.true_eq_false, if_false, List.all_cons, c2, Bool.true_and]
    have hl1 : (pre ++ [x]).length = pre.length + 1 := by simp
    have hcnt : decide (pre.length + (x :: xs).length ≤ 20000) = decide ((pre ++ [x]).length + xs.length ≤ 20000) := by
     rw [hl1, List.length_cons, decide_eq_decide]; omega
    rw [hcnt]
    by_cases c3 : x.f0 = 1
    ·rw [if_pos c3]
     have hlv : lv (pre ++ [x]) = lv pre ++ [x] := by simp [lv, c3]
     have hmem : x.f2 ∈ ((lv pre).map (·.f2)).reverse ↔ nT (lv pre) x = false := by
      simp [nT]
      constructor
      ·rintro ⟨y, hy, e⟩; exact ⟨y, hy, e.symm⟩
      ·rintro ⟨y, hy, e⟩; exact ⟨y, hy, e.symm⟩
     by_cases c4 : x.f2 ∈ ((lv pre).map (·.f2)).reverse
     ·rw [if_pos c4]
      have hd : dH (lv (pre ++ x :: xs)) = false := by
       rw [hsp]
       unfold lv
       rw [List.filter_append]
       apply xe
       have : List.filter (fun x => decide (x.f0 = 1)) (pre ++ [x]) = lv pre ++ [x] := hlv
       rw [this, qw, hmem.1 c4, Bool.and_false]
      simp [hd]
     ·rw [if_neg c4]
      have ha : nT (lv pre) x = true := by
       cases h : nT (lv pre) x with
       | true => rfl
       | false => exact absurd (hmem.2 h) c4
      have e := ih (pre ++ [x]) (by rw [← hsp]; exact h1) (by rw [hl1]; omega) (by rw [hlv, qw, h3, ha]; rfl)
      rw [hlv, List.map_append, List.reverse_append, hl1, ← hsp] at e
      simp only [if_true]
      rw [hl1]
      exact e
    ·rw [if_neg c3]
     have hlv : lv (pre ++ [x]) = lv pre := by simp [lv, c3]
     have e := ih (pre ++ [x]) (by rw [← hsp]; exact h1) (by rw [hl1]; omega) (by rw [hlv]; exact h3)
     rw [hlv, hl1, ← hsp] at e
     simp only [if_true]
     rw [hl1]
     exact e
theorem Vr (c : ai) (h : sz c ≤ 1048576) : (qF iR c (0, [])).1 = kD c := by
 rw [(Vs iR (sz c)).1 c (Nat.le_refl _)]
 have e := Uz (dZ c) [] (by rw [List.nil_append]; exact h) (by simp) rfl
 have e2 : (r_ iR (dZ c) (0, [])).1 = (decide (0 + (dZ c).length ≤ 20000) && ((dZ c).all lC && dH (lv ([] ++ dZ c)))) := e
 rw [e2, Nat.zero_add, List.nil_append]
 rfl
theorem Wn : ∀ (N : Nat) (l : List Int), l.Nodup → (∀ i ∈ l, 0 ≤ i ∧ i < (N : Int)) → l.length ≤ N := by
 intro N
 induction N with
 | zero =>
  intro l _ h
  cases l with
  | nil => simp
  | cons x xs => have := h x (by simp); omega
 | succ N ih =>
  intro l hn h
  have h1 := ih (l.filter fun i => decide (i ≠ (N : Int))) (hn.filter _) (fun i hi => by
   have h2 := List.mem_filter.1 hi
   have h3 := h i h2.1
   have h4 := of_decide_eq_true h2.2
   omega)
  have h5 : ∀ (m : List Int), m.Nodup → m.length ≤ (m.filter fun i => decide (i ≠ (N : Int))).length + 1 := by
   intro m
   induction m with
   | nil => intro _; simp
   | cons y ys ihm =>
    intro hm
    rw [List.nodup_cons] at hm
    by_cases hy : y = (N : Int)
    ·have : ys.filter (fun i => decide (i ≠ (N : Int))) = ys := by
      rw [List.filter_eq_self]
      intro i hi
      exact decide_eq_true (fun e => hm.1 (by rw [hy, ← e]; exact hi))
     rw [List.filter_cons_of_neg (by simp [hy]), this, List.length_cons]
     exact Nat.le_refl _
    ·rw [List.filter_cons_of_pos (by simpa using hy), List.length_cons, List.length_cons]
     have := ihm hm.2
     omega
  have := h5 l hn
  omega
def EW (ids : List Int) : DataW Unit := ids.foldr (fun i D => D.put (.int .i64 i) (.lit (.bool true))) (.map [])
theorem WQ : ∀ ids : List Int, Maps.IsMap (EW ids) := by
 intro ids
 induction ids with
 | nil => exact Maps.isMap_empty
 | cons x xs ih => exact Maps.IsMap.put ih _ _
theorem PY (i : Int) : ∀ ids : List Int, (EW ids).atKey (.int .i64 i) (.lit (.bool false)) = .lit (.bool (decide (i ∈ ids))) := by
 intro ids
 induction ids with
 | nil => rfl
 | cons x xs ih =>
  show (DataW.put (EW xs) (.int .i64 x) (.lit (.bool true))).atKey (.int .i64 i) (.lit (.bool false)) = _
  by_cases h : i = x
  ·subst h
   rw [Maps.atKey_put_same (WQ xs) (by simp [WideAt.IsKeyLit])]
   simp
  ·rw [Maps.atKey_put_other (by intro e; injection e with _ e; exact h e), ih]
   simp [h]
structure lD (w0 : World) (bn bm B : Nat) (s : Int × List Int) (W : World) : Prop where
 hn : W.heap[bn]? = some (.cells #[.int .i64 s.1] 3 (0, 0))
 hm : W.heap[bm]? = some (.cells #[.map (some B)] 161 (0, 0))
 map : W.ownsMap (H := Unit) Try.prog 3 (plainElem Try.prog 4) B s.2.length (EW s.2)
 below : Below w0.heap.size w0 W
 gn : w0.heap.size ≤ bn
 gB : w0.heap.size ≤ B
 nd : s.2.Nodup
 rg : ∀ i ∈ s.2, 0 ≤ i ∧ i ≤ 2147483647
theorem below_grown {W W' : World} (h : Below W.heap.size W W') : W.grownBy W' none := ⟨h.os, h.tape, h.output, h.size, fun k hk _ => h.block k hk⟩
theorem lD.step {w0 W W' : World} {bn bm B : Nat} {s : Int × List Int} (h : lD w0 bn bm B s W) (hb : Below W.heap.size W W') : lD w0 bn bm B s W' :=
 ⟨aJ h.hn hb, aJ h.hm hb, h.map.kept (below_grown hb) (by simp), ak h.below hb, h.gn, h.gB, h.nd, h.rg⟩
theorem lD.XE {w0 W : World} {bn bm B : Nat} {s : Int × List Int} (h : lD w0 bn bm B s W) : bn ≠ B ∧ bm ≠ B ∧ bm ≠ bn := by
 obtain ⟨es, cl, hB, _⟩ := h.map
 refine ⟨fun e => ?_, fun e => ?_, sF h.hm h.hn (by decide)⟩
 ·have := h.hn; rw [e, hB] at this; cases this
 ·have := h.hm; rw [e, hB] at this; cases this
def uu (bn B : Nat) (k : Nat) : Prop := k = bn ∨ k = B
section
variable {P : Program} {ops : Array Oper} {rest : List Oper} {o : Oper} {a : Act} {Q : Exit → Act → World → Prop}
theorem D_ (w : World) (hg : o.guard = none) (m x : Operand) (t : TypeId) (hop : o.op = Op.lookup t m x false)
  (k e : TypeId) (K : Maps.Keyed P k) (ht : P.underlying t = some (.map k e)) (he : P.underlying e = some .bool) (hz : (zeroValue e).run P w = .ok (.bool false) w) (b n : Nat) (D : DataW Unit)
  (hm : a.eval m = .map (some b)) (hown : w.ownsMap P k (plainElem P e) b n D) (key : Value) (kl : Lit) (hx : a.eval x = key) (hkey : keyOf P k key = some kl) (r : Bool) (hr : D.atKey kl (.lit (.bool false)) = .lit (.bool r))
  (hK : wpList P ops Q rest (a.put o.dst (.bool r)) w) : wpList P ops Q (o :: rest) a w := by
 refine wpList_plain hg fun K' hK' => ?_
 obtain ⟨v, ps, hrun, hv⟩ := hown.lookup K ht hz (plainElem_bool he false) hkey
 have hv2 : v = .bool r := by
  rw [hr] at hv
  unfold plainElem at hv
  rw [he] at hv
  cases v with
  | bool q =>
   simp only [Option.some.injEq, Prod.mk.injEq, DataW.lit.injEq, Lit.bool.injEq] at hv
   rw [hv.1]
  | _ => cases hv
 subst hv2
 unfold Oper.wp
 simp [execOp, hop, hm, hx, hrun, Result.andThen]
 exact hK' _ _ hK
end
theorem zn (x : ai) (B : Option Addr) (cb : Nat) (w : World) : Calls Try.prog 177 #[.agg #[.int .u8 x.f0, .int .i64 x.f1.f0, .int .i64 x.f1.f1, .int .i64 x.f1.f2, .int .i64 x.f1.f3, .int .i64 x.f2, .slice B x.f3.length cb]] w fun e w' => e = .returned (.bool (uH x)) ∧ Below w.heap.size w w' := by
 unfold uH
 by_cases k1 : x.f0 = 1
 ·rw [if_pos k1]
  have k1b : (x.f0 == 1) = true := beq_iff_eq.mpr k1
  clear k1
  by_cases l0 : x.f3.length = 0
  ·rw [decide_eq_true l0, Bool.true_and]
   have l1 : ((x.f3.length : Int) == 0) = true := by simp [l0]
   have l2 : (x.f3.length == 0) = true := by simp [l0]
   clear l0
   by_cases i0 : 0 ≤ x.f2
   ·rw [decide_eq_true i0, Bool.true_and]
    have Ul : decide (0 ≤ x.f2) = true := decide_eq_true i0
    by_cases i1 : x.f2 ≤ 2147483647
    ·rw [decide_eq_true i1]
     have i1b : decide (x.f2 ≤ 2147483647) = true := decide_eq_true i1
     go_enter Try.func177, Try.ntmps177
     go_wp2_with (((with_reducible refine ay (N := 1) rfl ?_); refine aG ?hg (N := 1) ?hd (cs := #[.int .u8 x.f0, .int .i64 x.f1.f0, .int .i64 x.f1.f1, .int .i64 x.f1.f2, .int .i64 x.f1.f3, .int .i64 x.f2, .slice B x.f3.length cb]) (t := 26) ?hr ?_; (case hd => rfl); (case hg => rfl); (case hr => (go_simp; done)); intro b1 hg w1 hbox hb; have HB := ae.mk hb; have K1 := ae.mk hbox; clear hb hbox hg; have c0 := (af K1.out 0).trans rfl; have c1 := (af K1.out 1).trans rfl; have c2 := (af K1.out 2).trans rfl; have c3 := (af K1.out 3).trans rfl; have c4 := (af K1.out 4).trans rfl; have c5 := (af K1.out 5).trans rfl; have c6 := (af K1.out 6).trans rfl))
     go_ret
     exact ⟨rfl, HB.out⟩
    ·rw [decide_eq_false i1]
     have i1b : decide (x.f2 ≤ 2147483647) = false := decide_eq_false i1
     go_enter Try.func177, Try.ntmps177
     go_wp2_with (((with_reducible refine ay (N := 1) rfl ?_); refine aG ?hg (N := 1) ?hd (cs := #[.int .u8 x.f0, .int .i64 x.f1.f0, .int .i64 x.f1.f1, .int .i64 x.f1.f2, .int .i64 x.f1.f3, .int .i64 x.f2, .slice B x.f3.length cb]) (t := 26) ?hr ?_; (case hd => rfl); (case hg => rfl); (case hr => (go_simp; done)); intro b1 hg w1 hbox hb; have HB := ae.mk hb; have K1 := ae.mk hbox; clear hb hbox hg; have c0 := (af K1.out 0).trans rfl; have c1 := (af K1.out 1).trans rfl; have c2 := (af K1.out 2).trans rfl; have c3 := (af K1.out 3).trans rfl; have c4 := (af K1.out 4).trans rfl; have c5 := (af K1.out 5).trans rfl; have c6 := (af K1.out 6).trans rfl))
     go_ret
     exact ⟨rfl, HB.out⟩
   ·rw [decide_eq_false i0, Bool.false_and]
    have Ul : decide (0 ≤ x.f2) = false := decide_eq_false i0
    go_enter Try.func177, Try.ntmps177
    go_wp2_with (((with_reducible refine ay (N := 1) rfl ?_); refine aG ?hg (N := 1) ?hd (cs := #[.int .u8 x.f0, .int .i64 x.f1.f0, .int .i64 x.f1.f1, .int .i64 x.f1.f2, .int .i64 x.f1.f3, .int .i64 x.f2, .slice B x.f3.length cb]) (t := 26) ?hr ?_; (case hd => rfl); (case hg => rfl); (case hr => (go_simp; done)); intro b1 hg w1 hbox hb; have HB := ae.mk hb; have K1 := ae.mk hbox; clear hb hbox hg; have c0 := (af K1.out 0).trans rfl; have c1 := (af K1.out 1).trans rfl; have c2 := (af K1.out 2).trans rfl; have c3 := (af K1.out 3).trans rfl; have c4 := (af K1.out 4).trans rfl; have c5 := (af K1.out 5).trans rfl; have c6 := (af K1.out 6).trans rfl))
    go_ret
    exact ⟨rfl, HB.out⟩
  ·rw [decide_eq_false l0, Bool.false_and]
   have l1 : ((x.f3.length : Int) == 0) = false := by simp; intro h; exact l0 (by simp [h])
   have l2 : (x.f3.length == 0) = false := by simpa using l0
   clear l0
   go_enter Try.func177, Try.ntmps177
   go_wp2_with (((with_reducible refine ay (N := 1) rfl ?_); refine aG ?hg (N := 1) ?hd (cs := #[.int .u8 x.f0, .int .i64 x.f1.f0, .int .i64 x.f1.f1, .int .i64 x.f1.f2, .int .i64 x.f1.f3, .int .i64 x.f2, .slice B x.f3.length cb]) (t := 26) ?hr ?_; (case hd => rfl); (case hg => rfl); (case hr => (go_simp; done)); intro b1 hg w1 hbox hb; have HB := ae.mk hb; have K1 := ae.mk hbox; clear hb hbox hg; have c0 := (af K1.out 0).trans rfl; have c1 := (af K1.out 1).trans rfl; have c2 := (af K1.out 2).trans rfl; have c3 := (af K1.out 3).trans rfl; have c4 := (af K1.out 4).trans rfl; have c5 := (af K1.out 5).trans rfl; have c6 := (af K1.out 6).trans rfl))
   go_ret
   exact ⟨rfl, HB.out⟩
 ·rw [if_neg k1]
  have k1b : (x.f0 == 1) = false := beq_eq_false_iff_ne.mpr k1
  by_cases k2 : x.f0 = 2
  ·rw [if_pos (.inl k2)]
   have k2b : (x.f0 == 2) = true := beq_iff_eq.mpr k2
   clear k2 k1
   by_cases l0 : 2 ≤ x.f3.length
   ·rw [decide_eq_true l0, Bool.true_and]
    have l1 : (2 : Int) ≤ (x.f3.length : Int) := by omega
    by_cases i0 : x.f2 = 0
    ·rw [decide_eq_true i0]
     have Ul : (x.f2 == 0) = true := beq_iff_eq.mpr i0
     clear i0
     go_enter Try.func177, Try.ntmps177
     go_wp2_with (((with_reducible refine ay (N := 1) rfl ?_); refine aG ?hg (N := 1) ?hd (cs := #[.int .u8 x.f0, .int .i64 x.f1.f0, .int .i64 x.f1.f1, .int .i64 x.f1.f2, .int .i64 x.f1.f3, .int .i64 x.f2, .slice B x.f3.length cb]) (t := 26) ?hr ?_; (case hd => rfl); (case hg => rfl); (case hr => (go_simp; done)); intro b1 hg w1 hbox hb; have HB := ae.mk hb; have K1 := ae.mk hbox; clear hb hbox hg; have c0 := (af K1.out 0).trans rfl; have c1 := (af K1.out 1).trans rfl; have c2 := (af K1.out 2).trans rfl; have c3 := (af K1.out 3).trans rfl; have c4 := (af K1.out 4).trans rfl; have c5 := (af K1.out 5).trans rfl; have c6 := (af K1.out 6).trans rfl))
     go_ret
     exact ⟨rfl, HB.out⟩
    ·rw [decide_eq_false i0]
     have Ul : (x.f2 == 0) = false := beq_eq_false_iff_ne.mpr i0
     clear i0
     go_enter Try.func177, Try.ntmps177
     go_wp2_with (((with_reducible refine ay (N := 1) rfl ?_); refine aG ?hg (N := 1) ?hd (cs := #[.int .u8 x.f0, .int .i64 x.f1.f0, .int .i64 x.f1.f1, .int .i64 x.f1.f2, .int .i64 x.f1.f3, .int .i64 x.f2, .slice B x.f3.length cb]) (t := 26) ?hr ?_; (case hd => rfl); (case hg => rfl); (case hr => (go_simp; done)); intro b1 hg w1 hbox hb; have HB := ae.mk hb; have K1 := ae.mk hbox; clear hb hbox hg; have c0 := (af K1.out 0).trans rfl; have c1 := (af K1.out 1).trans rfl; have c2 := (af K1.out 2).trans rfl; have c3 := (af K1.out 3).trans rfl; have c4 := (af K1.out 4).trans rfl; have c5 := (af K1.out 5).trans rfl; have c6 := (af K1.out 6).trans rfl))
     go_ret
     exact ⟨rfl, HB.out⟩
   ·rw [decide_eq_false l0, Bool.false_and]
    have l1 : ¬ (2 : Int) ≤ (x.f3.length : Int) := by omega
    go_enter Try.func177, Try.ntmps177
    go_wp2_with (((with_reducible refine ay (N := 1) rfl ?_); refine aG ?hg (N := 1) ?hd (cs := #[.int .u8 x.f0, .int .i64 x.f1.f0, .int .i64 x.f1.f1, .int .i64 x.f1.f2, .int .i64 x.f1.f3, .int .i64 x.f2, .slice B x.f3.length cb]) (t := 26) ?hr ?_; (case hd => rfl); (case hg => rfl); (case hr => (go_simp; done)); intro b1 hg w1 hbox hb; have HB := ae.mk hb; have K1 := ae.mk hbox; clear hb hbox hg; have c0 := (af K1.out 0).trans rfl; have c1 := (af K1.out 1).trans rfl; have c2 := (af K1.out 2).trans rfl; have c3 := (af K1.out 3).trans rfl; have c4 := (af K1.out 4).trans rfl; have c5 := (af K1.out 5).trans rfl; have c6 := (af K1.out 6).trans rfl))
    go_ret
    exact ⟨rfl, HB.out⟩
  ·by_cases k3 : x.f0 = 3
   ·rw [if_pos (.inr k3)]
    have k2b : (x.f0 == 2) = false := beq_eq_false_iff_ne.mpr k2
    have k3b : (x.f0 == 3) = true := beq_iff_eq.mpr k3
    clear k3 k2 k1
    by_cases l0 : 2 ≤ x.f3.length
    ·rw [decide_eq_true l0, Bool.true_and]
     have l1 : (2 : Int) ≤ (x.f3.length : Int) := by omega
     by_cases i0 : x.f2 = 0
     ·rw [decide_eq_true i0]
      have Ul : (x.f2 == 0) = true := beq_iff_eq.mpr i0
      clear i0
      go_enter Try.func177, Try.ntmps177
      go_wp2_with (((with_reducible refine ay (N := 1) rfl ?_); refine aG ?hg (N := 1) ?hd (cs := #[.int .u8 x.f0, .int .i64 x.f1.f0, .int .i64 x.f1.f1, .int .i64 x.f1.f2, .int .i64 x.f1.f3, .int .i64 x.f2, .slice B x.f3.length cb]) (t := 26) ?hr ?_; (case hd => rfl); (case hg => rfl); (case hr => (go_simp; done)); intro b1 hg w1 hbox hb; have HB := ae.mk hb; have K1 := ae.mk hbox; clear hb hbox hg; have c0 := (af K1.out 0).trans rfl; have c1 := (af K1.out 1).trans rfl; have c2 := (af K1.out 2).trans rfl; have c3 := (af K1.out 3).trans rfl; have c4 := (af K1.out 4).trans rfl; have c5 := (af K1.out 5).trans rfl; have c6 := (af K1.out 6).trans rfl))
      go_ret
      exact ⟨rfl, HB.out⟩
     ·rw [decide_eq_false i0]
      have Ul : (x.f2 == 0) = false := beq_eq_false_iff_ne.mpr i0
      clear i0
      go_enter Try.func177, Try.ntmps177
      go_wp2_with (((with_reducible refine ay (N := 1) rfl ?_); refine aG ?hg (N := 1) ?hd (cs := #[.int .u8 x.f0, .int .i64 x.f1.f0, .int .i64 x.f1.f1, .int .i64 x.f1.f2, .int .i64 x.f1.f3, .int .i64 x.f2, .slice B x.f3.length cb]) (t := 26) ?hr ?_; (case hd => rfl); (case hg => rfl); (case hr => (go_simp; done)); intro b1 hg w1 hbox hb; have HB := ae.mk hb; have K1 := ae.mk hbox; clear hb hbox hg; have c0 := (af K1.out 0).trans rfl; have c1 := (af K1.out 1).trans rfl; have c2 := (af K1.out 2).trans rfl; have c3 := (af K1.out 3).trans rfl; have c4 := (af K1.out 4).trans rfl; have c5 := (af K1.out 5).trans rfl; have c6 := (af K1.out 6).trans rfl))
      go_ret
      exact ⟨rfl, HB.out⟩
    ·rw [decide_eq_false l0, Bool.false_and]
     have l1 : ¬ (2 : Int) ≤ (x.f3.length : Int) := by omega
     go_enter Try.func177, Try.ntmps177
     go_wp2_with (((with_reducible refine ay (N := 1) rfl ?_); refine aG ?hg (N := 1) ?hd (cs := #[.int .u8 x.f0, .int .i64 x.f1.f0, .int .i64 x.f1.f1, .int .i64 x.f1.f2, .int .i64 x.f1.f3, .int .i64 x.f2, .slice B x.f3.length cb]) (t := 26) ?hr ?_; (case hd => rfl); (case hg => rfl); (case hr => (go_simp; done)); intro b1 hg w1 hbox hb; have HB := ae.mk hb; have K1 := ae.mk hbox; clear hb hbox hg; have c0 := (af K1.out 0).trans rfl; have c1 := (af K1.out 1).trans rfl; have c2 := (af K1.out 2).trans rfl; have c3 := (af K1.out 3).trans rfl; have c4 := (af K1.out 4).trans rfl; have c5 := (af K1.out 5).trans rfl; have c6 := (af K1.out 6).trans rfl))
     go_ret
     exact ⟨rfl, HB.out⟩
   ·rw [if_neg (fun h => h.elim k2 k3)]
    have k2b : (x.f0 == 2) = false := beq_eq_false_iff_ne.mpr k2
    have k3b : (x.f0 == 3) = false := beq_eq_false_iff_ne.mpr k3
    go_enter Try.func177, Try.ntmps177
    go_wp2_with (((with_reducible refine ay (N := 1) rfl ?_); refine aG ?hg (N := 1) ?hd (cs := #[.int .u8 x.f0, .int .i64 x.f1.f0, .int .i64 x.f1.f1, .int .i64 x.f1.f2, .int .i64 x.f1.f3, .int .i64 x.f2, .slice B x.f3.length cb]) (t := 26) ?hr ?_; (case hd => rfl); (case hg => rfl); (case hr => (go_simp; done)); intro b1 hg w1 hbox hb; have HB := ae.mk hb; have K1 := ae.mk hbox; clear hb hbox hg; have c0 := (af K1.out 0).trans rfl; have c1 := (af K1.out 1).trans rfl; have c2 := (af K1.out 2).trans rfl; have c3 := (af K1.out 3).trans rfl; have c4 := (af K1.out 4).trans rfl; have c5 := (af K1.out 5).trans rfl; have c6 := (af K1.out 6).trans rfl))
    go_ret
    exact ⟨rfl, HB.out⟩
theorem acR {σ : Type} (Inv : σ → World → Prop) (step : σ → dF → Bool × σ) (g : Nat) (lb : Array Value) (eg : ∀ args w, (callFunc g args).run Try.prog w = .ok (.enter g args) w) (l : List dF) (A : Option Addr) (c : Nat)
  (hR : ∀ s W, Inv s W → Kd.C k23 W A l.length l) (hD : ∀ s W n, Inv s W → Inv s (W.drewN n))
  (hcall : ∀ s W (x : dF), x ∈ l → Inv s W → Calls Try.prog g (#[.agg #[.int .i64 x.f0, .int .i64 x.f1, .int .i64 x.f2, .int .i64 x.f3]] ++ lb) W fun e w' => e = .returned (.bool (step s x).1) ∧ Inv (step s x).2 w')
  (s : σ) (w : World) (hI : Inv s w) (hl : l.length ≤ 9223372036854775807) :
  Calls Try.prog 173 #[.slice A l.length c, .func (.func g) #[] lb] w fun e w' => e = .returned (.int .i64 (kC step 0 s l).1) ∧ Inv (kC step 0 s l).2 w' := by
 have HR := ae.mk hR
 have HI := ae.mk hI
 have uq := ae.mk hcall
 clear hR hcall hD hI
 go_enter Try.func173, Try.ntmps173
 go_wp2
 go_loopg [5, 8] l.length (fun gg _ v8 wr => ∃ (kk : Nat) (t : σ), kk ≤ l.length ∧ l.length - kk ≤ gg ∧ v8 = .int .i64 kk ∧ ae (Inv t wr) ∧ ae (kC step 0 s l = kC step kk t (l.drop kk)))
 case atStart => exact ⟨0, s, Nat.zero_le _, by omega, rfl, HI, ⟨by simp⟩⟩
 case round =>
  clear HI
  obtain ⟨kk, t, hkk, hg, rfl, HI, HS⟩ := hrel
  by_cases hlt : kk < l.length
  ·have hltz : (kk : Int) < (l.length : Int) := by omega
   obtain ⟨ad, rfl, hc0, hc1, hc2, hc3⟩ := LV (HR.out t wr HI.out) (kk : Int) (by omega) (by omega)
   have HX : ae (kC step kk t (l.drop kk) = if (step t (pg l (kk : Int))).1 = true then ((kk : Int), (step t (pg l (kk : Int))).2) else kC step ((kk + 1 : Nat) : Int) (step t (pg l (kk : Int))).2 (l.drop (kk + 1))) := ⟨PV step z23 l kk hlt t⟩
   have hmem : (pg l (kk : Int)) ∈ l := AY z23 l kk hlt
   have hcall := uq.out t wr _ hmem HI.out
   clear hmem
   simp only [Int.toNat_natCast] at hc0 hc1 hc2 hc3
   generalize pg l (kk : Int) = x at hc0 hc1 hc2 hc3 HX hcall
   have HC := ae.mk hcall
   clear hcall
   cases hq : (step t x).1 with
   | true =>
    have h := HC.out
    rw [hq] at h
    have HH := ae.mk h
    have HQ := ae.mk hq
    clear hq HC h
    go_wp2_with fail
    refine HH.out.mono ?_
    rintro e w' ⟨rfl, hb'⟩
    have HB := ae.mk hb'
    clear hb'
    go_wp2
    go_ret
    rw [HS.out, HX.out, if_pos HQ.out]
    exact ⟨rfl, HB.out⟩
   | false =>
    have h := HC.out
    rw [hq] at h
    have HH := ae.mk h
    have HQ := ae.mk hq
    clear hq HC h
    go_wp2_with fail
    refine HH.out.mono ?_
    rintro e w' ⟨rfl, hb'⟩
    have HB := ae.mk hb'
    clear hb'
    go_wp2
    go_roundg (l.length - (kk + 1))
    case measure => omega
    case rel =>
     refine ⟨kk + 1, (step t x).2, by omega, by omega, by go_num, HB, ⟨?_⟩⟩
     rw [HS.out, HX.out, if_neg (by rw [HQ.out]; simp)]
  ·have hltz : ¬ (kk : Int) < (l.length : Int) := by omega
   go_wp2
   go_ret
   rw [HS.out, List.drop_eq_nil_of_le (by omega)]
   exact ⟨rfl, HI.out⟩
theorem abH {σ : Type} (Inv : σ → World → Prop) (step : σ → dF → Bool × σ) (g : Nat) (lb : Array Value) (eg : ∀ args w, (callFunc g args).run Try.prog w = .ok (.enter g args) w) (l : List dF) (A : Option Addr) (c : Nat)
  (hR : ∀ s W, Inv s W → Kd.C k23 W A l.length l) (hD : ∀ s W n, Inv s W → Inv s (W.drewN n))
  (hcall : ∀ s W (x : dF), x ∈ l → Inv s W → Calls Try.prog g (#[.agg #[.int .i64 x.f0, .int .i64 x.f1, .int .i64 x.f2, .int .i64 x.f3]] ++ lb) W fun e w' => e = .returned (.bool (step s x).1) ∧ Inv (step s x).2 w')
  (s : σ) (w : World) (hI : Inv s w) (hl : l.length ≤ 9223372036854775807) :
  Calls Try.prog 134 #[.slice A l.length c, .func (.func g) #[] lb] w fun e w' => e = .returned (.bool (qR step s l).1) ∧ Inv (qR step s l).2 w' := by
 have hi := acR Inv step g lb eg l A c hR hD hcall s w hI hl
 rw [N8]
 clear hR hD hcall hI
 generalize kC step 0 s l = r at hi
 have HI := ae.mk hi
 clear hi
 go_enter Try.func134, Try.ntmps134
 go_wp2_with fail
 refine HI.out.mono ?_
 rintro e w' ⟨rfl, hb'⟩
 have HB := ae.mk hb'
 clear hb'
 go_wp2
 go_ret
 exact ⟨rfl, HB.out⟩
theorem may1 (x : dF) (w : World) : Calls Try.prog 138 #[.agg #[.int .i64 x.f0, .int .i64 x.f1, .int .i64 x.f2, .int .i64 x.f3]] w fun e w' => e = .returned (.bool (!jX x)) ∧ Below w.heap.size w w' := by
 have hc := fun W => vH.calls x.f0 x.f1 x.f2 x.f3 (jX x) W (NH _ _ _ _)
 have HC := ae.mk hc
 clear hc
 cases hm : jX x with
 | true =>
  rw [hm] at HC
  clear hm
  go_enter Try.func138, Try.ntmps138
  go_wp2_with fail
  refine (HC.out _).mono ?_
  rintro e w' ⟨rfl, hb⟩
  have HB := ae.mk hb
  clear hb
  go_wp2
  go_ret
  exact ⟨rfl, uA (aW (Below.refl _ _) _) (by simp) HB.out⟩
 | false =>
  rw [hm] at HC
  clear hm
  go_enter Try.func138, Try.ntmps138
  go_wp2_with fail
  refine (HC.out _).mono ?_
  rintro e w' ⟨rfl, hb⟩
  have HB := ae.mk hb
  clear hb
  go_wp2
  go_ret
  exact ⟨rfl, uA (aW (Below.refl _ _) _) (by simp) HB.out⟩
def kP.f (l0 : List (dF)) : Option Bool := some (l0.all jX)
theorem kP.calls (A0 : Option Addr) (c0 : Nat) (l0 : List (dF)) (r : Bool) (w : World) (hr0 : Kd.C k23 w A0 l0.length l0) (afW : l0.length ≤ c0) (h : kP.f l0 = some r) :
  Calls Try.prog 68 #[.slice A0 l0.length c0] w fun e w' => e = .returned (.bool r) ∧ Below w.heap.size w w' := by
 have hcon := abH (fun (_ : Unit) W => Below w.heap.size w W) (fun _ x => (!jX x, ())) 138 #[] (pK Try.func138 (by decide +kernel) (by kernel_rfl)) l0 A0 c0 (fun _ W hW => Kd.dL hr0 hW) (fun _ W n hW => aQ hW n)
  (fun _ W x _ hW => by
   rw [show (#[Value.agg #[.int .i64 x.f0, .int .i64 x.f1, .int .i64 x.f2, .int .i64 x.f3]] ++ #[] : Array Value) = #[.agg #[.int .i64 x.f0, .int .i64 x.f1, .int .i64 x.f2, .int .i64 x.f3]] by simp]
   exact (may1 x W).mono fun e w' ⟨he, hb⟩ => ⟨he, uA hW hW.size hb⟩) () w (Below.refl _ _) hr0.2.1
 rw [JU] at hcon
 have e1 : r = !(l0.any fun x => !jX x) := by
  injection h with h
  rw [← h]
  clear h hcon hr0 afW
  induction l0 with
  | nil => rfl
  | cons x xs ih => simp only [List.all_cons, List.any_cons, ih, Bool.not_or, Bool.not_not]
 subst e1
 generalize (l0.any fun x => !jX x) = b at hcon
 have HC := ae.mk hcon
 clear hcon h hr0
 go_enter Try.func68, Try.ntmps68
 go_wp2_with fail
 refine HC.out.mono ?_
 rintro e w' ⟨rfl, hb⟩
 have HB := ae.mk hb
 clear hb
 go_wp2
 go_ret
 exact ⟨rfl, HB.out⟩
theorem Kp.grown {S : Nat → Prop} {W W1 : World} {g : Nat} (h : W.grownBy W1 (some g)) (hs : S g) : Kp S W W1 := ⟨h.size, fun k hk hn => h.block k hk (fun e => hn (by injection e with e; rw [e]; exact hs))⟩
theorem lD.count {w0 W W1 : World} {bn bm B : Nat} {s : Int × List Int} {n : Int} (h : lD w0 bn bm B s W) (hk : W1.heap[bn]? = some (.cells #[.int .i64 n] 3 (0, 0))) (hb : Below w0.heap.size w0 W1) (hg : W.grownBy W1 (some bn)) : lD w0 bn bm B (n, s.2) W1 :=
 ⟨hk, bP h.hm hg (fun e => h.XE.2.2 (Option.some.inj e)), h.map.kept hg (fun e => h.XE.1 (Option.some.inj e).symm), hb, h.gn, h.gB, h.nd, h.rg⟩
theorem lD.met {w0 W W1 : World} {bn bm B : Nat} {s : Int × List Int} {i : Int} (h : lD w0 bn bm B s W) (hm : W1.ownsMap (H := Unit) Try.prog 3 (plainElem Try.prog 4) B (s.2.length + 1) ((EW s.2).put (.int .i64 i) (.lit (.bool true)))) (hg : W.grownBy W1 (some B)) (hi : i ∉ s.2) (h0 : 0 ≤ i) (h1 : i ≤ 2147483647) : lD w0 bn bm B (s.1, i :: s.2) W1 :=
 ⟨bP h.hn hg (fun e => h.XE.1 (Option.some.inj e)), bP h.hm hg (fun e => h.XE.2.1 (Option.some.inj e)), hm, grown_below h.below hg h.gB h.below.size, h.gn, h.gB, List.nodup_cons.2 ⟨hi, h.nd⟩, fun j hj => by
  rcases List.mem_cons.1 hj with rfl | hj
  ·exact ⟨h0, h1⟩
  ·exact h.rg j hj⟩
theorem XW (w : World) : (zeroValue 4).run Try.prog w = .ok (.bool false) w := by kernel_rfl
theorem aez (w0 : World) (bn bm B : Nat) (s : Int × List Int) (W : World) (x : ai) (A : Option Addr) (cb : Nat) (hI : lD w0 bn bm B s W) (h1 : 20000 < wrap64 (s.1 + 1)) :
  Calls Try.prog 176 (#[.agg #[.int .u8 x.f0, .int .i64 x.f1.f0, .int .i64 x.f1.f1, .int .i64 x.f1.f2, .int .i64 x.f1.f3, .int .i64 x.f2, .slice A x.f3.length cb]] ++ #[.pointer (some ⟨bn, 0, none⟩), .pointer (some ⟨bm, 0, none⟩)]) W fun e w' => e = .returned (.bool (iR s x).1) ∧ lD w0 bn bm B (iR s x).2 w' ∧ Kp (uu bn B) W w' := by
 rw [show iR s x = (false, (wrap64 (s.1 + 1), s.2)) from by unfold iR; rw [if_pos h1]]
 have HI := ae.mk hI
 have HK := ae.mk (Kp.refl (uu bn B) W)
 clear hI
 simp only [List.append_toArray, List.cons_append, List.nil_append]
 go_enter Try.func176, Try.ntmps176
 go_wp2_with (first | ((with_reducible refine ay (N := 3) rfl ?_); refine aG ?hg (N := 3) ?hd (cs := #[.int .u8 x.f0, .int .i64 x.f1.f0, .int .i64 x.f1.f1, .int .i64 x.f1.f2, .int .i64 x.f1.f3, .int .i64 x.f2, .slice A x.f3.length cb]) (t := 26) ?hr ?_; (case hd => rfl); (case hg => rfl); (case hr => (go_simp; done)); intro b3 hg w3 hbox hb; have K3 := ae.mk hbox; have dQ := ae.mk (HI.out.step hb); have dU := ae.mk (HK.out.trans (Kp.below hb)); clear HI HK; have HI := dQ; have HK := dU; clear dQ dU; clear hb hbox hg; have cn := (af HI.out.hn 0).trans rfl) | ((with_reducible refine lq (.store 3 (.tmp 1) (.tmp 6)) rfl ?_); go_loud (clear cn; refine fO (w0 := w0) rfl rfl 3 (.tmp 1) (.tmp 6) rfl (g := bn) (j := 0) (base := w0.heap.size) #[.int .i64 (wrap64 (s.1 + 1))] (u := .int .i64 (wrap64 (s.1 + 1))) (bF := [.int .i64 (wrap64 (s.1 + 1))]) ?sA ?sX rfl ?sT ?s1 HI.out.hn ?sJ rfl HI.out.below HI.out.below.size HI.out.gn ?_; (case sA => rfl); (case sX => rfl); (case sT => rfl); (case s1 => (simp [Value.oneCell'])); (case sJ => (simp)); intro ws hbk hbb hgg; have dQ := ae.mk (HI.out.count hbk hbb hgg); have dU := ae.mk (HK.out.trans (Kp.grown hgg (Or.inl rfl))); have ig := ae.mk (bP K3.out hgg (fun e_ => sF K3.out HI.out.hn (by decide) (Option.some.inj e_))); clear HI HK K3 hbk hbb hgg; have HI := dQ; have HK := dU; have K3 := ig; clear dQ dU ig; have cn := (af HI.out.hn 0).trans rfl; have c0 := (af K3.out 0).trans rfl; have c1 := (af K3.out 1).trans rfl; have c2 := (af K3.out 2).trans rfl; have c3 := (af K3.out 3).trans rfl; have c4 := (af K3.out 4).trans rfl; have c5 := (af K3.out 5).trans rfl; have c6 := (af K3.out 6).trans rfl)))
 go_ret
 exact ⟨rfl, HI.out, HK.out⟩
theorem aeA (w0 : World) (bn bm B : Nat) (s : Int × List Int) (W : World) (x : ai) (A : Option Addr) (cb : Nat) (hI : lD w0 bn bm B s W) (h1 : ¬ 20000 < wrap64 (s.1 + 1)) (h2 : uH x = false) :
  Calls Try.prog 176 (#[.agg #[.int .u8 x.f0, .int .i64 x.f1.f0, .int .i64 x.f1.f1, .int .i64 x.f1.f2, .int .i64 x.f1.f3, .int .i64 x.f2, .slice A x.f3.length cb]] ++ #[.pointer (some ⟨bn, 0, none⟩), .pointer (some ⟨bm, 0, none⟩)]) W fun e w' => e = .returned (.bool (iR s x).1) ∧ lD w0 bn bm B (iR s x).2 w' ∧ Kp (uu bn B) W w' := by
 rw [show iR s x = (false, (wrap64 (s.1 + 1), s.2)) from by unfold iR; rw [if_neg h1, x_, h2]; simp]
 have HN := ae.mk fun W => zn x A cb W
 rw [h2] at HN
 clear h2
 have HI := ae.mk hI
 have HK := ae.mk (Kp.refl (uu bn B) W)
 clear hI
 simp only [List.append_toArray, List.cons_append, List.nil_append]
 go_enter Try.func176, Try.ntmps176
 go_wp2_with (first | ((with_reducible refine ay (N := 3) rfl ?_); refine aG ?hg (N := 3) ?hd (cs := #[.int .u8 x.f0, .int .i64 x.f1.f0, .int .i64 x.f1.f1, .int .i64 x.f1.f2, .int .i64 x.f1.f3, .int .i64 x.f2, .slice A x.f3.length cb]) (t := 26) ?hr ?_; (case hd => rfl); (case hg => rfl); (case hr => (go_simp; done)); intro b3 hg w3 hbox hb; have K3 := ae.mk hbox; have dQ := ae.mk (HI.out.step hb); have dU := ae.mk (HK.out.trans (Kp.below hb)); clear HI HK; have HI := dQ; have HK := dU; clear dQ dU; clear hb hbox hg; have cn := (af HI.out.hn 0).trans rfl) | ((with_reducible refine lq (.store 3 (.tmp 1) (.tmp 6)) rfl ?_); go_loud (clear cn; refine fO (w0 := w0) rfl rfl 3 (.tmp 1) (.tmp 6) rfl (g := bn) (j := 0) (base := w0.heap.size) #[.int .i64 (wrap64 (s.1 + 1))] (u := .int .i64 (wrap64 (s.1 + 1))) (bF := [.int .i64 (wrap64 (s.1 + 1))]) ?sA ?sX rfl ?sT ?s1 HI.out.hn ?sJ rfl HI.out.below HI.out.below.size HI.out.gn ?_; (case sA => rfl); (case sX => rfl); (case sT => rfl); (case s1 => (simp [Value.oneCell'])); (case sJ => (simp)); intro ws hbk hbb hgg; have dQ := ae.mk (HI.out.count hbk hbb hgg); have dU := ae.mk (HK.out.trans (Kp.grown hgg (Or.inl rfl))); have ig := ae.mk (bP K3.out hgg (fun e_ => sF K3.out HI.out.hn (by decide) (Option.some.inj e_))); clear HI HK K3 hbk hbb hgg; have HI := dQ; have HK := dU; have K3 := ig; clear dQ dU ig; have cn := (af HI.out.hn 0).trans rfl; have c0 := (af K3.out 0).trans rfl; have c1 := (af K3.out 1).trans rfl; have c2 := (af K3.out 2).trans rfl; have c3 := (af K3.out 3).trans rfl; have c4 := (af K3.out 4).trans rfl; have c5 := (af K3.out 5).trans rfl; have c6 := (af K3.out 6).trans rfl)))
 clear cn
 clear c0 c1 c2 c3 c4 c5 c6
 refine (HN.out _).mono ?_
 rintro e wk ⟨rfl, hb⟩
 have ig := ae.mk (aJ K3.out hb)
 clear K3
 have K3 := ig
 clear ig
 have dQ := ae.mk (HI.out.step hb); have dU := ae.mk (HK.out.trans (Kp.below hb)); clear HI HK; have HI := dQ; have HK := dU; clear dQ dU
 clear hb
 go_wp2
 go_ret
 exact ⟨rfl, HI.out, HK.out⟩
theorem aeB (w0 : World) (bn bm B : Nat) (s : Int × List Int) (W : World) (x : ai) (A : Option Addr) (cb : Nat) (hI : lD w0 bn bm B s W) (h1 : ¬ 20000 < wrap64 (s.1 + 1)) (h2 : uH x = true) (h3 : jX x.f1 = false) :
  Calls Try.prog 176 (#[.agg #[.int .u8 x.f0, .int .i64 x.f1.f0, .int .i64 x.f1.f1, .int .i64 x.f1.f2, .int .i64 x.f1.f3, .int .i64 x.f2, .slice A x.f3.length cb]] ++ #[.pointer (some ⟨bn, 0, none⟩), .pointer (some ⟨bm, 0, none⟩)]) W fun e w' => e = .returned (.bool (iR s x).1) ∧ lD w0 bn bm B (iR s x).2 w' ∧ Kp (uu bn B) W w' := by
 rw [show iR s x = (false, (wrap64 (s.1 + 1), s.2)) from by unfold iR; rw [if_neg h1, x_, h2, h3]; simp]
 have HN := ae.mk fun W => zn x A cb W
 rw [h2] at HN
 clear h2
 have M1 := ae.mk (show kP.f [x.f1] = some false by simp [kP.f, h3])
 clear h3
 have HI := ae.mk hI
 have HK := ae.mk (Kp.refl (uu bn B) W)
 clear hI
 simp only [List.append_toArray, List.cons_append, List.nil_append]
 go_enter Try.func176, Try.ntmps176
 go_wp2_with (first | ((with_reducible refine ay (N := 3) rfl ?_); refine aG ?hg (N := 3) ?hd (cs := #[.int .u8 x.f0, .int .i64 x.f1.f0, .int .i64 x.f1.f1, .int .i64 x.f1.f2, .int .i64 x.f1.f3, .int .i64 x.f2, .slice A x.f3.length cb]) (t := 26) ?hr ?_; (case hd => rfl); (case hg => rfl); (case hr => (go_simp; done)); intro b3 hg w3 hbox hb; have K3 := ae.mk hbox; have dQ := ae.mk (HI.out.step hb); have dU := ae.mk (HK.out.trans (Kp.below hb)); clear HI HK; have HI := dQ; have HK := dU; clear dQ dU; clear hb hbox hg; have cn := (af HI.out.hn 0).trans rfl) | ((with_reducible refine lq (.store 3 (.tmp 1) (.tmp 6)) rfl ?_); go_loud (clear cn; refine fO (w0 := w0) rfl rfl 3 (.tmp 1) (.tmp 6) rfl (g := bn) (j := 0) (base := w0.heap.size) #[.int .i64 (wrap64 (s.1 + 1))] (u := .int .i64 (wrap64 (s.1 + 1))) (bF := [.int .i64 (wrap64 (s.1 + 1))]) ?sA ?sX rfl ?sT ?s1 HI.out.hn ?sJ rfl HI.out.below HI.out.below.size HI.out.gn ?_; (case sA => rfl); (case sX => rfl); (case sT => rfl); (case s1 => (simp [Value.oneCell'])); (case sJ => (simp)); intro ws hbk hbb hgg; have dQ := ae.mk (HI.out.count hbk hbb hgg); have dU := ae.mk (HK.out.trans (Kp.grown hgg (Or.inl rfl))); have ig := ae.mk (bP K3.out hgg (fun e_ => sF K3.out HI.out.hn (by decide) (Option.some.inj e_))); clear HI HK K3 hbk hbb hgg; have HI := dQ; have HK := dU; have K3 := ig; clear dQ dU ig; have cn := (af HI.out.hn 0).trans rfl; have c0 := (af K3.out 0).trans rfl; have c1 := (af K3.out 1).trans rfl; have c2 := (af K3.out 2).trans rfl; have c3 := (af K3.out 3).trans rfl; have c4 := (af K3.out 4).trans rfl; have c5 := (af K3.out 5).trans rfl; have c6 := (af K3.out 6).trans rfl)))
 clear cn
 clear c0 c1 c2 c3 c4 c5 c6
 refine (HN.out _).mono ?_
 rintro e wk ⟨rfl, hb⟩
 have ig := ae.mk (aJ K3.out hb)
 clear K3
 have K3 := ig
 clear ig
 have dQ := ae.mk (HI.out.step hb); have dU := ae.mk (HK.out.trans (Kp.below hb)); clear HI HK; have HI := dQ; have HK := dU; clear dQ dU
 clear hb
 have c0 := (af K3.out 0).trans rfl
 have c1 := (af K3.out 1).trans rfl
 have c2 := (af K3.out 2).trans rfl
 have c3 := (af K3.out 3).trans rfl
 have c4 := (af K3.out 4).trans rfl
 have c5 := (af K3.out 5).trans rfl
 have c6 := (af K3.out 6).trans rfl
 go_wp2_with (((with_reducible refine ay (N := 17) rfl ?_); (try (refine di (by rfl) ?_; dsimp only)); refine Kd.vN k23 _ 23 ?hg (N := 17) ?hd (xs := ([x.f1] : List dF)) (inner := [.int .i64 x.f1.f0, .int .i64 x.f1.f1, .int .i64 x.f1.f2, .int .i64 x.f1.f3]) (ok := fun _ => True) (dY := fun _ => True) ?hr ?hp (fun _ hk => hk) trivial (Below.refl _ _) (Nat.le_refl _) (by simp) ?_; (case hd => rfl); (case hg => rfl); (case hr => (go_simp; done)); (case hp => exact (bI.c4 (show Kd.M k23 _ _ _ x.f1 [.int .i64 x.f1.f0, .int .i64 x.f1.f1, .int .i64 x.f1.f2, .int .i64 x.f1.f3] from qB _ _ _ x.f1) (bI.none _ _))); intro vr wr ho hb o7 jQ; clear o7 jQ; obtain ⟨Ar, cr, er⟩ := Kd.ja ho; subst er; have ig := ae.mk (aJ K3.out hb); clear K3; have K3 := ig; clear ig; have dQ := ae.mk (HI.out.step hb); have dU := ae.mk (HK.out.trans (Kp.below hb)); clear HI HK; have HI := dQ; have HK := dU; clear dQ dU; have HR := ae.mk (Kd.fD ho).2.2; have LR := ae.mk (Kd.fD ho).2.1; clear ho hb))
 clear c0 c1 c2 c3 c4 c5 c6
 refine (kP.calls Ar cr [x.f1] false _ HR.out LR.out M1.out).mono ?_
 rintro e wk ⟨rfl, hb⟩
 have ig := ae.mk (aJ K3.out hb)
 clear K3
 have K3 := ig
 clear ig
 have dQ := ae.mk (HI.out.step hb); have dU := ae.mk (HK.out.trans (Kp.below hb)); clear HI HK; have HI := dQ; have HK := dU; clear dQ dU
 clear hb
 go_wp2
 go_ret
 exact ⟨rfl, HI.out, HK.out⟩
theorem aeC (w0 : World) (bn bm B : Nat) (s : Int × List Int) (W : World) (x : ai) (A : Option Addr) (cb : Nat) (hI : lD w0 bn bm B s W) (h1 : ¬ 20000 < wrap64 (s.1 + 1)) (h2 : uH x = true) (h3 : jX x.f1 = true) (h4 : x.f0 ≠ 1) :
  Calls Try.prog 176 (#[.agg #[.int .u8 x.f0, .int .i64 x.f1.f0, .int .i64 x.f1.f1, .int .i64 x.f1.f2, .int .i64 x.f1.f3, .int .i64 x.f2, .slice A x.f3.length cb]] ++ #[.pointer (some ⟨bn, 0, none⟩), .pointer (some ⟨bm, 0, none⟩)]) W fun e w' => e = .returned (.bool (iR s x).1) ∧ lD w0 bn bm B (iR s x).2 w' ∧ Kp (uu bn B) W w' := by
 rw [show iR s x = (true, (wrap64 (s.1 + 1), s.2)) from by unfold iR; rw [if_neg h1, x_, h2, h3, if_neg (by simp), if_neg h4]]
 have HN := ae.mk fun W => zn x A cb W
 rw [h2] at HN
 clear h2
 have M1 := ae.mk (show kP.f [x.f1] = some true by simp [kP.f, h3])
 clear h3
 have Gg : (x.f0 == 1) = false := beq_eq_false_iff_ne.mpr h4
 clear h4
 have HI := ae.mk hI
 have HK := ae.mk (Kp.refl (uu bn B) W)
 clear hI
 simp only [List.append_toArray, List.cons_append, List.nil_append]
 go_enter Try.func176, Try.ntmps176
 go_wp2_with (first | ((with_reducible refine ay (N := 3) rfl ?_); refine aG ?hg (N := 3) ?hd (cs := #[.int .u8 x.f0, .int .i64 x.f1.f0, .int .i64 x.f1.f1, .int .i64 x.f1.f2, .int .i64 x.f1.f3, .int .i64 x.f2, .slice A x.f3.length cb]) (t := 26) ?hr ?_; (case hd => rfl); (case hg => rfl); (case hr => (go_simp; done)); intro b3 hg w3 hbox hb; have K3 := ae.mk hbox; have dQ := ae.mk (HI.out.step hb); have dU := ae.mk (HK.out.trans (Kp.below hb)); clear HI HK; have HI := dQ; have HK := dU; clear dQ dU; clear hb hbox hg; have cn := (af HI.out.hn 0).trans rfl) | ((with_reducible refine lq (.store 3 (.tmp 1) (.tmp 6)) rfl ?_); go_loud (clear cn; refine fO (w0 := w0) rfl rfl 3 (.tmp 1) (.tmp 6) rfl (g := bn) (j := 0) (base := w0.heap.size) #[.int .i64 (wrap64 (s.1 + 1))] (u := .int .i64 (wrap64 (s.1 + 1))) (bF := [.int .i64 (wrap64 (s.1 + 1))]) ?sA ?sX rfl ?sT ?s1 HI.out.hn ?sJ rfl HI.out.below HI.out.below.size HI.out.gn ?_; (case sA => rfl); (case sX => rfl); (case sT => rfl); (case s1 => (simp [Value.oneCell'])); (case sJ => (simp)); intro ws hbk hbb hgg; have dQ := ae.mk (HI.out.count hbk hbb hgg); have dU := ae.mk (HK.out.trans (Kp.grown hgg (Or.inl rfl))); have ig := ae.mk (bP K3.out hgg (fun e_ => sF K3.out HI.out.hn (by decide) (Option.some.inj e_))); clear HI HK K3 hbk hbb hgg; have HI := dQ; have HK := dU; have K3 := ig; clear dQ dU ig; have cn := (af HI.out.hn 0).trans rfl; have c0 := (af K3.out 0).trans rfl; have c1 := (af K3.out 1).trans rfl; have c2 := (af K3.out 2).trans rfl; have c3 := (af K3.out 3).trans rfl; have c4 := (af K3.out 4).trans rfl; have c5 := (af K3.out 5).trans rfl; have c6 := (af K3.out 6).trans rfl)))
 clear cn
 clear c0 c1 c2 c3 c4 c5 c6
 refine (HN.out _).mono ?_
 rintro e wk ⟨rfl, hb⟩
 have ig := ae.mk (aJ K3.out hb)
 clear K3
 have K3 := ig
 clear ig
 have dQ := ae.mk (HI.out.step hb); have dU := ae.mk (HK.out.trans (Kp.below hb)); clear HI HK; have HI := dQ; have HK := dU; clear dQ dU
 clear hb
 have c0 := (af K3.out 0).trans rfl
 have c1 := (af K3.out 1).trans rfl
 have c2 := (af K3.out 2).trans rfl
 have c3 := (af K3.out 3).trans rfl
 have c4 := (af K3.out 4).trans rfl
 have c5 := (af K3.out 5).trans rfl
 have c6 := (af K3.out 6).trans rfl
 go_wp2_with (((with_reducible refine ay (N := 17) rfl ?_); (try (refine di (by rfl) ?_; dsimp only)); refine Kd.vN k23 _ 23 ?hg (N := 17) ?hd (xs := ([x.f1] : List dF)) (inner := [.int .i64 x.f1.f0, .int .i64 x.f1.f1, .int .i64 x.f1.f2, .int .i64 x.f1.f3]) (ok := fun _ => True) (dY := fun _ => True) ?hr ?hp (fun _ hk => hk) trivial (Below.refl _ _) (Nat.le_refl _) (by simp) ?_; (case hd => rfl); (case hg => rfl); (case hr => (go_simp; done)); (case hp => exact (bI.c4 (show Kd.M k23 _ _ _ x.f1 [.int .i64 x.f1.f0, .int .i64 x.f1.f1, .int .i64 x.f1.f2, .int .i64 x.f1.f3] from qB _ _ _ x.f1) (bI.none _ _))); intro vr wr ho hb o7 jQ; clear o7 jQ; obtain ⟨Ar, cr, er⟩ := Kd.ja ho; subst er; have ig := ae.mk (aJ K3.out hb); clear K3; have K3 := ig; clear ig; have dQ := ae.mk (HI.out.step hb); have dU := ae.mk (HK.out.trans (Kp.below hb)); clear HI HK; have HI := dQ; have HK := dU; clear dQ dU; have HR := ae.mk (Kd.fD ho).2.2; have LR := ae.mk (Kd.fD ho).2.1; clear ho hb))
 clear c0 c1 c2 c3 c4 c5 c6
 refine (kP.calls Ar cr [x.f1] true _ HR.out LR.out M1.out).mono ?_
 rintro e wk ⟨rfl, hb⟩
 have ig := ae.mk (aJ K3.out hb)
 clear K3
 have K3 := ig
 clear ig
 have dQ := ae.mk (HI.out.step hb); have dU := ae.mk (HK.out.trans (Kp.below hb)); clear HI HK; have HI := dQ; have HK := dU; clear dQ dU
 clear hb
 have c0 := (af K3.out 0).trans rfl
 have c1 := (af K3.out 1).trans rfl
 have c2 := (af K3.out 2).trans rfl
 have c3 := (af K3.out 3).trans rfl
 have c4 := (af K3.out 4).trans rfl
 have c5 := (af K3.out 5).trans rfl
 have c6 := (af K3.out 6).trans rfl
 go_wp2
 go_ret
 exact ⟨rfl, HI.out, HK.out⟩
theorem aeD (w0 : World) (bn bm B : Nat) (s : Int × List Int) (W : World) (x : ai) (A : Option Addr) (cb : Nat) (hI : lD w0 bn bm B s W) (h1 : ¬ 20000 < wrap64 (s.1 + 1)) (h2 : uH x = true) (h3 : jX x.f1 = true) (h4 : x.f0 = 1) (h5 : 0 ≤ x.f2) (h6 : x.f2 ≤ 2147483647) (h7 : x.f2 ∈ s.2) :
  Calls Try.prog 176 (#[.agg #[.int .u8 x.f0, .int .i64 x.f1.f0, .int .i64 x.f1.f1, .int .i64 x.f1.f2, .int .i64 x.f1.f3, .int .i64 x.f2, .slice A x.f3.length cb]] ++ #[.pointer (some ⟨bn, 0, none⟩), .pointer (some ⟨bm, 0, none⟩)]) W fun e w' => e = .returned (.bool (iR s x).1) ∧ lD w0 bn bm B (iR s x).2 w' ∧ Kp (uu bn B) W w' := by
 rw [show iR s x = (false, (wrap64 (s.1 + 1), s.2)) from by unfold iR; rw [if_neg h1, x_, h2, h3, if_neg (by simp), if_pos h4, if_pos h7]]
 have HN := ae.mk fun W => zn x A cb W
 rw [h2] at HN
 clear h2
 have M1 := ae.mk (show kP.f [x.f1] = some true by simp [kP.f, h3])
 clear h3
 have LK : ae ((EW s.2).atKey (.int .i64 x.f2) (.lit (.bool false)) = .lit (.bool true)) := ⟨by rw [PY, decide_eq_true h7]⟩
 clear h7
 have WF : ae ((Lit.int .i64 x.f2).wf = true) := ⟨WalkArith.wf_i64 (by omega)⟩
 have Gg : (x.f0 == 1) = true := beq_iff_eq.mpr h4
 clear h4 h5 h6
 have HI := ae.mk hI
 have HK := ae.mk (Kp.refl (uu bn B) W)
 clear hI
 simp only [List.append_toArray, List.cons_append, List.nil_append]
 go_enter Try.func176, Try.ntmps176
 go_wp2_with (first | ((with_reducible refine ay (N := 3) rfl ?_); refine aG ?hg (N := 3) ?hd (cs := #[.int .u8 x.f0, .int .i64 x.f1.f0, .int .i64 x.f1.f1, .int .i64 x.f1.f2, .int .i64 x.f1.f3, .int .i64 x.f2, .slice A x.f3.length cb]) (t := 26) ?hr ?_; (case hd => rfl); (case hg => rfl); (case hr => (go_simp; done)); intro b3 hg w3 hbox hb; have K3 := ae.mk hbox; have dQ := ae.mk (HI.out.step hb); have dU := ae.mk (HK.out.trans (Kp.below hb)); clear HI HK; have HI := dQ; have HK := dU; clear dQ dU; clear hb hbox hg; have cn := (af HI.out.hn 0).trans rfl) | ((with_reducible refine lq (.store 3 (.tmp 1) (.tmp 6)) rfl ?_); go_loud (clear cn; refine fO (w0 := w0) rfl rfl 3 (.tmp 1) (.tmp 6) rfl (g := bn) (j := 0) (base := w0.heap.size) #[.int .i64 (wrap64 (s.1 + 1))] (u := .int .i64 (wrap64 (s.1 + 1))) (bF := [.int .i64 (wrap64 (s.1 + 1))]) ?sA ?sX rfl ?sT ?s1 HI.out.hn ?sJ rfl HI.out.below HI.out.below.size HI.out.gn ?_; (case sA => rfl); (case sX => rfl); (case sT => rfl); (case s1 => (simp [Value.oneCell'])); (case sJ => (simp)); intro ws hbk hbb hgg; have dQ := ae.mk (HI.out.count hbk hbb hgg); have dU := ae.mk (HK.out.trans (Kp.grown hgg (Or.inl rfl))); have ig := ae.mk (bP K3.out hgg (fun e_ => sF K3.out HI.out.hn (by decide) (Option.some.inj e_))); clear HI HK K3 hbk hbb hgg; have HI := dQ; have HK := dU; have K3 := ig; clear dQ dU ig; have cn := (af HI.out.hn 0).trans rfl; have c0 := (af K3.out 0).trans rfl; have c1 := (af K3.out 1).trans rfl; have c2 := (af K3.out 2).trans rfl; have c3 := (af K3.out 3).trans rfl; have c4 := (af K3.out 4).trans rfl; have c5 := (af K3.out 5).trans rfl; have c6 := (af K3.out 6).trans rfl)))
 clear cn
 clear c0 c1 c2 c3 c4 c5 c6
 refine (HN.out _).mono ?_
 rintro e wk ⟨rfl, hb⟩
 have ig := ae.mk (aJ K3.out hb)
 clear K3
 have K3 := ig
 clear ig
 have dQ := ae.mk (HI.out.step hb); have dU := ae.mk (HK.out.trans (Kp.below hb)); clear HI HK; have HI := dQ; have HK := dU; clear dQ dU
 clear hb
 have c0 := (af K3.out 0).trans rfl
 have c1 := (af K3.out 1).trans rfl
 have c2 := (af K3.out 2).trans rfl
 have c3 := (af K3.out 3).trans rfl
 have c4 := (af K3.out 4).trans rfl
 have c5 := (af K3.out 5).trans rfl
 have c6 := (af K3.out 6).trans rfl
 go_wp2_with (((with_reducible refine ay (N := 17) rfl ?_); (try (refine di (by rfl) ?_; dsimp only)); refine Kd.vN k23 _ 23 ?hg (N := 17) ?hd (xs := ([x.f1] : List dF)) (inner := [.int .i64 x.f1.f0, .int .i64 x.f1.f1, .int .i64 x.f1.f2, .int .i64 x.f1.f3]) (ok := fun _ => True) (dY := fun _ => True) ?hr ?hp (fun _ hk => hk) trivial (Below.refl _ _) (Nat.le_refl _) (by simp) ?_; (case hd => rfl); (case hg => rfl); (case hr => (go_simp; done)); (case hp => exact (bI.c4 (show Kd.M k23 _ _ _ x.f1 [.int .i64 x.f1.f0, .int .i64 x.f1.f1, .int .i64 x.f1.f2, .int .i64 x.f1.f3] from qB _ _ _ x.f1) (bI.none _ _))); intro vr wr ho hb o7 jQ; clear o7 jQ; obtain ⟨Ar, cr, er⟩ := Kd.ja ho; subst er; have ig := ae.mk (aJ K3.out hb); clear K3; have K3 := ig; clear ig; have dQ := ae.mk (HI.out.step hb); have dU := ae.mk (HK.out.trans (Kp.below hb)); clear HI HK; have HI := dQ; have HK := dU; clear dQ dU; have HR := ae.mk (Kd.fD ho).2.2; have LR := ae.mk (Kd.fD ho).2.1; clear ho hb))
 clear c0 c1 c2 c3 c4 c5 c6
 refine (kP.calls Ar cr [x.f1] true _ HR.out LR.out M1.out).mono ?_
 rintro e wk ⟨rfl, hb⟩
 have ig := ae.mk (aJ K3.out hb)
 clear K3
 have K3 := ig
 clear ig
 have dQ := ae.mk (HI.out.step hb); have dU := ae.mk (HK.out.trans (Kp.below hb)); clear HI HK; have HI := dQ; have HK := dU; clear dQ dU
 clear hb
 have c0 := (af K3.out 0).trans rfl
 have c1 := (af K3.out 1).trans rfl
 have c2 := (af K3.out 2).trans rfl
 have c3 := (af K3.out 3).trans rfl
 have c4 := (af K3.out 4).trans rfl
 have c5 := (af K3.out 5).trans rfl
 have c6 := (af K3.out 6).trans rfl
 have cm := (af HI.out.hm 0).trans rfl
 go_wp2_with (((with_reducible refine ay (N := 29) rfl ?_); (try (refine di (by rfl) ?_; dsimp only)); refine D_ _ rfl _ _ 161 rfl 3 4 (Maps.int_keyed Try.underlying3) Try.underlying161 Try.underlying4 (XW _) B _ _ rfl HI.out.map _ (.int .i64 x.f2) rfl (Maps.keyOf_int_mk Try.underlying3 WF.out) true LK.out ?_))
 go_ret
 exact ⟨rfl, HI.out, HK.out⟩
theorem aeE (w0 : World) (bn bm B : Nat) (s : Int × List Int) (W : World) (x : ai) (A : Option Addr) (cb : Nat) (hI : lD w0 bn bm B s W) (h1 : ¬ 20000 < wrap64 (s.1 + 1)) (h2 : uH x = true) (h3 : jX x.f1 = true) (h4 : x.f0 = 1) (h5 : 0 ≤ x.f2) (h6 : x.f2 ≤ 2147483647) (h7 : x.f2 ∉ s.2) :
  Calls Try.prog 176 (#[.agg #[.int .u8 x.f0, .int .i64 x.f1.f0, .int .i64 x.f1.f1, .int .i64 x.f1.f2, .int .i64 x.f1.f3, .int .i64 x.f2, .slice A x.f3.length cb]] ++ #[.pointer (some ⟨bn, 0, none⟩), .pointer (some ⟨bm, 0, none⟩)]) W fun e w' => e = .returned (.bool (iR s x).1) ∧ lD w0 bn bm B (iR s x).2 w' ∧ Kp (uu bn B) W w' := by
 rw [show iR s x = (true, (wrap64 (s.1 + 1), x.f2 :: s.2)) from by unfold iR; rw [if_neg h1, x_, h2, h3, if_neg (by simp), if_pos h4, if_neg h7]]
 have HN := ae.mk fun W => zn x A cb W
 rw [h2] at HN
 clear h2
 have M1 := ae.mk (show kP.f [x.f1] = some true by simp [kP.f, h3])
 clear h3
 have LK : ae ((EW s.2).atKey (.int .i64 x.f2) (.lit (.bool false)) = .lit (.bool false)) := ⟨by rw [PY, decide_eq_false h7]⟩
 have NM := ae.mk h7
 clear h7
 have yx : ae (s.2.length < maxLen) := ⟨by have h8 := Wn 2147483648 s.2 hI.nd (fun i hi => by have := hI.rg i hi; omega); unfold maxLen; omega⟩
 have I0 := ae.mk h5
 have I1 := ae.mk h6
 have WF : ae ((Lit.int .i64 x.f2).wf = true) := ⟨WalkArith.wf_i64 (by omega)⟩
 have Gg : (x.f0 == 1) = true := beq_iff_eq.mpr h4
 clear h4 h5 h6
 have HI := ae.mk hI
 have HK := ae.mk (Kp.refl (uu bn B) W)
 clear hI
 simp only [List.append_toArray, List.cons_append, List.nil_append]
 go_enter Try.func176, Try.ntmps176
 go_wp2_with (first | ((with_reducible refine ay (N := 3) rfl ?_); refine aG ?hg (N := 3) ?hd (cs := #[.int .u8 x.f0, .int .i64 x.f1.f0, .int .i64 x.f1.f1, .int .i64 x.f1.f2, .int .i64 x.f1.f3, .int .i64 x.f2, .slice A x.f3.length cb]) (t := 26) ?hr ?_; (case hd => rfl); (case hg => rfl); (case hr => (go_simp; done)); intro b3 hg w3 hbox hb; have K3 := ae.mk hbox; have dQ := ae.mk (HI.out.step hb); have dU := ae.mk (HK.out.trans (Kp.below hb)); clear HI HK; have HI := dQ; have HK := dU; clear dQ dU; clear hb hbox hg; have cn := (af HI.out.hn 0).trans rfl) | ((with_reducible refine lq (.store 3 (.tmp 1) (.tmp 6)) rfl ?_); go_loud (clear cn; refine fO (w0 := w0) rfl rfl 3 (.tmp 1) (.tmp 6) rfl (g := bn) (j := 0) (base := w0.heap.size) #[.int .i64 (wrap64 (s.1 + 1))] (u := .int .i64 (wrap64 (s.1 + 1))) (bF := [.int .i64 (wrap64 (s.1 + 1))]) ?sA ?sX rfl ?sT ?s1 HI.out.hn ?sJ rfl HI.out.below HI.out.below.size HI.out.gn ?_; (case sA => rfl); (case sX => rfl); (case sT => rfl); (case s1 => (simp [Value.oneCell'])); (case sJ => (simp)); intro ws hbk hbb hgg; have dQ := ae.mk (HI.out.count hbk hbb hgg); have dU := ae.mk (HK.out.trans (Kp.grown hgg (Or.inl rfl))); have ig := ae.mk (bP K3.out hgg (fun e_ => sF K3.out HI.out.hn (by decide) (Option.some.inj e_))); clear HI HK K3 hbk hbb hgg; have HI := dQ; have HK := dU; have K3 := ig; clear dQ dU ig; have cn := (af HI.out.hn 0).trans rfl; have c0 := (af K3.out 0).trans rfl; have c1 := (af K3.out 1).trans rfl; have c2 := (af K3.out 2).trans rfl; have c3 := (af K3.out 3).trans rfl; have c4 := (af K3.out 4).trans rfl; have c5 := (af K3.out 5).trans rfl; have c6 := (af K3.out 6).trans rfl)))
 clear cn
 clear c0 c1 c2 c3 c4 c5 c6
 refine (HN.out _).mono ?_
 rintro e wk ⟨rfl, hb⟩
 have ig := ae.mk (aJ K3.out hb)
 clear K3
 have K3 := ig
 clear ig
 have dQ := ae.mk (HI.out.step hb); have dU := ae.mk (HK.out.trans (Kp.below hb)); clear HI HK; have HI := dQ; have HK := dU; clear dQ dU
 clear hb
 have c0 := (af K3.out 0).trans rfl
 have c1 := (af K3.out 1).trans rfl
 have c2 := (af K3.out 2).trans rfl
 have c3 := (af K3.out 3).trans rfl
 have c4 := (af K3.out 4).trans rfl
 have c5 := (af K3.out 5).trans rfl
 have c6 := (af K3.out 6).trans rfl
 go_wp2_with (((with_reducible refine ay (N := 17) rfl ?_); (try (refine di (by rfl) ?_; dsimp only)); refine Kd.vN k23 _ 23 ?hg (N := 17) ?hd (xs := ([x.f1] : List dF)) (inner := [.int .i64 x.f1.f0, .int .i64 x.f1.f1, .int .i64 x.f1.f2, .int .i64 x.f1.f3]) (ok := fun _ => True) (dY := fun _ => True) ?hr ?hp (fun _ hk => hk) trivial (Below.refl _ _) (Nat.le_refl _) (by simp) ?_; (case hd => rfl); (case hg => rfl); (case hr => (go_simp; done)); (case hp => exact (bI.c4 (show Kd.M k23 _ _ _ x.f1 [.int .i64 x.f1.f0, .int .i64 x.f1.f1, .int .i64 x.f1.f2, .int .i64 x.f1.f3] from qB _ _ _ x.f1) (bI.none _ _))); intro vr wr ho hb o7 jQ; clear o7 jQ; obtain ⟨Ar, cr, er⟩ := Kd.ja ho; subst er; have ig := ae.mk (aJ K3.out hb); clear K3; have K3 := ig; clear ig; have dQ := ae.mk (HI.out.step hb); have dU := ae.mk (HK.out.trans (Kp.below hb)); clear HI HK; have HI := dQ; have HK := dU; clear dQ dU; have HR := ae.mk (Kd.fD ho).2.2; have LR := ae.mk (Kd.fD ho).2.1; clear ho hb))
 clear c0 c1 c2 c3 c4 c5 c6
 refine (kP.calls Ar cr [x.f1] true _ HR.out LR.out M1.out).mono ?_
 rintro e wk ⟨rfl, hb⟩
 have ig := ae.mk (aJ K3.out hb)
 clear K3
 have K3 := ig
 clear ig
 have dQ := ae.mk (HI.out.step hb); have dU := ae.mk (HK.out.trans (Kp.below hb)); clear HI HK; have HI := dQ; have HK := dU; clear dQ dU
 clear hb
 have c0 := (af K3.out 0).trans rfl
 have c1 := (af K3.out 1).trans rfl
 have c2 := (af K3.out 2).trans rfl
 have c3 := (af K3.out 3).trans rfl
 have c4 := (af K3.out 4).trans rfl
 have c5 := (af K3.out 5).trans rfl
 have c6 := (af K3.out 6).trans rfl
 have cm := (af HI.out.hm 0).trans rfl
 go_wp2_with (first | ((with_reducible refine ay (N := 29) rfl ?_); (try (refine di (by rfl) ?_; dsimp only)); refine D_ _ rfl _ _ 161 rfl 3 4 (Maps.int_keyed Try.underlying3) Try.underlying161 Try.underlying4 (XW _) B _ _ rfl HI.out.map _ (.int .i64 x.f2) rfl (Maps.keyOf_int_mk Try.underlying3 WF.out) false LK.out ?_) | (at_mapUpdate; refine wpList_mapUpdate_own _ rfl _ _ _ 161 rfl 3 4 (Maps.int_keyed Try.underlying3) Try.underlying161 _ B _ _ rfl HI.out.map yx.out _ _ (.int .i64 x.f2) rfl rfl (Maps.keyOf_int_mk Try.underlying3 WF.out) (.lit (.bool true)) [] (plainElem_bool Try.underlying4 true) ?_; intro wu hown1 hgrow1; have dQ := ae.mk (HI.out.met hown1 hgrow1 NM.out I0.out I1.out); have dU := ae.mk (HK.out.trans (Kp.grown hgrow1 (Or.inr rfl))); clear HI HK hown1 hgrow1; have HI := dQ; have HK := dU; clear dQ dU))
 go_ret
 exact ⟨rfl, HI.out, HK.out⟩
theorem ac1 (w0 : World) (bn bm B : Nat) (s : Int × List Int) (W : World) (x : ai) (A : Option Addr) (cb : Nat) (hI : lD w0 bn bm B s W) :
  Calls Try.prog 176 (#[.agg #[.int .u8 x.f0, .int .i64 x.f1.f0, .int .i64 x.f1.f1, .int .i64 x.f1.f2, .int .i64 x.f1.f3, .int .i64 x.f2, .slice A x.f3.length cb]] ++ #[.pointer (some ⟨bn, 0, none⟩), .pointer (some ⟨bm, 0, none⟩)]) W fun e w' => e = .returned (.bool (iR s x).1) ∧ lD w0 bn bm B (iR s x).2 w' ∧ Kp (uu bn B) W w' := by
 by_cases h1 : 20000 < wrap64 (s.1 + 1)
 ·exact aez w0 bn bm B s W x A cb hI h1
 ·cases h2 : uH x with
  | false => exact aeA w0 bn bm B s W x A cb hI h1 h2
  | true =>
   cases h3 : jX x.f1 with
   | false => exact aeB w0 bn bm B s W x A cb hI h1 h2 h3
   | true =>
    by_cases h4 : x.f0 = 1
    ·have h8 := h2
     unfold uH at h8
     rw [if_pos h4] at h8
     simp only [Bool.and_eq_true, decide_eq_true_eq] at h8
     by_cases h7 : x.f2 ∈ s.2
     ·exact aeD w0 bn bm B s W x A cb hI h1 h2 h3 h4 h8.2.1 h8.2.2 h7
     ·exact aeE w0 bn bm B s W x A cb hI h1 h2 h3 h4 h8.2.1 h8.2.2 h7
    ·exact aeC w0 bn bm B s W x A cb hI h1 h2 h3 h4
section
variable {P : Program} {ops : Array Oper} {rest : List Oper} {o : Oper} {a : Act} {Q : Exit → Act → World → Prop}
theorem UA {W : World} (hgd : o.guard = none) {N : Tmp} (_hd : o.dst = some N) (t k e : TypeId) (ho : o.op = .makeMap t none)
  (h : ∀ g, g = W.heap.size → ∀ w1, Below W.heap.size W w1 → w1.ownsMap (H := Unit) P k (plainElem P e) g 0 (.map []) → wpList P ops Q rest (a.put o.dst (.map (some g))) w1) : wpList P ops Q (o :: rest) a W := by
 refine Kd.yE hgd (w1 := W.alloc (.map #[] 0)) (v := .map (some W.heap.size)) ?_ (h _ rfl _ (aW (Below.refl _ _) _) (World.ownsMap_made W P k _))
 unfold execOp
 simp [ho, run_makeMap, Result.andThen]
end
theorem ac0 (c : ai) (A : Option Addr) (cc : Nat) (W : World) (hz : sz c ≤ 1048576) (hr : Kd.C k26 W A c.f3.length c.f3) (hc : c.f3.length ≤ cc) : Calls Try.prog 144 #[.agg #[.int .u8 c.f0, .int .i64 c.f1.f0, .int .i64 c.f1.f1, .int .i64 c.f1.f2, .int .i64 c.f1.f3, .int .i64 c.f2, .slice A c.f3.length cc]] W fun e w' => e = .returned (.bool (kD c)) ∧ Below W.heap.size W w' := by
 have Ve := ae.mk fun (bn bm B : Nat) (W1 : World) (hI : lD W bn bm B (0, []) W1) => aa' (uu bn B) (lD W bn bm B) iR 176 #[.pointer (some ⟨bn, 0, none⟩), .pointer (some ⟨bm, 0, none⟩)] (pK Try.func176 (by decide +kernel) (by kernel_rfl)) W (fun s w h => h.below) (fun s w w' h hb => h.step hb)
  (fun s w h k hk => hk.elim (fun e => e ▸ eH h.hn) (fun e => e ▸ h.map.lt)) (fun s w x B' cb h _ _ => ac1 W bn bm B s w x B' cb h) (sz c) c (Nat.le_refl _) A cc hr hc (0, []) W1 hI
 rw [Vr c hz] at Ve
 have HB := ae.mk (Below.refl W.heap.size W)
 clear hr hc hz
 generalize kD c = r at Ve ⊢
 go_enter Try.func144, Try.ntmps144
 go_wp2_with (first | ((with_reducible refine ay (N := 1) rfl ?_); refine aG ?hg (N := 1) ?hd (cs := #[.int .u8 c.f0, .int .i64 c.f1.f0, .int .i64 c.f1.f1, .int .i64 c.f1.f2, .int .i64 c.f1.f3, .int .i64 c.f2, .slice A c.f3.length cc]) (t := 26) ?hr ?_; (case hd => rfl); (case hg => rfl); (case hr => (go_simp; done)); intro b1 hg XT hbox hb; have dN := ae.mk hbox; have bY := ae.mk (ak HB.out hb); clear HB; have HB := bY; clear bY; clear hb hbox hg) | ((with_reducible refine ay (N := 5) rfl ?_); refine UA rfl (N := 5) rfl 161 3 4 rfl ?_; intro B hg wB hb hM; have GB := ae.mk (show W.heap.size ≤ B by rw [hg]; exact HB.out.size); have HM := ae.mk hM; have bY := ae.mk (ak HB.out hb); have fM := ae.mk (aJ dN.out hb); clear HB dN; have HB := bY; have dN := fM; clear bY fM; clear hb hM hg) | ((with_reducible refine ay (N := 3) rfl ?_); refine aG ?hg (N := 3) ?hd (cs := #[.map none]) (t := 161) ?hr ?_; (case hd => rfl); (case hg => rfl); (case hr => (go_simp; done)); intro bm hg wbm hbox hb; have yT := ae.mk hbox; have Gbm := ae.mk (show W.heap.size ≤ bm by rw [hg]; exact HB.out.size); have bY := ae.mk (ak HB.out hb); have fM := ae.mk (aJ dN.out hb); have yc := ae.mk (HM.out.kept (below_grown hb) (by simp)); clear HB dN HM; have HB := bY; have dN := fM; have HM := yc; clear bY fM yc; clear hb hbox hg) | ((with_reducible refine lq (.store 161 (.tmp 3) (.tmp 5)) rfl ?_); go_loud (refine fO (w0 := W) rfl rfl 161 (.tmp 3) (.tmp 5) rfl (g := bm) (j := 0) (base := W.heap.size) #[.map (some B)] (u := .map (some B)) (bF := [.map (some B)]) ?sA ?sX rfl ?sT ?s1 yT.out ?sJ rfl HB.out HB.out.size Gbm.out ?_; (case sA => rfl); (case sX => rfl); (case sT => rfl); (case s1 => (simp [Value.oneCell'])); (case sJ => (simp)); intro akE hbk hbb hgg; have NB : ae (B ≠ bm) := ⟨fun e => by have hq := yT.out; obtain ⟨es, cl, hB, _⟩ := HM.out; rw [← e, hB] at hq; cases hq⟩; have fM := ae.mk (bP dN.out hgg (fun e_ => sF dN.out yT.out (by decide) (Option.some.inj e_))); have yc := ae.mk (HM.out.kept hgg (fun e_ => NB.out (Option.some.inj e_))); clear dN HM; have dN := fM; have HM := yc; clear fM yc; clear yT HB; have yT := ae.mk hbk; have HB := ae.mk hbb; clear hbk hbb hgg)) | ((with_reducible refine ay (N := 4) rfl ?_); refine aG ?hg (N := 4) ?hd (cs := #[.int .i64 0]) (t := 3) ?hr ?_; (case hd => rfl); (case hg => rfl); (case hr => (go_simp; done)); intro bn hg wbn hbox hb; have Ld := ae.mk hbox; have Gbn := ae.mk (show W.heap.size ≤ bn by rw [hg]; exact HB.out.size); have bY := ae.mk (ak HB.out hb); have fM := ae.mk (aJ dN.out hb); have G6 := ae.mk (aJ yT.out hb); have yc := ae.mk (HM.out.kept (below_grown hb) (by simp)); clear HB dN yT HM; have HB := bY; have dN := fM; have yT := G6; have HM := yc; clear bY fM G6 yc; clear hb hbox hg) | ((with_reducible refine lq (.store 3 (.tmp 4) (.const (.int .i64 0))) rfl ?_); go_loud (refine fO (w0 := W) rfl rfl 3 (.tmp 4) (.const (.int .i64 0)) rfl (g := bn) (j := 0) (base := W.heap.size) #[.int .i64 0] (u := .int .i64 0) (bF := [.int .i64 0]) ?sA ?sX rfl ?sT ?s1 Ld.out ?sJ rfl HB.out HB.out.size Gbn.out ?_; (case sA => rfl); (case sX => rfl); (case sT => rfl); (case s1 => (simp [Value.oneCell'])); (case sJ => (decide)); intro akF hbk hbb hgg; have NN : ae (B ≠ bn) := ⟨fun e => by have hq := Ld.out; obtain ⟨es, cl, hB, _⟩ := HM.out; rw [← e, hB] at hq; cases hq⟩; have fM := ae.mk (bP dN.out hgg (fun e_ => sF dN.out Ld.out (by decide) (Option.some.inj e_))); have G6 := ae.mk (bP yT.out hgg (fun e_ => sF yT.out Ld.out (by decide) (Option.some.inj e_))); have yc := ae.mk (HM.out.kept hgg (fun e_ => NN.out (Option.some.inj e_))); clear dN yT HM; have dN := fM; have yT := G6; have HM := yc; clear fM G6 yc; clear Ld HB; have Ld := ae.mk hbk; have HB := ae.mk hbb; clear hbk hbb hgg; have c0 := (af dN.out 0).trans rfl; have c1 := (af dN.out 1).trans rfl; have c2 := (af dN.out 2).trans rfl; have c3 := (af dN.out 3).trans rfl; have c4 := (af dN.out 4).trans rfl; have c5 := (af dN.out 5).trans rfl; have c6 := (af dN.out 6).trans rfl)))
 clear c0 c1 c2 c3 c4 c5 c6
 refine (Ve.out bn bm B _ ⟨Ld.out, yT.out, HM.out, HB.out, Gbn.out, GB.out, List.nodup_nil, fun i hi => absurd hi (by simp)⟩).mono ?_
 rintro e w' ⟨rfl, hi, _⟩
 have HI := ae.mk hi.below
 clear hi
 go_wp2
 go_ret
 exact ⟨rfl, HI.out⟩
theorem acZ (c : ai) (A : Option Addr) (cc : Nat) (W : World) (hz : sz c ≤ 1048576) (hr : Kd.C k26 W A c.f3.length c.f3) (hc : c.f3.length ≤ cc) : Calls Try.prog 143 #[.agg #[.int .u8 c.f0, .int .i64 c.f1.f0, .int .i64 c.f1.f1, .int .i64 c.f1.f2, .int .i64 c.f1.f3, .int .i64 c.f2, .slice A c.f3.length cc]] W fun e w' => e = .returned (.bool (!kD c)) ∧ Below W.heap.size W w' := by
 have H := ae.mk fun (W1 : World) (hb : Below W.heap.size W W1) => ac0 c A cc W1 hz (Kd.dL hr hb) hc
 clear hr hc hz
 cases hm : kD c
 all_goals
  rw [hm] at H
  clear hm
  go_enter Try.func143, Try.ntmps143
  go_wp2_with (((with_reducible refine ay (N := 1) rfl ?_); refine aG ?hg (N := 1) ?hd (cs := #[.int .u8 c.f0, .int .i64 c.f1.f0, .int .i64 c.f1.f1, .int .i64 c.f1.f2, .int .i64 c.f1.f3, .int .i64 c.f2, .slice A c.f3.length cc]) (t := 26) ?hr ?_; (case hd => rfl); (case hg => rfl); (case hr => (go_simp; done)); intro b1 hg w1 hbox hb; have HB := ae.mk hb; have K1 := ae.mk hbox; clear hb hbox hg; have c0 := (af K1.out 0).trans rfl; have c1 := (af K1.out 1).trans rfl; have c2 := (af K1.out 2).trans rfl; have c3 := (af K1.out 3).trans rfl; have c4 := (af K1.out 4).trans rfl; have c5 := (af K1.out 5).trans rfl; have c6 := (af K1.out 6).trans rfl))
  clear c0 c1 c2 c3 c4 c5 c6
  refine (H.out _ HB.out).mono ?_
  rintro e w' ⟨rfl, hb⟩
  have HB2 := ae.mk (ak HB.out hb)
  clear hb
  go_wp2
  go_ret
  exact ⟨rfl, HB2.out⟩
def rC.f (l0 : List ai) : Option Bool := if l0.all (fun c => decide (sz c ≤ 1048576)) = true then some (l0.all kD) else none
theorem rC.calls (A0 : Option Addr) (c0 : Nat) (l0 : List ai) (r : Bool) (w : World) (hr0 : Kd.C k26 w A0 l0.length l0) (hc0 : l0.length ≤ c0) (h : rC.f l0 = some r) :
  Calls Try.prog 76 #[.slice A0 l0.length c0] w fun e w' => e = .returned (.bool r) ∧ Below w.heap.size w w' := by
 unfold rC.f at h
 split at h
 ·rename_i hz
  injection h with h
  have hcon := Td (fun (_ : Unit) W => Below w.heap.size w W) (fun _ x => (!kD x, ())) 143 #[] (pK Try.func143 (by decide +kernel) (by kernel_rfl)) l0 A0 c0 w hr0 (fun _ W hW => hW) (fun _ W n hW => aQ hW n)
   (fun _ W x B cb hx hW hC hl => by
    rw [show (#[Value.agg #[.int .u8 x.f0, .int .i64 x.f1.f0, .int .i64 x.f1.f1, .int .i64 x.f1.f2, .int .i64 x.f1.f3, .int .i64 x.f2, .slice B x.f3.length cb]] ++ #[] : Array Value) = #[.agg #[.int .u8 x.f0, .int .i64 x.f1.f0, .int .i64 x.f1.f1, .int .i64 x.f1.f2, .int .i64 x.f1.f3, .int .i64 x.f2, .slice B x.f3.length cb]] by simp]
    exact (acZ x B cb W (of_decide_eq_true (List.all_eq_true.1 hz x hx)) (Kd.dL hC hW) hl).mono fun e w' ⟨he, hb⟩ => ⟨he, uA hW hW.size hb⟩) () w (Below.refl _ _) hr0.2.1
  rw [JU] at hcon
  have hnone := PO l0 A0 c0 143 #[] _ _ w hcon (fun W n hW => aQ hW n)
  have e1 : r = !(l0.any fun x => !kD x) := by
   rw [← h]
   clear h hcon hr0 hc0 hz hnone
   induction l0 with
   | nil => rfl
   | cons x xs ih => simp only [List.all_cons, List.any_cons, ih, Bool.not_or, Bool.not_not]
  subst e1
  generalize (l0.any fun x => !kD x) = b at hnone
  have HC := ae.mk hnone
  clear hcon h hr0 hnone hz
  go_enter Try.func76, Try.ntmps76
  go_wp2_with fail
  refine HC.out.mono ?_
  rintro e w' ⟨rfl, hb⟩
  have HB := ae.mk hb
  clear hb
  go_wp2
  go_ret
  exact ⟨rfl, HB.out⟩
 ·exact absurd h (by simp)
theorem NZ {x : ByteArray} {w : World} {A : Option Addr} (h : Kd.C Kd.string w A 1 [x]) : ∃ ad, A = some ad := by
 obtain ⟨ad, h1, _⟩ := h.2.2 (by omega)
 exact ⟨ad, h1⟩
theorem VE (c : ai) (hz : sz c ≤ 1048576) (A : Option Addr) (cc : Nat) (w : World) (hr : Kd.C k26 w A c.f3.length c.f3) (hc : c.f3.length ≤ cc) :
  Calls Try.prog 180 #[.agg #[.int .u8 c.f0, .int .i64 c.f1.f0, .int .i64 c.f1.f1, .int .i64 c.f1.f2, .int .i64 c.f1.f3, .int .i64 c.f2, .slice A c.f3.length cc]] w fun e w' => (if bW c = true then e = .returned .nilIface else ∃ t u, e = .returned (.iface t u)) ∧ Below w.heap.size w w' := by
 have hM : rC.f [c] = some (kD c) := by
  unfold rC.f
  rw [if_pos (by simp [hz])]
  simp
 have hW : kD c = true → ∀ (gw : Nat) (W : World), w.heap.size ≤ gw → oV w gw 0 W → Calls Try.prog 197 #[.pointer (some ⟨gw, 0, none⟩), .agg #[.int .u8 c.f0, .int .i64 c.f1.f0, .int .i64 c.f1.f1, .int .i64 c.f1.f2, .int .i64 c.f1.f3, .int .i64 c.f2, .slice A c.f3.length cc]] W fun e w' => e = .returned (.bool (kS c)) ∧ oV w gw (0 + dM c.f3) w' ∧ Fr gw W w' := fun hm gw W hg hI => aae w gw hg (sz c) c (Nat.le_refl _) (ou hm) A cc hr hc 0 W (by have := ou hm; have := dB c; omega) hI
 unfold bW
 have HR := ae.mk hr
 have HC := ae.mk hc
 have HM := ae.mk hM
 have HW := ae.mk hW
 have HB := ae.mk (Below.refl w.heap.size w)
 clear hr hc hM hW hz
 obtain ⟨ck, ⟨cx, cy, cw, ch⟩, aV, l⟩ := c
 simp only [] at HR HC HW ⊢
 generalize kS ⟨ck, ⟨cx, cy, cw, ch⟩, aV, l⟩ = q at HW ⊢
 cases hm : kD (⟨ck, ⟨cx, cy, cw, ch⟩, aV, l⟩ : ai) with
 | false =>
  rw [hm] at HM
  have HM := HM
  simp only [Bool.false_and, Bool.false_eq_true, if_false]
  clear hm HW
  go_enter Try.func180, Try.ntmps180
  go_wp2_with (first
   | ((with_reducible refine ay (N := 1) rfl ?_); refine aG ?hg (N := 1) ?hd (cs := #[.int .u8 ck, .int .i64 cx, .int .i64 cy, .int .i64 cw, .int .i64 ch, .int .i64 aV, .slice A l.length cc]) (t := 26) ?hr ?_; (case hd => rfl); (case hg => rfl); (case hr => first | (go_simp; done) | (go_simp; rfl)); intro b1 hg XT hbox hb; have dN := ae.mk hbox; have bY := ae.mk (ak HB.out hb); clear HB; have HB := bY; clear bY; clear hb hbox hg)
   | ((with_reducible refine ay (N := 5) rfl ?_); refine aG ?hg (N := 5) ?hd (cs := #[.int .i64 0, .slice none 0 0]) (t := 182) ?hr ?_; (case hd => rfl); (case hg => rfl); (case hr => first | (go_simp; done) | (go_simp; rfl)); intro gw hg wgw hbox hb; have oO := ae.mk hbox; have GG := ae.mk (show w.heap.size ≤ gw by rw [hg]; exact HB.out.size); have bY := ae.mk (ak HB.out hb); have fM := ae.mk (aJ dN.out hb); clear HB dN; have HB := bY; have dN := fM; clear bY fM; have c0 := (af dN.out 0).trans rfl; have c1 := (af dN.out 1).trans rfl; have c2 := (af dN.out 2).trans rfl; have c3 := (af dN.out 3).trans rfl; have c4 := (af dN.out 4).trans rfl; have c5 := (af dN.out 5).trans rfl; have c6 := (af dN.out 6).trans rfl; clear hb hbox hg)
   | ((with_reducible refine ay (N := 8) rfl ?_); refine Kd.zK k26 _ 26 ?hg (N' := 8) ?hd (xs := [(⟨ck, ⟨cx, cy, cw, ch⟩, aV, l⟩ : ai)]) (inner := [.int .u8 ck, .int .i64 cx, .int .i64 cy, .int .i64 cw, .int .i64 ch, .int .i64 aV, .slice A l.length cc]) (ok := fun _ => True) (dY := fun _ => True) ?hr ?hp (fun _ hk => hk) trivial (Below.refl _ _) (Nat.le_refl _) (by simp) ?_; (case hd => rfl); (case hg => rfl); (case hr => first | (go_simp; done) | (go_simp; rfl)); (case hp => exact (bI.c7 (o8 _ _ (⟨ck, ⟨cx, cy, cw, ch⟩, aV, l⟩ : ai) HC.out (Kd.qW (Kd.Bj nz (Kd.dL HR.out HB.out)) (fun _ _ => trivial))) (bI.none _ _))); intro vr wr ho hb o7 jQ; clear o7 jQ; obtain ⟨Am, cm, er⟩ := Kd.jE ho; subst er; have bY := ae.mk (ak HB.out hb); have fM := ae.mk (aJ dN.out hb); have oD := ae.mk (aJ oO.out hb); clear HB dN oO; have HB := bY; have dN := fM; have oO := oD; clear bY fM oD; have Hm := ae.mk (Kd.jo ho).2.2; have Lm := ae.mk (Kd.jo ho).2.1; clear ho hb c0 c1 c2 c3 c4 c5 c6)
   | fail)
  refine (rC.calls Am cm [(⟨ck, ⟨cx, cy, cw, ch⟩, aV, l⟩ : ai)] false _ Hm.out Lm.out HM.out).mono ?_
  rintro e w1 ⟨rfl, hb⟩
  have bY := ae.mk (ak HB.out hb); have fM := ae.mk (aJ dN.out hb); have oD := ae.mk (aJ oO.out hb); clear HB dN oO; have HB := bY; have dN := fM; have oO := oD; clear bY fM oD
  clear hb Hm Lm
  go_wp2_with fail
  refine (UE 1 0 (by decide) _).mono ?_
  rintro e w2 ⟨⟨tv, v, rfl⟩, hb⟩
  have bY := ae.mk (ak HB.out hb); clear HB; have HB := bY; clear bY
  clear hb
  go_wp2_with (first
   | ((with_reducible refine ay (N := 12) rfl ?_); refine Kd.vN Kd.string _ 9 ?hg (N := 12) ?hd (xs := [(⟨#[108, 97, 121, 111, 117, 116]⟩ : ByteArray)]) (inner := [.string (⟨#[108, 97, 121, 111, 117, 116]⟩ : ByteArray)]) (ok := fun _ => True) (dY := fun _ => True) ?hr ?hp (fun _ hk => hk) trivial (Below.refl _ _) (Nat.le_refl _) (by simp) ?_; (case hd => rfl); (case hg => rfl); (case hr => first | (go_simp; done) | (go_simp; rfl)); (case hp => exact (bI.one (show Kd.M Kd.string _ _ _ (⟨#[108, 97, 121, 111, 117, 116]⟩ : ByteArray) [.string (⟨#[108, 97, 121, 111, 117, 116]⟩ : ByteArray)] from rfl) (bI.none _ _))); intro vs wr ho hb o7 jQ; clear o7 jQ; obtain ⟨As, cs_, er⟩ := Kd.ja ho; subst er; have bY := ae.mk (ak HB.out hb); clear HB; have HB := bY; clear bY; have Hs := ae.mk (Kd.fD ho).2.2; have Ls := ae.mk (Kd.fD ho).2.1; clear ho hb)
   | fail)
  obtain ⟨ad, ea⟩ := NZ Hs.out
  subst ea
  refine (Xz tv v ad cs_ _ _ Hs.out Ls.out).mono ?_
  rintro e w3 ⟨⟨tu, u, rfl⟩, hb⟩
  have bY := ae.mk (ak HB.out hb); clear HB; have HB := bY; clear bY
  clear hb Hs Ls
  go_wp2
  go_ret
  exact ⟨⟨_, _, rfl⟩, HB.out⟩
 | true =>
  rw [hm] at HM
  have HW := ae.mk (HW.out hm)
  simp only [Bool.true_and]
  clear hm
  cases q with
  | true =>
   simp only [if_true]
   go_enter Try.func180, Try.ntmps180
   go_wp2_with (first
    | ((with_reducible refine ay (N := 1) rfl ?_); refine aG ?hg (N := 1) ?hd (cs := #[.int .u8 ck, .int .i64 cx, .int .i64 cy, .int .i64 cw, .int .i64 ch, .int .i64 aV, .slice A l.length cc]) (t := 26) ?hr ?_; (case hd => rfl); (case hg => rfl); (case hr => first | (go_simp; done) | (go_simp; rfl)); intro b1 hg XT hbox hb; have dN := ae.mk hbox; have bY := ae.mk (ak HB.out hb); clear HB; have HB := bY; clear bY; clear hb hbox hg)
    | ((with_reducible refine ay (N := 5) rfl ?_); refine aG ?hg (N := 5) ?hd (cs := #[.int .i64 0, .slice none 0 0]) (t := 182) ?hr ?_; (case hd => rfl); (case hg => rfl); (case hr => first | (go_simp; done) | (go_simp; rfl)); intro gw hg wgw hbox hb; have oO := ae.mk hbox; have GG := ae.mk (show w.heap.size ≤ gw by rw [hg]; exact HB.out.size); have bY := ae.mk (ak HB.out hb); have fM := ae.mk (aJ dN.out hb); clear HB dN; have HB := bY; have dN := fM; clear bY fM; have c0 := (af dN.out 0).trans rfl; have c1 := (af dN.out 1).trans rfl; have c2 := (af dN.out 2).trans rfl; have c3 := (af dN.out 3).trans rfl; have c4 := (af dN.out 4).trans rfl; have c5 := (af dN.out 5).trans rfl; have c6 := (af dN.out 6).trans rfl; clear hb hbox hg)
    | ((with_reducible refine ay (N := 8) rfl ?_); refine Kd.zK k26 _ 26 ?hg (N' := 8) ?hd (xs := [(⟨ck, ⟨cx, cy, cw, ch⟩, aV, l⟩ : ai)]) (inner := [.int .u8 ck, .int .i64 cx, .int .i64 cy, .int .i64 cw, .int .i64 ch, .int .i64 aV, .slice A l.length cc]) (ok := fun _ => True) (dY := fun _ => True) ?hr ?hp (fun _ hk => hk) trivial (Below.refl _ _) (Nat.le_refl _) (by simp) ?_; (case hd => rfl); (case hg => rfl); (case hr => first | (go_simp; done) | (go_simp; rfl)); (case hp => exact (bI.c7 (o8 _ _ (⟨ck, ⟨cx, cy, cw, ch⟩, aV, l⟩ : ai) HC.out (Kd.qW (Kd.Bj nz (Kd.dL HR.out HB.out)) (fun _ _ => trivial))) (bI.none _ _))); intro vr wr ho hb o7 jQ; clear o7 jQ; obtain ⟨Am, cm, er⟩ := Kd.jE ho; subst er; have bY := ae.mk (ak HB.out hb); have fM := ae.mk (aJ dN.out hb); have oD := ae.mk (aJ oO.out hb); clear HB dN oO; have HB := bY; have dN := fM; have oO := oD; clear bY fM oD; have Hm := ae.mk (Kd.jo ho).2.2; have Lm := ae.mk (Kd.jo ho).2.1; clear ho hb c0 c1 c2 c3 c4 c5 c6)
    | fail)
   refine (rC.calls Am cm [(⟨ck, ⟨cx, cy, cw, ch⟩, aV, l⟩ : ai)] true _ Hm.out Lm.out HM.out).mono ?_
   rintro e w1 ⟨rfl, hb⟩
   have bY := ae.mk (ak HB.out hb); have fM := ae.mk (aJ dN.out hb); have oD := ae.mk (aJ oO.out hb); clear HB dN oO; have HB := bY; have dN := fM; have oO := oD; clear bY fM oD
   clear hb Hm Lm
   have HI := ae.mk (show oV w gw 0 w1 from ⟨HB.out, 0, .slice none 0 0, [], oO.out, Kd.uy _ _ _ _ _, Nat.le_refl _⟩)
   have c0 := (af dN.out 0).trans rfl
   have c1 := (af dN.out 1).trans rfl
   have c2 := (af dN.out 2).trans rfl
   have c3 := (af dN.out 3).trans rfl
   have c4 := (af dN.out 4).trans rfl
   have c5 := (af dN.out 5).trans rfl
   have c6 := (af dN.out 6).trans rfl
   go_wp2_with fail
   clear c0 c1 c2 c3 c4 c5 c6
   refine (HW.out gw w1 GG.out HI.out).mono ?_
   rintro e w2 ⟨rfl, ⟨hb2, n, v, ls, hk, _, _⟩, _⟩
   clear HB oO HI dN
   have HB := ae.mk hb2
   have oO := ae.mk hk
   clear hb2 hk
   go_wp2
   go_ret
   exact ⟨rfl, HB.out⟩
  | false =>
   simp only [Bool.false_eq_true, if_false]
   go_enter Try.func180, Try.ntmps180
   go_wp2_with (first
    | ((with_reducible refine ay (N := 1) rfl ?_); refine aG ?hg (N := 1) ?hd (cs := #[.int .u8 ck, .int .i64 cx, .int .i64 cy, .int .i64 cw, .int .i64 ch, .int .i64 aV, .slice A l.length cc]) (t := 26) ?hr ?_; (case hd => rfl); (case hg => rfl); (case hr => first | (go_simp; done) | (go_simp; rfl)); intro b1 hg XT hbox hb; have dN := ae.mk hbox; have bY := ae.mk (ak HB.out hb); clear HB; have HB := bY; clear bY; clear hb hbox hg)
    | ((with_reducible refine ay (N := 5) rfl ?_); refine aG ?hg (N := 5) ?hd (cs := #[.int .i64 0, .slice none 0 0]) (t := 182) ?hr ?_; (case hd => rfl); (case hg => rfl); (case hr => first | (go_simp; done) | (go_simp; rfl)); intro gw hg wgw hbox hb; have oO := ae.mk hbox; have GG := ae.mk (show w.heap.size ≤ gw by rw [hg]; exact HB.out.size); have bY := ae.mk (ak HB.out hb); have fM := ae.mk (aJ dN.out hb); clear HB dN; have HB := bY; have dN := fM; clear bY fM; have c0 := (af dN.out 0).trans rfl; have c1 := (af dN.out 1).trans rfl; have c2 := (af dN.out 2).trans rfl; have c3 := (af dN.out 3).trans rfl; have c4 := (af dN.out 4).trans rfl; have c5 := (af dN.out 5).trans rfl; have c6 := (af dN.out 6).trans rfl; clear hb hbox hg)
    | ((with_reducible refine ay (N := 8) rfl ?_); refine Kd.zK k26 _ 26 ?hg (N' := 8) ?hd (xs := [(⟨ck, ⟨cx, cy, cw, ch⟩, aV, l⟩ : ai)]) (inner := [.int .u8 ck, .int .i64 cx, .int .i64 cy, .int .i64 cw, .int .i64 ch, .int .i64 aV, .slice A l.length cc]) (ok := fun _ => True) (dY := fun _ => True) ?hr ?hp (fun _ hk => hk) trivial (Below.refl _ _) (Nat.le_refl _) (by simp) ?_; (case hd => rfl); (case hg => rfl); (case hr => first | (go_simp; done) | (go_simp; rfl)); (case hp => exact (bI.c7 (o8 _ _ (⟨ck, ⟨cx, cy, cw, ch⟩, aV, l⟩ : ai) HC.out (Kd.qW (Kd.Bj nz (Kd.dL HR.out HB.out)) (fun _ _ => trivial))) (bI.none _ _))); intro vr wr ho hb o7 jQ; clear o7 jQ; obtain ⟨Am, cm, er⟩ := Kd.jE ho; subst er; have bY := ae.mk (ak HB.out hb); have fM := ae.mk (aJ dN.out hb); have oD := ae.mk (aJ oO.out hb); clear HB dN oO; have HB := bY; have dN := fM; have oO := oD; clear bY fM oD; have Hm := ae.mk (Kd.jo ho).2.2; have Lm := ae.mk (Kd.jo ho).2.1; clear ho hb c0 c1 c2 c3 c4 c5 c6)
    | fail)
   refine (rC.calls Am cm [(⟨ck, ⟨cx, cy, cw, ch⟩, aV, l⟩ : ai)] true _ Hm.out Lm.out HM.out).mono ?_
   rintro e w1 ⟨rfl, hb⟩
   have bY := ae.mk (ak HB.out hb); have fM := ae.mk (aJ dN.out hb); have oD := ae.mk (aJ oO.out hb); clear HB dN oO; have HB := bY; have dN := fM; have oO := oD; clear bY fM oD
   clear hb Hm Lm
   have HI := ae.mk (show oV w gw 0 w1 from ⟨HB.out, 0, .slice none 0 0, [], oO.out, Kd.uy _ _ _ _ _, Nat.le_refl _⟩)
   have c0 := (af dN.out 0).trans rfl
   have c1 := (af dN.out 1).trans rfl
   have c2 := (af dN.out 2).trans rfl
   have c3 := (af dN.out 3).trans rfl
   have c4 := (af dN.out 4).trans rfl
   have c5 := (af dN.out 5).trans rfl
   have c6 := (af dN.out 6).trans rfl
   go_wp2_with fail
   clear c0 c1 c2 c3 c4 c5 c6
   refine (HW.out gw w1 GG.out HI.out).mono ?_
   rintro e w2 ⟨rfl, ⟨hb2, n, v, ls, hk, _, _⟩, _⟩
   clear HB oO HI dN
   have HB := ae.mk hb2
   have oO := ae.mk hk
   clear hb2 hk
   have c0 := (af oO.out 0).trans rfl
   have c1 := (af oO.out 1).trans rfl
   go_wp2_with fail
   clear c0 c1
   refine (UE 5 n (by decide) _).mono ?_
   rintro e w2 ⟨⟨tv, v, rfl⟩, hb⟩
   have bY := ae.mk (ak HB.out hb); clear HB; have HB := bY; clear bY
   clear hb
   go_wp2_with (first
    | ((with_reducible refine ay (N := 24) rfl ?_); refine Kd.vN Kd.string _ 9 ?hg (N := 24) ?hd (xs := [(⟨#[108, 97, 121, 111, 117, 116]⟩ : ByteArray)]) (inner := [.string (⟨#[108, 97, 121, 111, 117, 116]⟩ : ByteArray)]) (ok := fun _ => True) (dY := fun _ => True) ?hr ?hp (fun _ hk => hk) trivial (Below.refl _ _) (Nat.le_refl _) (by simp) ?_; (case hd => rfl); (case hg => rfl); (case hr => first | (go_simp; done) | (go_simp; rfl)); (case hp => exact (bI.one (show Kd.M Kd.string _ _ _ (⟨#[108, 97, 121, 111, 117, 116]⟩ : ByteArray) [.string (⟨#[108, 97, 121, 111, 117, 116]⟩ : ByteArray)] from rfl) (bI.none _ _))); intro vs wr ho hb o7 jQ; clear o7 jQ; obtain ⟨As, cs_, er⟩ := Kd.ja ho; subst er; have bY := ae.mk (ak HB.out hb); clear HB; have HB := bY; clear bY; have Hs := ae.mk (Kd.fD ho).2.2; have Ls := ae.mk (Kd.fD ho).2.1; clear ho hb)
    | fail)
   obtain ⟨ad, ea⟩ := NZ Hs.out
   subst ea
   refine (Xz tv v ad cs_ _ _ Hs.out Ls.out).mono ?_
   rintro e w3 ⟨⟨tu, u, rfl⟩, hb⟩
   have bY := ae.mk (ak HB.out hb); clear HB; have HB := bY; clear bY
   clear hb Hs Ls
   go_wp2
   go_ret
   exact ⟨⟨_, _, rfl⟩, HB.out⟩
theorem abC (x : ai) (hz : sz x ≤ 1048576) (B : Option Addr) (cb : Nat) (W : World) (hr : Kd.C k26 W B x.f3.length x.f3) (hl : x.f3.length ≤ cb) :
  Calls Try.prog 179 #[.agg #[.int .u8 x.f0, .int .i64 x.f1.f0, .int .i64 x.f1.f1, .int .i64 x.f1.f2, .int .i64 x.f1.f3, .int .i64 x.f2, .slice B x.f3.length cb]] W fun e w' => e = .returned (.bool (!bW x)) ∧ Below W.heap.size W w' := by
 have HC := ae.mk (fun W1 (hb : Below W.heap.size W W1) => VE x hz B cb W1 (Kd.dL hr hb) hl)
 have HB := ae.mk (Below.refl W.heap.size W)
 clear hr hl hz
 cases hq : bW x
 all_goals
  simp only [hq, if_pos, Bool.false_eq_true, if_false] at HC
  clear hq
  go_enter Try.func179, Try.ntmps179
  go_wp2_with (first
   | ((with_reducible refine ay (N := 1) rfl ?_); refine aG ?hg (N := 1) ?hd (cs := #[.int .u8 x.f0, .int .i64 x.f1.f0, .int .i64 x.f1.f1, .int .i64 x.f1.f2, .int .i64 x.f1.f3, .int .i64 x.f2, .slice B x.f3.length cb]) (t := 26) ?hr ?_; (case hd => rfl); (case hg => rfl); (case hr => first | (go_simp; done) | (go_simp; rfl)); intro b1 hg XT hbox hb; have dN := ae.mk hbox; have bY := ae.mk (ak HB.out hb); clear HB; have HB := bY; clear bY; have c0 := (af dN.out 0).trans rfl; have c1 := (af dN.out 1).trans rfl; have c2 := (af dN.out 2).trans rfl; have c3 := (af dN.out 3).trans rfl; have c4 := (af dN.out 4).trans rfl; have c5 := (af dN.out 5).trans rfl; have c6 := (af dN.out 6).trans rfl; clear hb hbox hg)
   | fail)
  clear c0 c1 c2 c3 c4 c5 c6
 ·refine (HC.out _ HB.out).mono ?_
  rintro e w2 ⟨⟨t, u, rfl⟩, hb⟩
  have bY := ae.mk (ak HB.out hb); clear HB; have HB := bY; clear bY
  clear hb
  go_wp2
  go_ret
  exact ⟨rfl, HB.out⟩
 ·refine (HC.out _ HB.out).mono ?_
  rintro e w2 ⟨rfl, hb⟩
  have bY := ae.mk (ak HB.out hb); clear HB; have HB := bY; clear bY
  clear hb
  go_wp2
  go_ret
  exact ⟨rfl, HB.out⟩
theorem WW (l : List ai) (hz : ∀ x, x ∈ l → sz x ≤ 1048576) (A : Option Addr) (c : Nat) (w : World) (hr : Kd.C k26 w A l.length l) (hc : l.length ≤ c) :
  Calls Try.prog 148 #[.slice A l.length c] w fun e w' => e = .returned (.bool (l.all bW)) ∧ Below w.heap.size w w' := by
 have hq := OZ (fun _ W => Below w.heap.size w W) (fun x => !bW x) 179 #[] (pK Try.func179 (by decide +kernel) (by kernel_rfl)) l A c w hr (fun _ _ h => h) (fun _ W n h => ak h (aQ (Below.refl _ _) n))
  (fun x rest W B cb hx _ hI hC hlx => by
   refine (abC x (hz x hx) B cb W (Kd.dL hC hI) hlx).mono ?_
   rintro e w' ⟨he, hb⟩
   exact ⟨he, ak hI hb⟩) w (Below.refl _ _) hr.2.1
 have HQ := ae.mk hq
 rw [List.all_eq_not_any_not]
 clear hq hr hc hz
 generalize l.any (fun x => !bW x) = r at HQ ⊢
 cases r
 all_goals
  go_enter Try.func148, Try.ntmps148
  go_wp2_with fail
  refine HQ.out.mono ?_
  rintro e w2 ⟨rfl, hb⟩
  have HB := ae.mk hb
  clear hb
  go_wp2
  go_ret
  exact ⟨rfl, HB.out⟩
noncomputable def Rw.f (l0 : List ai) : Option Bool := if l0.all (fun c => decide (sz c ≤ 1048576)) = true then some (l0.all bW) else none
end Go.Proofs.Ytfdmfgaiblfbhaa.P
namespace Go.Proofs.Ytfdmfgaiblfbhaa.P
open Go.RowKit Go.Proofs.ag.aA Go.Proofs.ag.a_ Go.Proofs.ag.bG
attribute [local go_sem] jf jr jG jR iV iW jB jC
noncomputable def sN.j0 : Nat → Int → Bool → Int → Int → Int → Int → Int → Int → List (ai) → Option (Int)
 | 0, _, _, _, _, _, _, _, _, _ => none
 | k + 1, x1, zC, aar, P6, P7, P8, P9, aas, aat => if zC = true then (some 0) else ((qg.f P6 P7 P8 P9 x1).bind fun agC => ((Oo.f k aar P6 P7 P8 P9 aas aat x1).bind fun agD => (some (wrap64 (agC - agD)))))
noncomputable def sN.f (k : Nat) (az : Int) (aN : Int) (aH : Int) (aK : Int) (dm : Int) (dn : Int) (aT : List (ai)) (a1 : Int) : Option (Int) := (QS.f a1).bind fun agA => (if agA = true then ((Rw.f (([(⟨az, (⟨aN, aH, aK, dm⟩ : dF), dn, aT⟩ : ai)] : List (ai)))).bind fun agB => (sN.j0 k a1 (!agB) az aN aH aK dm dn aT)) else (sN.j0 k a1 true az aN aH aK dm dn aT))
def sN.T3 : Bool × List (List Nat × List Nat) := (true, [([], []), ([0], [0]), ([], []), ([1, 2], [1, 2]), ([], []), ([], []), ([4, 5, 3], [4, 5]), ([3, 6], [3, 6]), ([7, 6, 0, 1, 2, 3, 4, 5, 6, 7], [7])])
def sN.B3 : List Nat := [0, 1, 0, 7, 0, 0, 63, 127, 255]
def pz.f (az : Int) (aN : Int) (aH : Int) (aK : Int) (a1 : Int) : Option (Int) := if a1 = 1 then (some aH) else (if a1 = 2 then (some aK) else (some 0))
theorem pz.calls (az : Int) (aN : Int) (aH : Int) (aK : Int) (a1 : Int) (r : Int) (w : World) (h : pz.f az aN aH aK a1 = some r) :
  Calls Try.prog 87 #[.agg #[.int .i64 az, .int .i64 aN, .int .i64 aH, .int .i64 aK], .int .u8 a1] w fun e w' => e = .returned (.int .i64 r) ∧ Below w.heap.size w w' := by
 have QN := Try.underlying23
 have HB := ae.mk (Below.refl w.heap.size w)
 have H : (if a1 = 1 then (some aH) else (if a1 = 2 then (some aK) else (some 0))) = some r := h
 clear h
 by_cases c3 : a1 = 1
 ·rw [if_pos c3] at H
  have uT : (a1 == 1) = true := beq_iff_eq.mpr c3
  have Ey : (a1 != 1) = false := bne_eq_false_iff_eq.mpr c3
  clear c3
  obtain rfl := Option.some.inj H
  go_enter Try.func87, Try.ntmps87
  go_wp2_with (((with_reducible refine ay (N := 2) rfl ?_); refine aG ?hg (N := 2) ?hd (cs := #[.int .i64 az, .int .i64 aN, .int .i64 aH, .int .i64 aK]) (t := 23) ?hr ?_; (case hd => rfl); (case hg => rfl); (case hr => (go_simp; done)); intro vP hg w4 hbox hb; have nK := ae.mk (hbox); replace HB := ae.mk (ak (by repeat ((with_reducible exact HB.out))) hb); clear hb hbox hg; have acp : w4.cell? ⟨vP, 0, none⟩ = some (.int .i64 az) := (af nK.out 0).trans rfl; have acr : w4.cell? ⟨vP, 1, none⟩ = some (.int .i64 aN) := (af nK.out 1).trans rfl; have acs : w4.cell? ⟨vP, 2, none⟩ = some (.int .i64 aH) := (af nK.out 2).trans rfl; have acu : w4.cell? ⟨vP, 3, none⟩ = some (.int .i64 aK) := (af nK.out 3).trans rfl; have acH := ah nK.out 0; have acI := ah nK.out 1; have acJ := ah nK.out 2; have acK := ah nK.out 3))
  go_ret
  exact ⟨by rfl, by repeat ((with_reducible exact HB.out))⟩
 ·rw [if_neg c3] at H
  have uT : (a1 == 1) = false := beq_eq_false_iff_ne.mpr c3
  have Ey : (a1 != 1) = true := bne_iff_ne.mpr c3
  by_cases c6 : a1 = 2
  ·rw [if_pos c6] at H
   have zQ : (a1 == 2) = true := beq_iff_eq.mpr c6
   have LY : (a1 != 2) = false := bne_eq_false_iff_eq.mpr c6
   clear c6
   obtain rfl := Option.some.inj H
   go_enter Try.func87, Try.ntmps87
   go_wp2_with (((with_reducible refine ay (N := 2) rfl ?_); refine aG ?hg (N := 2) ?hd (cs := #[.int .i64 az, .int .i64 aN, .int .i64 aH, .int .i64 aK]) (t := 23) ?hr ?_; (case hd => rfl); (case hg => rfl); (case hr => (go_simp; done)); intro vP hg w7 hbox hb; have nK := ae.mk (hbox); replace HB := ae.mk (ak (by repeat ((with_reducible exact HB.out))) hb); clear hb hbox hg; have TQ : w7.cell? ⟨vP, 0, none⟩ = some (.int .i64 az) := (af nK.out 0).trans rfl; have TR : w7.cell? ⟨vP, 1, none⟩ = some (.int .i64 aN) := (af nK.out 1).trans rfl; have TS : w7.cell? ⟨vP, 2, none⟩ = some (.int .i64 aH) := (af nK.out 2).trans rfl; have TT : w7.cell? ⟨vP, 3, none⟩ = some (.int .i64 aK) := (af nK.out 3).trans rfl; have Uf := ah nK.out 0; have Ug := ah nK.out 1; have Uh := ah nK.out 2; have Ui := ah nK.out 3))
   go_ret
   exact ⟨by rfl, by repeat ((with_reducible exact HB.out))⟩
  ·rw [if_neg c6] at H
   have zQ : (a1 == 2) = false := beq_eq_false_iff_ne.mpr c6
   have LY : (a1 != 2) = true := bne_iff_ne.mpr c6
   obtain rfl := Option.some.inj H
   go_enter Try.func87, Try.ntmps87
   go_wp2_with (((with_reducible refine ay (N := 2) rfl ?_); refine aG ?hg (N := 2) ?hd (cs := #[.int .i64 az, .int .i64 aN, .int .i64 aH, .int .i64 aK]) (t := 23) ?hr ?_; (case hd => rfl); (case hg => rfl); (case hr => (go_simp; done)); intro vP hg w9 hbox hb; have nK := ae.mk (hbox); replace HB := ae.mk (ak (by repeat ((with_reducible exact HB.out))) hb); clear hb hbox hg))
   go_ret
   exact ⟨by rfl, by repeat ((with_reducible exact HB.out))⟩
end Go.Proofs.Ytfdmfgaiblfbhaa.P
namespace Go.Proofs.Ytfdmfgaiblfbhaa.P
open Go.RowKit Go.Proofs.ag.aA Go.Proofs.ag.a_ Go.Proofs.ag.bG
theorem Ev.unique {α : Type} {g : Nat → Option α} {a b : α} (h : Ev g a) (k : Ev g b) : a = b := by
 obtain ⟨n, hn⟩ := h
 obtain ⟨m, hm⟩ := k
 have e := (hn (max n m) (by omega)).symm.trans (hm (max n m) (by omega))
 exact Option.some.inj e
theorem Rk (r : dF) (ax : Int) : pz.f r.f0 r.f1 r.f2 r.f3 ax = some (aI ax r) := by
 unfold pz.f aI
 split
 ·rfl
 ·split <;> rfl
theorem sO {c : ai} (h : kD c = true) : (dZ c).all lC = true := by
 unfold kD at h
 simp only [Bool.and_eq_true] at h
 exact h.2.1
theorem lS {c : ai} (h : bW c = true) : kD c = true := by
 unfold bW at h
 simp only [Bool.and_eq_true] at h
 exact h.1
noncomputable def ji (ax : Int) (c : ai) : Int := if (ax = 1 ∨ ax = 2) ∧ bW c = true then wrap64 (aI ax c.f1 - fG ax c) else 0
noncomputable def yj (b : Int) (gs : List Int) : List Int × Bool := by
 classical
 exact if h : ∃ r, Ev (fun k => bV.f k b gs) r then Classical.choose h else ([], false)
theorem adl (b : Int) (gs : List Int) (hl : gs.length ≤ 100000) (h0 : -2147483647 ≤ b) (h1 : b ≤ 2147483647) : Lr b gs (yj b gs) ∧ Ev (fun k => bV.f k b gs) (yj b gs) := by
 obtain ⟨r, hs, he⟩ := UZ b gs hl h0 h1
 have hx : ∃ r, Ev (fun k => bV.f k b gs) r := ⟨r, he⟩
 have e : yj b gs = r := by
  unfold yj
  rw [dif_pos hx]
  exact Ev.unique (Classical.choose_spec hx) he
 rw [e]
 exact ⟨hs, he⟩
def grow (ax OX : Int) (r : dF) : dF := ⟨r.f0, r.f1, if ax = 1 then wrap64 (r.f2 + OX) else r.f2, if ax = 1 then r.f3 else wrap64 (r.f3 + OX)⟩
noncomputable def PQ (ax k : Int) (l : List ai) (OX : Int) (i : Nat) : Int := if (yj OX (l.map (ji ax))).2 = true ∧ iT ax k = true then rd (yj OX (l.map (ji ax))).1 (i : Int) else OX
mutual
noncomputable def qZ (ax : Int) : ai → Int → ai
 | ⟨k, r, id, l⟩, b => ⟨k, grow ax b r, id, wY ax l (PQ ax k l b) 0⟩
noncomputable def wY (ax : Int) : List ai → (Nat → Int) → Nat → List ai
 | [], _, _ => []
 | k :: ks, ns, i => qZ ax k (ns i) :: wY ax ks ns (i + 1)
end
theorem Dp (ax : Int) (c : ai) (b : Int) : qZ ax c b = ⟨c.f0, grow ax b c.f1, c.f2, wY ax c.f3 (PQ ax c.f0 c.f3 b) 0⟩ := by cases c; simp [qZ]
theorem zN (ax : Int) (ns : Nat → Int) (i : Nat) : wY ax [] ns i = [] := by simp [wY]
theorem Jw (ax : Int) (k : ai) (ks : List ai) (ns : Nat → Int) (i : Nat) : wY ax (k :: ks) ns i = qZ ax k (ns i) :: wY ax ks ns (i + 1) := by simp [wY]
def rf.f (l0 : List (ai)) : Option (List ai) := if l0.length ≤ 1000000 then some l0 else none
theorem rf.calls (SG : Nat → Prop) (A0 : Option Addr) (c0 : Nat) (l0 : List (ai)) (r : List ai) (w : World) (hs0 : Kd.V k26 26 w w.heap.size (fun k_ => SG k_) (.slice A0 l0.length c0) l0) (h : rf.f l0 = some r) :
  Calls Try.prog 137 #[.slice A0 l0.length c0] w fun e w' => ∃ CX : Value, e = .returned (CX) ∧ Kd.N k26 26 w' w.heap.size (fun k_ => (SG k_ ∨ w.heap.size ≤ k_)) CX r ∧ Below w.heap.size w w' := by
 unfold rf.f at h
 split at h
 ·rename_i hl
  injection h with h
  subst h
  have HR := ae.mk (Kd.Lt hs0)
  have HL := ae.mk hl
  clear hl
  cases A0 with
  | none =>
   have heq : ∀ W : World, (binOp .eql 24 (.slice none l0.length c0) (.slice none 0 0)).run Try.prog W = .ok (.bool true) W := fun W => Lib.run_eql_slice_nil W 24 26 none l0.length c0 0 0 Try.underlying24
   have e0 : l0 = [] := by
    cases l0 with
    | nil => rfl
    | cons x xs =>
     obtain ⟨ad, h1, _⟩ := (Kd.Fj HR.out).2.2 (by simp)
     cases h1
   have E0 := ae.mk e0
   clear hs0 e0
   go_enter Try.func137, Try.ntmps137
   go_wp2
   go_ret
   exact ⟨_, rfl, by rw [E0.out]; exact Kd.sZ _ _ _ _ _, Below.refl _ _⟩
  | some ad =>
   have heq : ∀ W : World, (binOp .eql 24 (.slice (some ad) l0.length c0) (.slice none 0 0)).run Try.prog W = .ok (.bool false) W := fun W => Lib.run_eql_slice_nil W 24 26 (some ad) l0.length c0 0 0 Try.underlying24
   clear hs0
   go_enter Try.func137, Try.ntmps137
   go_wp2_with (first | ((with_reducible refine ay (N := 5) rfl ?_); refine Kd.zK k26 w.heap.size 26 ?hg (N' := 5) ?hd (xs := ([] : List ai)) (inner := []) (ok := fun k_ => (SG k_ ∨ w.heap.size ≤ k_)) (dY := fun _ => False) ?hr ?hp (fun _ hk => hk.elim) (.inr (Nat.le_refl _)) (Below.refl _ _) (Nat.le_refl _) (by simp) ?_; (case hd => rfl); (case hg => rfl); (case hr => first | (go_simp; done) | (go_simp; rfl)); (case hp => exact bI.none _ _); intro v5 w5 ho hb o7 jQ; clear o7; have HO := ae.mk ho; have HB := ae.mk hb; have HF := ae.mk (Kd.qW (Kd.KG (v := v5) HR.out (fun k hk => by obtain ⟨b, h1, h2⟩ := jQ; rw [h1] at hk; cases hk; exact h2) hb) (fun k hk => hk)); clear ho hb jQ; obtain ⟨Ao, co, eo⟩ := Kd.jE HO.out; subst eo) | ((with_reducible refine ni (b := .append) (xs := #[.tmp 5, .tmp 6]) rfl ?_); at_builtin; refine Kd.wX k26 (w0 := w) w.heap.size rfl (.tmp 5) (.tmp 6) 24 26 (.agg #[(.int .u8 0), (.int .i64 0), (.int .i64 0), (.int .i64 0), (.int .i64 0), (.int .i64 0), (.slice none 0 0)]) 72 rfl Try.underlying24 info26 rfl (by decide) (by omega) (.slice Ao ([] : List ai).length co) [] l0 _ _ _ (fun k_ => (SG k_ ∨ w.heap.size ≤ k_)) (fun k_ => SG k_ ∧ some k_ ≠ (Value.slice Ao ([] : List ai).length co).ownBlock) rfl rfl ?aO ?aR (fun _ h => ⟨.inl h.1, h.2⟩) (fun k hk => .inr (Nat.le_trans (dC HB.out) hk)) ?aB ?aS ?aL ?_; (case aO => exact HO.out); (case aR => exact HF.out); (case aB => exact HB.out); (case aS => exact dC HB.out); (case aL => (have := HL.out; simp only [List.length_nil]; omega)); intro v7 w7 h1 h2 h3_ h4_; clear h3_ h4_; have HO7 := ae.mk h1; have HB7 := ae.mk h2; clear h1 h2 HO HB HF))
   go_wp2
   go_ret
   exact ⟨_, rfl, HO7.out, HB7.out⟩
 ·exact absurd h (by simp)
def yg (a : Int) (k : ai) (x : Int) : Int := if a = 2 then wrap64 (x + wrap64 (k.f1.f2 + 1)) else x
def yh (a : Int) (k : ai) (y : Int) : Int := if a = 2 then y else if a = 3 then wrap64 (y + wrap64 (k.f1.f3 + 1)) else y
mutual
def gz : ai → Int → Int → ai
 | ⟨a, b, d, l⟩, x, y => ⟨a, ⟨x, y, b.f2, b.f3⟩, d, jM a l x y⟩
def jM : Int → List ai → Int → Int → List ai
 | _, [], _, _ => []
 | a, k :: ks, x, y => gz k x y :: jM a ks (yg a k x) (yh a k y)
end
theorem mW (c : ai) (x y : Int) : gz c x y = ⟨c.f0, ⟨x, y, c.f1.f2, c.f1.f3⟩, c.f2, jM c.f0 c.f3 x y⟩ := by cases c; simp [gz]
theorem nH (a x y : Int) : jM a [] x y = [] := by simp [jM]
theorem pR (a : Int) (k : ai) (ks : List ai) (x y : Int) : jM a (k :: ks) x y = gz k x y :: jM a ks (yg a k x) (yh a k y) := by simp [jM]
def qi (a : Int) (l : List ai) (x : Int) : Int := l.foldl (fun x k => yg a k x) x
def qj (a : Int) (l : List ai) (y : Int) : Int := l.foldl (fun y k => yh a k y) y
theorem UU (a : Int) (k : ai) : ∀ (l : List ai) (x y : Int), jM a (l ++ [k]) x y = jM a l x y ++ [gz k (qi a l x) (qj a l y)] := by
 intro l
 induction l with
 | nil => intro x y; rw [List.nil_append, pR, nH, nH]; rfl
 | cons z zs ih => intro x y; rw [List.cons_append, pR, pR, ih]; rfl
theorem AZ (a : Int) (k : ai) (l : List ai) (x : Int) : qi a (l ++ [k]) x = yg a k (qi a l x) := by simp [qi]
theorem A8 (a : Int) (k : ai) (l : List ai) (y : Int) : qj a (l ++ [k]) y = yh a k (qj a l y) := by simp [qj]
theorem tN (a : Int) : ∀ (l : List ai) (x y : Int), (jM a l x y).length = l.length := by
 intro l
 induction l with
 | nil => intro x y; rw [nH]
 | cons z zs ih => intro x y; rw [pR]; simp [ih]
theorem ZW (a : Int) (pre : List ai) (k : ai) (rest : List ai) (x y : Int) : (jM a pre x y ++ k :: rest).set pre.length (gz k (qi a pre x) (qj a pre y)) = jM a (pre ++ [k]) x y ++ rest := by
 rw [UU, ← tN a pre x y, List.set_append_right _ _ (Nat.le_refl _), Nat.sub_self, List.set_cons_zero]
 simp
theorem UX (a : Int) (pre : List ai) (k : ai) (rest : List ai) (x y : Int) : aj (jM a pre x y ++ k :: rest) (pre.length : Int) = k := by
 rw [← tN a pre x y]
 simp [aj, List.getD_eq_getElem?_getD]
def mf.T6 : Bool × List (List Nat × List Nat) := (true, [([], []), ([0], [0]), ([], []), ([], []), ([], []), ([], []), ([3, 4, 5], [3, 4, 5]), ([1, 2, 0, 1, 2, 3, 4, 5, 6], [1, 2]), ([7, 6, 6, 0, 1, 2, 3, 4, 5, 6], [6, 7])])
def mf.B6 : List Nat := [0, 1, 0, 0, 0, 0, 56, 127, 255]
theorem mf.tab6 : iJ .any (opsOf Try.f66 6) = mf.T6 := by kernel_rfl
theorem mf.FN : jm mf.T6.2 mf.B6 = true := by kernel_rfl
theorem aeN : ∀ (N : Nat) (c : ai), sz c ≤ N → N ≤ 1000000 → ∀ (P : Nat → Prop) (A : Option Addr) (cc : Nat) (x y : Int) (w : World), Kd.V k26 26 w w.heap.size P (.slice A c.f3.length cc) c.f3 →
  Calls Try.prog 66 #[.agg #[.int .u8 c.f0, .int .i64 c.f1.f0, .int .i64 c.f1.f1, .int .i64 c.f1.f2, .int .i64 c.f1.f3, .int .i64 c.f2, .slice A c.f3.length cc], .int .i64 x, .int .i64 y] w
   fun e w' => ∃ v : Value, e = .returned (.agg #[.int .u8 c.f0, .int .i64 x, .int .i64 y, .int .i64 c.f1.f2, .int .i64 c.f1.f3, .int .i64 c.f2, v]) ∧ Kd.N k26 26 w' w.heap.size (fun k => P k ∨ w.heap.size ≤ k) v (jM c.f0 c.f3 x y) ∧ Below w.heap.size w w' := by
 intro N
 induction N with
 | zero => intro c h; rw [dB] at h; omega
 | succ N ih =>
  intro c hc hN P A cc x y w hs
  have hsz := dB c
  have hlen := ku c.f3
  have IH := ae.mk fun (k : ai) (hk : k ∈ c.f3) => ih k (by
   have : sz k ≤ dM c.f3 := by
    obtain ⟨p, q, e⟩ := List.append_of_mem hk
    rw [e, jH, b_]; omega
   omega) (by omega)
  have KI := ae.mk fun (W : World) (P' : Nat → Prop) (hV : Kd.V k26 26 W w.heap.size P' (.slice A c.f3.length cc) c.f3) => rf.calls P' A cc c.f3 c.f3 W hV (if_pos (by omega))
  have HO := ae.mk hs
  have HL := ae.mk (show c.f3.length ≤ 1000000 by omega)
  have HB := ae.mk (Below.refl w.heap.size w)
  clear ih hs hc hN hsz hlen
  obtain ⟨ck, ⟨cx, cy, cw, ch⟩, aV, l⟩ := c
  simp only [] at HO HL IH KI ⊢
  go_enter Try.func66, Try.ntmps66
  go_upto_region 2 with (first | ((with_reducible refine ay (N := 3) rfl ?_); refine aG ?hg (N := 3) ?hd (cs := #[.int .u8 ck, .int .i64 cx, .int .i64 cy, .int .i64 cw, .int .i64 ch, .int .i64 aV, .slice A l.length cc]) (t := 26) ?hr ?_; (case hd => rfl); (case hg => rfl); (case hr => (go_simp; done)); intro b3 hg U_ hbox hb; have RS := ae.mk (show w.heap.size ≤ b3 by rw [hg]; exact HB.out.size); have kM := ae.mk (ak HB.out hb); have rG := ae.mk (Kd.lH (Kd.oI HO.out b3 (by rw [hg]; exact Nat.le_refl _)) hb); clear HB HO; have HB := kM; have HO := rG; clear kM rG; have bU := ae.mk hbox; clear hb hbox hg) | ((with_reducible refine ay (N := 6) rfl ?_); refine aG ?hg (N := 6) ?hd (cs := #[.int .u8 0, .int .i64 0, .int .i64 0, .int .i64 0, .int .i64 0, .int .i64 0, .slice none 0 0]) (t := 26) ?hr ?_; (case hd => rfl); (case hg => rfl); (case hr => (go_simp; done)); intro b6 hg wb6 hbox hb; have Gb6 := ae.mk (show w.heap.size ≤ b6 by rw [hg]; exact HB.out.size); have tJ := ae.mk (show b3 ≠ b6 by rw [hg]; exact Nat.ne_of_lt (eH bU.out)); have kM := ae.mk (ak HB.out hb); have rG := ae.mk (Kd.lH (Kd.oI HO.out b6 (by rw [hg]; exact Nat.le_refl _)) hb); have iD := ae.mk (aJ bU.out hb); clear HB HO bU; have HB := kM; have HO := rG; have bU := iD; clear kM rG iD; have fJ := ae.mk hbox; clear hb hbox hg) | ((with_reducible refine lq (.store 3 (.tmp 12) (.tmp 9)) rfl ?_); go_loud (refine fO (w0 := w) rfl rfl 3 (.tmp 12) (.tmp 9) rfl (g := b3) (j := 1) (base := w.heap.size) #[.int .u8 ck, .int .i64 x, .int .i64 cy, .int .i64 cw, .int .i64 ch, .int .i64 aV, .slice A l.length cc] (u := .int .i64 x) (bF := [.int .i64 x]) ?sA ?sX rfl ?sT ?s1 bU.out ?sJ rfl HB.out HB.out.size RS.out ?_; (case sA => rfl); (case sX => rfl); (case sT => rfl); (case s1 => (simp [Value.oneCell'])); (case sJ => (simp)); intro ws1 hbk hbb hgg; have rG := ae.mk (Kd.tZ HO.out hgg (fun k_ hk e_ => absurd (Option.some.inj e_) hk.1.2)); have iE := ae.mk (bP fJ.out hgg (fun e_ => absurd (Option.some.inj e_) (by exact (fun MO => tJ.out MO.symm)))); clear HO fJ; have HO := rG; have fJ := iE; clear rG iE; clear bU HB; have bU := ae.mk hbk; have HB := ae.mk hbb; clear hbk hbb hgg)) | ((with_reducible refine lq (.store 3 (.tmp 14) (.tmp 10)) rfl ?_); go_loud (refine fO (w0 := w) rfl rfl 3 (.tmp 14) (.tmp 10) rfl (g := b3) (j := 2) (base := w.heap.size) #[.int .u8 ck, .int .i64 x, .int .i64 y, .int .i64 cw, .int .i64 ch, .int .i64 aV, .slice A l.length cc] (u := .int .i64 y) (bF := [.int .i64 y]) ?sA ?sX rfl ?sT ?s1 bU.out ?sJ rfl HB.out HB.out.size RS.out ?_; (case sA => rfl); (case sX => rfl); (case sT => rfl); (case s1 => (simp [Value.oneCell'])); (case sJ => (simp)); intro ws2 hbk hbb hgg; have rG := ae.mk (Kd.tZ HO.out hgg (fun k_ hk e_ => absurd (Option.some.inj e_) hk.1.2)); have iE := ae.mk (bP fJ.out hgg (fun e_ => absurd (Option.some.inj e_) (by exact (fun MO => tJ.out MO.symm)))); clear HO fJ; have HO := rG; have fJ := iE; clear rG iE; clear bU HB; have bU := ae.mk hbk; have HB := ae.mk hbb; clear hbk hbb hgg)))
  have FO : _ = some (Value.slice A l.length cc) := (af bU.out 6).trans rfl
  go_upto_region 3 with (first | ((with_reducible refine kE (f := 137) rfl ?_); refine ny (some 17) rfl rfl Try.func137 (by kernel_rfl) rfl #[.slice A l.length cc] rfl (by (try simp only [List.map_toArray, List.map_cons, List.map_nil]); rfl) ?_; refine (KI.out _ _ HO.out).mono ?_; rintro e wc1 ⟨v1, rfl, ho, hb⟩; refine ⟨_, rfl, ?_⟩; have HN := ae.mk (Lj ho (eH bU.out) (eH fJ.out) HB.out.size); clear ho HO; obtain ⟨A1, c1, e1⟩ := Kd.jE HN.out; subst e1; have kM := ae.mk (ak HB.out hb); have iD := ae.mk (aJ bU.out hb); have iE := ae.mk (aJ fJ.out hb); clear HB bU fJ; have HB := kM; have bU := iD; have fJ := iE; clear kM iD iE; clear hb) | ((with_reducible refine lq (.store 24 (.tmp 18) (.tmp 17)) rfl ?_); go_loud (refine fO (w0 := w) rfl rfl 24 (.tmp 18) (.tmp 17) rfl (g := b3) (j := 6) (base := w.heap.size) #[.int .u8 ck, .int .i64 x, .int .i64 y, .int .i64 cw, .int .i64 ch, .int .i64 aV, .slice A1 l.length c1] (u := .slice A1 l.length c1) (bF := [.slice A1 l.length c1]) ?sA ?sX rfl ?sT ?s1 bU.out ?sJ rfl HB.out HB.out.size RS.out ?_; (case sA => rfl); (case sX => rfl); (case sT => rfl); (case s1 => (simp [Value.oneCell'])); (case sJ => (simp)); intro ws3 hbk hbb hgg; have iE := ae.mk (bP fJ.out hgg (fun e_ => absurd (Option.some.inj e_) (by exact (fun MO => tJ.out MO.symm)))); have kN := ae.mk (Kd.tY HN.out hgg (fun k_ hk e_ => absurd (Option.some.inj e_) hk.1.2)); clear fJ HN; have fJ := iE; have HN := kN; clear iE kN; clear bU HB; have bU := ae.mk hbk; have HB := ae.mk hbb; clear hbk hbb hgg)))
  clear FO
  have FO : _ = some (Value.slice A1 l.length c1) := (af bU.out 6).trans rfl
  go_wp2
  clear FO
  go_loopg [1, 2, 22] l.length (fun gg v1 v2 v22 wr => ∃ (pre rest : List ai), v1 = .int .i64 (qi ck pre x) ∧ v2 = .int .i64 (qj ck pre y) ∧ v22 = .int .i64 (pre.length : Int) ∧ ae (pre ++ rest = l) ∧ rest.length ≤ gg ∧ ae (Kd.N k26 26 wr w.heap.size (fun q => ((P q ∨ w.heap.size ≤ q) ∧ q ≠ b3) ∧ q ≠ b6) (.slice A1 l.length c1) (jM ck pre x y ++ rest)) ∧ ae (wr.heap[b3]? = some (.cells #[.int .u8 ck, .int .i64 x, .int .i64 y, .int .i64 cw, .int .i64 ch, .int .i64 aV, .slice A1 l.length c1] 26 (0, 0))) ∧ ae (wr.heap[b6]? = some (.cells #[.int .u8 0, .int .i64 0, .int .i64 0, .int .i64 0, .int .i64 0, .int .i64 0, .slice none 0 0] 26 (0, 0))) ∧ ae (Below w.heap.size w wr))
  case atStart => exact ⟨[], l, rfl, rfl, rfl, ⟨rfl⟩, Nat.le_refl _, ⟨by rw [nH]; exact HN.out⟩, bU, fJ, HB⟩
  case round =>
   clear HN bU fJ HB
   obtain ⟨pre, rest, rfl, rfl, rfl, HE, hgg, HN, bU, fJ, HB⟩ := hrel
   cases rest with
   | nil =>
    have hpl : pre = l := by have := HE.out; rwa [List.append_nil] at this
    have hlt : ¬ ((pre.length : Int) < (l.length : Int)) := by rw [hpl]; omega
    have HP := ae.mk hpl
    clear hpl hgg
    have c30 := (af bU.out 0).trans rfl
    have c31 := (af bU.out 1).trans rfl
    have c32 := (af bU.out 2).trans rfl
    have c33 := (af bU.out 3).trans rfl
    have c34 := (af bU.out 4).trans rfl
    have c35 := (af bU.out 5).trans rfl
    have FO := (af bU.out 6).trans rfl
    go_wp2_with (((with_reducible refine lq (.store 26 (.tmp 6) (.tmp 54)) rfl ?_); go_loud (refine fO (w0 := w) rfl rfl 26 (.tmp 6) (.tmp 54) rfl (g := b6) (j := 0) (base := w.heap.size) #[.int .u8 ck, .int .i64 x, .int .i64 y, .int .i64 cw, .int .i64 ch, .int .i64 aV, .slice A1 l.length c1] (u := .agg #[.int .u8 ck, .int .i64 x, .int .i64 y, .int .i64 cw, .int .i64 ch, .int .i64 aV, .slice A1 l.length c1]) (bF := [.int .u8 ck, .int .i64 x, .int .i64 y, .int .i64 cw, .int .i64 ch, .int .i64 aV, .slice A1 l.length c1]) ?sA ?sX rfl ?sT ?s1 fJ.out ?sJ rfl HB.out HB.out.size Gb6.out ?_; (case sA => rfl); (case sX => rfl); (case sT => rfl); (case s1 => (simp [Value.oneCell'])); (case sJ => (simp)); intro agN hbk hbb hgg; have kN := ae.mk (Kd.tY HN.out hgg (fun k_ hk e_ => absurd (Option.some.inj e_) hk.2)); have iD := ae.mk (bP bU.out hgg (fun e_ => absurd (Option.some.inj e_) tJ.out)); clear HN bU; have HN := kN; have bU := iD; clear kN iD; clear fJ HB; have fJ := ae.mk hbk; have HB := ae.mk hbb; clear hbk hbb hgg)))
    refine bodyPost_ret (results_cell_row rfl _ _ b6 26 _ (0, 0) _ rfl fJ.out Try.underlying26 rfl (by kernel_rfl)) rfl ?_
    refine ⟨_, rfl, ?_, HB.out⟩
    rw [← HP.out]
    have hf := HN.out
    rw [List.append_nil] at hf
    rw [HP.out] at hf ⊢
    exact Kd.iM hf (fun q hq => hq.1.1)
   | cons k rest =>
    have hk : k ∈ l := by rw [← HE.out]; simp
    have hlt : (pre.length : Int) < (l.length : Int) := by rw [← HE.out, List.length_append, List.length_cons]; omega
    have hw : wrap64 ((pre.length : Int) + 1) = ((pre ++ [k]).length : Int) := by rw [List.length_append, List.length_singleton]; unfold wrap64; have := HL.out; omega
    obtain ⟨g, cap, he, hgb, VY, _⟩ := Kd.su HN.out (by rw [List.length_append, List.length_cons]; omega)
    injection he with ea en ec
    subst ea
    subst ec
    clear en
    have HGB := ae.mk hgb
    obtain ⟨ce, hcl, hM, hcc, hfr⟩ := Kd.wC HN.out z26 (pre.length : Int) (Int.natCast_nonneg _) hlt
    have hrd : (jM ck pre x y ++ k :: rest).getD (pre.length : Int).toNat z26 = k := UX ck pre k rest x y
    rw [hrd] at hM
    obtain ⟨ua, uc, rfl, ul, ge⟩ := mP hM
    have HV := ae.mk (show Kd.V k26 26 wr w.heap.size _ (.slice ua k.f3.length uc) k.f3 from Kd.tK ul ge)
    have x0 : wr.cell? ⟨g, pre.length * 7, none⟩ = some (.int .u8 k.f0) := hcc 0 _ rfl
    have x1 : wr.cell? ⟨g, pre.length * 7 + 1, none⟩ = some (.int .i64 k.f1.f0) := hcc 1 _ rfl
    have x2 : wr.cell? ⟨g, pre.length * 7 + 2, none⟩ = some (.int .i64 k.f1.f1) := hcc 2 _ rfl
    have x3 : wr.cell? ⟨g, pre.length * 7 + 3, none⟩ = some (.int .i64 k.f1.f2) := hcc 3 _ rfl
    have x4 : wr.cell? ⟨g, pre.length * 7 + 4, none⟩ = some (.int .i64 k.f1.f3) := hcc 4 _ rfl
    have x5 : wr.cell? ⟨g, pre.length * 7 + 5, none⟩ = some (.int .i64 k.f2) := hcc 5 _ rfl
    have x6 : wr.cell? ⟨g, pre.length * 7 + 6, none⟩ = some (.slice ua k.f3.length uc) := hcc 6 _ rfl
    have HW1 := ae.mk hw
    have HK := ae.mk hk
    have kX := ae.mk hgg
    clear hcl hM hcc hfr hrd ul ge hgb VY hw hk hgg
    go_upto_region 6 with (first | ((with_reducible refine ay (N := 8) rfl ?_); refine aG ?hg (N := 8) ?hd (cs := #[.int .u8 0, .int .i64 0, .int .i64 0, .int .i64 0, .int .i64 0, .int .i64 0, .slice none 0 0]) (t := 26) ?hr ?_; (case hd => rfl); (case hg => rfl); (case hr => (go_simp; done)); intro b8 hg wb8 hbox hb; have Gb8 := ae.mk (show w.heap.size ≤ b8 by rw [hg]; exact HB.out.size); have Ej := ae.mk (show b3 ≠ b8 by rw [hg]; exact Nat.ne_of_lt (eH bU.out)); have Em := ae.mk (show b6 ≠ b8 by rw [hg]; exact Nat.ne_of_lt (eH fJ.out)); have kM := ae.mk (ak HB.out hb); have kN := ae.mk (Kd.qy (Kd.zJ HN.out b8 (by rw [hg]; exact Nat.le_refl _)) hb); have rH := ae.mk (Kd.lH (Kd.oI HV.out b8 (by rw [hg]; exact Nat.le_refl _)) hb); have iD := ae.mk (aJ bU.out hb); have iE := ae.mk (aJ fJ.out hb); clear HB HN HV bU fJ; have HB := kM; have HN := kN; have HV := rH; have bU := iD; have fJ := iE; clear kM kN rH iD iE; have Kb8 := ae.mk hbox; clear hb hbox hg) | ((with_reducible refine lq (.store 26 (.tmp 8) (.tmp 26)) rfl ?_); go_loud (refine fO (w0 := w) rfl rfl 26 (.tmp 8) (.tmp 26) rfl (g := b8) (j := 0) (base := w.heap.size) #[.int .u8 k.f0, .int .i64 k.f1.f0, .int .i64 k.f1.f1, .int .i64 k.f1.f2, .int .i64 k.f1.f3, .int .i64 k.f2, .slice ua k.f3.length uc] (u := .agg #[.int .u8 k.f0, .int .i64 k.f1.f0, .int .i64 k.f1.f1, .int .i64 k.f1.f2, .int .i64 k.f1.f3, .int .i64 k.f2, .slice ua k.f3.length uc]) (bF := [.int .u8 k.f0, .int .i64 k.f1.f0, .int .i64 k.f1.f1, .int .i64 k.f1.f2, .int .i64 k.f1.f3, .int .i64 k.f2, .slice ua k.f3.length uc]) ?sA ?sX rfl ?sT ?s1 Kb8.out ?sJ rfl HB.out HB.out.size Gb8.out ?_; (case sA => rfl); (case sX => rfl); (case sT => rfl); (case s1 => (simp [Value.oneCell'])); (case sJ => (simp)); intro WY hbk hbb hgg; have kN := ae.mk (Kd.tY HN.out hgg (fun k_ hk e_ => absurd (Option.some.inj e_) hk.2)); have rH := ae.mk (Kd.tZ HV.out hgg (fun k_ hk e_ => absurd (Option.some.inj e_) hk.2)); have iD := ae.mk (bP bU.out hgg (fun e_ => absurd (Option.some.inj e_) Ej.out)); have iE := ae.mk (bP fJ.out hgg (fun e_ => absurd (Option.some.inj e_) Em.out)); clear HN HV bU fJ; have HN := kN; have HV := rH; have bU := iD; have fJ := iE; clear kN rH iD iE; clear Kb8 HB; have Kb8 := ae.mk hbk; have HB := ae.mk hbb; clear hbk hbb hgg)))
    clear x0 x1 x2 x3 x4 x5 x6
    have q_ := ae.mk (bJ HB.out)
    clear HB
    have HB := q_
    clear q_
    have q_ := ae.mk (Kd.SA HN.out)
    clear HN
    have HN := q_
    clear q_
    have q_ := ae.mk (Kd.SK HV.out)
    clear HV
    have HV := q_
    clear q_
    have q_ := ae.mk (dS bU.out)
    clear bU
    have bU := q_
    clear q_
    have q_ := ae.mk (dS fJ.out)
    clear fJ
    have fJ := q_
    clear q_
    have q_ := ae.mk (dS Kb8.out)
    clear Kb8
    have Kb8 := q_
    clear q_
    refine jL (n := 9) (S := fun w' => w'.heap[b3]? = some (.cells #[.int .u8 ck, .int .i64 x, .int .i64 y, .int .i64 cw, .int .i64 ch, .int .i64 aV, .slice (some ⟨g, 0, none⟩) l.length c1] 26 (0, 0)) ∧ w'.heap[b8]? = some (.cells #[.int .u8 k.f0, .int .i64 k.f1.f0, .int .i64 k.f1.f1, .int .i64 k.f1.f2, .int .i64 k.f1.f3, .int .i64 k.f2, .slice ua k.f3.length uc] 26 (0, 0))) (ds := [8]) #[false, false, false, false, false, false, false, false, false] (by kernel_rfl) rfl rfl ⟨bU.out, Kb8.out⟩ (fun hHeld => ?_); refine fP mf.tab6 mf.FN (fun au fE => ?_)
    generalize WY.drew = wd at HB HN HV bU fJ Kb8 hHeld ⊢
    refine vV (i := 0) (N := some 27) (v := ?_) (a' := ?_) #[true, false, false, false, false, false, false, false, false] rfl rfl (sD au.out (by kernel_rfl)) (fun _ _ _ h => h) (Or.inl ⟨by rfl, ?_⟩) ?_ ?_
    rotate_left
    ·intro w'; go_simp; with_reducible rfl
    rotate_left
    ·simp only [Act.put, List.setIfInBounds_toArray, List.set_cons_zero, List.set_cons_succ, lU, lT]
     rfl
    refine vV (i := 2) (N := some 29) (v := ?_) (a' := ?_) #[true, false, true, false, false, false, false, false, false] rfl rfl (sD au.out (by kernel_rfl)) (fun _ _ _ h => h) (Or.inl ⟨by rfl, ?_⟩) ?_ ?_
    rotate_left
    ·intro w'; go_simp; with_reducible rfl
    rotate_left
    ·simp only [Act.put, List.setIfInBounds_toArray, List.set_cons_zero, List.set_cons_succ, lU, lT]
     rfl
    refine vV (i := 4) (N := some 31) (v := ?_) (a' := ?_) #[true, false, true, false, true, false, false, false, false] rfl rfl (sD au.out (by kernel_rfl)) (fun _ _ _ h => h) (Or.inl ⟨by rfl, ?_⟩) ?_ ?_
    rotate_left
    ·intro w'; go_simp; with_reducible rfl
    rotate_left
    ·simp only [Act.put, List.setIfInBounds_toArray, List.set_cons_zero, List.set_cons_succ, lU, lT]
     rfl
    refine vV (i := 5) (N := some 32) (v := ?_) (a' := ?_) #[true, false, true, false, true, true, false, false, false] rfl rfl (sD au.out (by kernel_rfl)) (fun _ _ _ h => h) (Or.inl ⟨by rfl, ?_⟩) ?_ ?_
    rotate_left
    ·intro w'; go_simp; with_reducible rfl
    rotate_left
    ·simp only [Act.put, List.setIfInBounds_toArray, List.set_cons_zero, List.set_cons_succ, lU, lT]
     rfl
    refine Bd (i := 1) (N := some 28) (v := ?_) (a' := ?_) #[true, true, true, false, true, true, false, false, false] rfl rfl (yu au.out fE.out (by kernel_rfl)) (fun _ _ _ h => h) (Or.inl ⟨by rfl, ?_⟩) hHeld ?_ ?_
    rotate_left
    ·intro w' hs_
     have c := (af hs_.1 6).trans rfl
     go_simp; with_reducible rfl
    rotate_left
    ·simp only [Act.put, List.setIfInBounds_toArray, List.set_cons_zero, List.set_cons_succ, lU, lT]
     rfl
    refine Bd (i := 3) (N := some 30) (v := ?_) (a' := ?_) #[true, true, true, true, true, true, false, false, false] rfl rfl (yu au.out fE.out (by kernel_rfl)) (fun _ _ _ h => h) (Or.inl ⟨by rfl, ?_⟩) hHeld ?_ ?_
    rotate_left
    ·intro w' hs_
     have c0 := (af hs_.2 0).trans rfl
     have c1 := (af hs_.2 1).trans rfl
     have c2 := (af hs_.2 2).trans rfl
     have c3 := (af hs_.2 3).trans rfl
     have c4 := (af hs_.2 4).trans rfl
     have c5 := (af hs_.2 5).trans rfl
     have c6 := (af hs_.2 6).trans rfl
     go_simp; with_reducible rfl
    rotate_left
    ·simp only [Act.put, List.setIfInBounds_toArray, List.set_cons_zero, List.set_cons_succ, lU, lT]
     rfl
    refine Wq (i := 6) (N := some 33) #[true, true, true, true, true, true, true, false, false] rfl rfl (zo au.out (by kernel_rfl)) (by decide) (fun K hK => ?_)
    refine zZ Try.func66 (by kernel_rfl) rfl #[.agg #[.int .u8 k.f0, .int .i64 k.f1.f0, .int .i64 k.f1.f1, .int .i64 k.f1.f2, .int .i64 k.f1.f3, .int .i64 k.f2, .slice ua k.f3.length uc], .int .i64 (qi ck pre x), .int .i64 (qj ck pre y)] (by rfl) rfl rfl (by (try simp only [List.map_toArray, List.map_cons, List.map_nil]); rfl) ?_
    refine (IH.out k HK.out _ ua uc (qi ck pre x) (qj ck pre y) wd HV.out).mono ?_
    rintro e wk ⟨v, rfl, ho, hb⟩
    refine ⟨_, rfl, ?_⟩
    have HE3 := ae.mk (eH bU.out)
    have HE6 := ae.mk (eH fJ.out)
    have HE8 := ae.mk (eH Kb8.out)
    have HEG := ae.mk (Kd.Bq HN.out g rfl)
    have HS := ae.mk HB.out.size
    have kM := ae.mk (ak HB.out hb); have kN := ae.mk (Kd.qy HN.out hb); have rH := ae.mk (Kd.lH HV.out hb); have iD := ae.mk (aJ bU.out hb); have iE := ae.mk (aJ fJ.out hb); have G5 := ae.mk (aJ Kb8.out hb); clear HB HN HV bU fJ Kb8; have HB := kM; have HN := kN; have HV := rH; have bU := iD; have fJ := iE; have Kb8 := G5; clear kM kN rH iD iE G5
    clear HV hb
    obtain ⟨Av, cv, ev⟩ := Kd.jE ho
    subst ev
    have qH := ae.mk ho
    clear ho
    refine hK.out _ _ ⟨bU.out, Kb8.out⟩ (fun hHeld => ?_)
    clear hK K
    refine qQ (a' := ?_) ?_ ?_
    rotate_left
    ·show Act.put _ (some 33) _ = _
     simp only [Act.put, List.setIfInBounds_toArray, List.set_cons_zero, List.set_cons_succ, lU, lT]
     rfl
    refine vV (i := 7) (N := some 34) (v := ?_) (a' := ?_) #[true, true, true, true, true, true, true, true, false] rfl rfl (sD au.out (by kernel_rfl)) (fun _ _ _ h => h) (Or.inl ⟨by rfl, ?_⟩) ?_ ?_
    rotate_left
    ·intro w'; go_simp; with_reducible rfl
    rotate_left
    ·simp only [Act.put, List.setIfInBounds_toArray, List.set_cons_zero, List.set_cons_succ, lU, lT]
     rfl
    obtain ⟨ce, hcl, hM, hcc, hfr⟩ := Kd.wC HN.out z26 (pre.length : Int) (Int.natCast_nonneg _) hlt
    have hrd : (jM ck pre x y ++ k :: rest).getD (pre.length : Int).toNat z26 = k := UX ck pre k rest x y
    rw [hrd] at hM
    obtain ⟨ub, ud, rfl, _, _⟩ := mP hM
    have x0 : wk.cell? ⟨g, pre.length * 7, none⟩ = some (.int .u8 k.f0) := hcc 0 _ rfl
    have f0 : wk.frozen? ⟨g, pre.length * 7, none⟩ = false := hfr 0
    have x1 : wk.cell? ⟨g, pre.length * 7 + 1, none⟩ = some (.int .i64 k.f1.f0) := hcc 1 _ rfl
    have f1 : wk.frozen? ⟨g, pre.length * 7 + 1, none⟩ = false := hfr 1
    have x2 : wk.cell? ⟨g, pre.length * 7 + 2, none⟩ = some (.int .i64 k.f1.f1) := hcc 2 _ rfl
    have f2 : wk.frozen? ⟨g, pre.length * 7 + 2, none⟩ = false := hfr 2
    have x3 : wk.cell? ⟨g, pre.length * 7 + 3, none⟩ = some (.int .i64 k.f1.f2) := hcc 3 _ rfl
    have f3 : wk.frozen? ⟨g, pre.length * 7 + 3, none⟩ = false := hfr 3
    have x4 : wk.cell? ⟨g, pre.length * 7 + 4, none⟩ = some (.int .i64 k.f1.f3) := hcc 4 _ rfl
    have f4 : wk.frozen? ⟨g, pre.length * 7 + 4, none⟩ = false := hfr 4
    have x5 : wk.cell? ⟨g, pre.length * 7 + 5, none⟩ = some (.int .i64 k.f2) := hcc 5 _ rfl
    have f5 : wk.frozen? ⟨g, pre.length * 7 + 5, none⟩ = false := hfr 5
    have x6 : wk.cell? ⟨g, pre.length * 7 + 6, none⟩ = some (.slice ub k.f3.length ud) := hcc 6 _ rfl
    have f6 : wk.frozen? ⟨g, pre.length * 7 + 6, none⟩ = false := hfr 6
    have iG : ∀ q, (((fun q => ((P q ∨ w.heap.size ≤ q) ∧ q ≠ b3) ∧ q ≠ b6) q ∧ q ≠ g) ∧ q ≠ b8) ∨ wd.heap.size ≤ q → ((fun q => ((P q ∨ w.heap.size ≤ q) ∧ q ≠ b3) ∧ q ≠ b6) q ∧ q ≠ b8) ∧ q ≠ g := fun q hq => hq.elim (fun h => ⟨⟨h.1.1, h.2⟩, h.1.2⟩) (fun hn => ⟨⟨⟨⟨.inr (Nat.le_trans HS.out hn), Nat.ne_of_gt (Nat.lt_of_lt_of_le HE3.out hn)⟩, Nat.ne_of_gt (Nat.lt_of_lt_of_le HE6.out hn)⟩, Nat.ne_of_gt (Nat.lt_of_lt_of_le HE8.out hn)⟩, Nat.ne_of_gt (Nat.lt_of_lt_of_le HEG.out hn)⟩)
    have JD := o8 wk _ (gz k (qi ck pre x) (qj ck pre y)) (A6 := Av) (c6 := cv) (by rw [mW]; exact (Kd.jo qH.out).2.1) (by rw [mW]; exact Kd.Xi qH.out)
    have hseg := Kd.Qm HN.out (pre.length : Int) (Int.natCast_nonneg _) hlt (bF := [.int .u8 k.f0, .int .i64 (qi ck pre x), .int .i64 (qj ck pre y), .int .i64 k.f1.f2, .int .i64 k.f1.f3, .int .i64 k.f2, .slice Av (jM k.f0 k.f3 (qi ck pre x) (qj ck pre y)).length cv]) (j := 0) hcl hcc (show 0 + 7 ≤ 7 from by decide) (x' := gz k (qi ck pre x) (qj ck pre y)) (by rw [mW] at JD ⊢; exact JD) iG
    rw [show (jM ck pre x y ++ k :: rest).set (pre.length : Int).toNat (gz k (qi ck pre x) (qj ck pre y)) = jM ck (pre ++ [k]) x y ++ rest from ZW ck pre k rest x y] at hseg
    obtain ⟨w9, BV⟩ : ∃ w9, w9 = wk.setCells g ((pre.length : Int).toNat * 7 + 0) [.int .u8 k.f0, .int .i64 (qi ck pre x), .int .i64 (qj ck pre y), .int .i64 k.f1.f2, .int .i64 k.f1.f3, .int .i64 k.f2, .slice Av (jM k.f0 k.f3 (qi ck pre x) (qj ck pre y)).length cv] := ⟨_, rfl⟩
    replace hseg : Kd.N k26 26 w9 w.heap.size (fun q => (fun q => ((P q ∨ w.heap.size ≤ q) ∧ q ≠ b3) ∧ q ≠ b6) q ∧ q ≠ b8) (.slice (some ⟨g, 0, none⟩) l.length c1) (jM ck (pre ++ [k]) x y ++ rest) ∧ wk.grownBy w9 (some g) := by rw [BV]; exact hseg
    have Sj := ae.mk (Kd.SB hseg.1)
    have KJ := ae.mk (grown_below HB.out hseg.2 HGB.out HB.out.size)
    have wW := ae.mk (bP bU.out hseg.2 (fun e_ => (HN.out.1 g rfl).1.1.2 (Option.some.inj e_).symm))
    have Lc := ae.mk (bP fJ.out hseg.2 (fun e_ => (HN.out.1 g rfl).1.2 (Option.some.inj e_).symm))
    have Ei := ae.mk (bP Kb8.out hseg.2 (fun e_ => (HN.out.1 g rfl).2 (Option.some.inj e_).symm))
    clear hseg JD iG hcl hcc hfr hM hrd HN HB bU fJ Kb8 hHeld qH
    refine QR (i := 8) (N := none) #[true, true, true, true, true, true, true, true, true] rfl rfl (zo au.out (by kernel_rfl)) (by decide) (fun K hK => ?_)
    refine Hl (w1 := w9) (by rfl) rfl ?_ ?_
    ·rw [BV]; go_simp; rfl
    refine hK.out _ _ ?_
    clear hK K x0 x1 x2 x3 x4 x5 x6 f0 f1 f2 f3 f4 f5 f6 BV
    refine lh (jb au.out (by kernel_rfl)) ?_
    have d0 := (af wW.out 0).trans rfl
    have e0 := (af Ei.out 0).trans rfl
    have d1 := (af wW.out 1).trans rfl
    have e1 := (af Ei.out 1).trans rfl
    have d2 := (af wW.out 2).trans rfl
    have e2 := (af Ei.out 2).trans rfl
    have d3 := (af wW.out 3).trans rfl
    have e3 := (af Ei.out 3).trans rfl
    have d4 := (af wW.out 4).trans rfl
    have e4 := (af Ei.out 4).trans rfl
    have d5 := (af wW.out 5).trans rfl
    have e5 := (af Ei.out 5).trans rfl
    have d6 := (af wW.out 6).trans rfl
    have e6 := (af Ei.out 6).trans rfl
    by_cases k2 : ck = 2
    ·have agp : (ck == 2) = true := beq_iff_eq.mpr k2
     have K2 := ae.mk k2
     clear k2
     have hw := HW1.out
     go_wp2
     clear d0 d1 d2 d3 d4 d5 d6 e0 e1 e2 e3 e4 e5 e6
     go_roundg rest.length
     case measure => exact Nat.lt_of_lt_of_le (Nat.lt_succ_self _) kX.out
     case rel => exact ⟨pre ++ [k], rest, (by rw [AZ]; unfold yg; rw [if_pos K2.out]), (by rw [A8]; unfold yh; rw [if_pos K2.out]), (by rw [hw]), ⟨by rw [List.append_assoc]; exact HE.out⟩, Nat.le_refl _, Sj, wW, Lc, KJ⟩
    ·have agp : (ck == 2) = false := beq_eq_false_iff_ne.mpr k2
     have K2 := ae.mk k2
     clear k2
     by_cases k3 : ck = 3
     ·have agq : (ck == 3) = true := beq_iff_eq.mpr k3
      have K3 := ae.mk k3
      clear k3
      have hw := HW1.out
      go_wp2
      clear d0 d1 d2 d3 d4 d5 d6 e0 e1 e2 e3 e4 e5 e6
      go_roundg rest.length
      case measure => exact Nat.lt_of_lt_of_le (Nat.lt_succ_self _) kX.out
      case rel => exact ⟨pre ++ [k], rest, (by rw [AZ]; unfold yg; rw [if_neg K2.out]), (by rw [A8]; unfold yh; rw [if_neg K2.out, if_pos K3.out]), (by rw [hw]), ⟨by rw [List.append_assoc]; exact HE.out⟩, Nat.le_refl _, Sj, wW, Lc, KJ⟩
     ·have agq : (ck == 3) = false := beq_eq_false_iff_ne.mpr k3
      have K3 := ae.mk k3
      clear k3
      have hw := HW1.out
      go_wp2
      clear d0 d1 d2 d3 d4 d5 d6 e0 e1 e2 e3 e4 e5 e6
      go_roundg rest.length
      case measure => exact Nat.lt_of_lt_of_le (Nat.lt_succ_self _) kX.out
      case rel => exact ⟨pre ++ [k], rest, (by rw [AZ]; unfold yg; rw [if_neg K2.out]), (by rw [A8]; unfold yh; rw [if_neg K2.out, if_neg K3.out]), (by rw [hw]), ⟨by rw [List.append_assoc]; exact HE.out⟩, Nat.le_refl _, Sj, wW, Lc, KJ⟩
def mf.f (a0 a1 a2 a3 a4 a5 : Int) (l : List ai) (x y : Int) : Option (Int × Int × Int × Int × Int × Int × List ai) := if sz ⟨a0, ⟨a1, a2, a3, a4⟩, a5, l⟩ ≤ 1000000 then some (a0, x, y, a3, a4, a5, jM a0 l x y) else none
section
variable {W : World} {b : Nat} {P : Nat → Prop} {A : Option Addr} {cc : Nat}
abbrev ad_ (w : World) (P : Nat → Prop) (z : ai) (e : Ending) (w' : World) : Prop := ∃ A c, e = .returned (.agg #[.int .u8 z.f0, .int .i64 z.f1.f0, .int .i64 z.f1.f1, .int .i64 z.f1.f2, .int .i64 z.f1.f3, .int .i64 z.f2, .slice A z.f3.length c]) ∧ Kd.N k26 26 w' w.heap.size (fun k => P k ∨ w.heap.size ≤ k) (.slice A z.f3.length c) z.f3 ∧ Below w.heap.size w w'
theorem aeO (c : ai) (x y : Int) (hz : sz c ≤ 1000000) (hV : Kd.V k26 26 W b P (.slice A c.f3.length cc) c.f3) :
  Calls Try.prog 66 #[.agg #[.int .u8 c.f0, .int .i64 c.f1.f0, .int .i64 c.f1.f1, .int .i64 c.f1.f2, .int .i64 c.f1.f3, .int .i64 c.f2, .slice A c.f3.length cc], .int .i64 x, .int .i64 y] W (ad_ W P (gz c x y)) :=
 (aeN 1000000 c hz (Nat.le_refl _) P A cc x y W (fC hV)).mono (fun e w' ⟨v, he, hN, hB⟩ => by
  rw [mW]
  obtain ⟨A', c', rfl⟩ := Kd.jE hN
  exact ⟨A', c', he, hN, hB⟩)
end
theorem Hq {l : List ai} {k : ai} (h : k ∈ l) : sz k ≤ dM l := by
 obtain ⟨p, q, e⟩ := List.append_of_mem h
 rw [e, jH, b_]
 omega
theorem CB {a b : dF} : qh a b = true ↔ a.f0 = b.f0 ∧ a.f1 = b.f1 ∧ a.f2 = b.f2 ∧ a.f3 = b.f3 := by
 unfold qh
 simp
theorem Oq (ax X Y W H : Int) (hax : ax = 1 ∨ ax = 2) : ∀ (kids : List ai) (ns : List Int) (off : Int), kids.length = ns.length → rD (fun k r => qh k.f1 r) kids (wZ ax X Y W H off ns) = true → ∀ x, x ∈ kids → aI (3 - ax) x.f1 = tX ax H W := by
 intro kids
 induction kids with
 | nil => intro _ _ _ _ x hx; cases hx
 | cons k ks ih =>
  intro ns off hl he x hx
  cases ns with
  | nil => simp at hl
  | cons n ns =>
   simp only [wZ, rD, Bool.and_eq_true] at he
   rcases List.mem_cons.1 hx with rfl | hx
   ·obtain ⟨_, _, h2, h3⟩ := CB.1 he.1
    simp only [] at h2 h3
    rcases hax with rfl | rfl
    ·unfold aI tX at *
     simp at h3 ⊢
     exact h3
    ·unfold aI tX at *
     simp at h2 ⊢
     exact h2
   ·exact ih ns (off + n + 1) (by simpa using hl) he.2 x hx
theorem Aw {c : ai} (h1 : l7 c = true) (hk : c.f0 = 2 ∨ c.f0 = 3) (hl : c.f3.length ≤ 20000) :
  (c.f3.map (fun k => aI (c.f0 - 1) k.f1)).sum + (c.f3.length : Int) - 1 = aI (c.f0 - 1) c.f1 ∧ ∀ x, x ∈ c.f3 → aI (3 - (c.f0 - 1)) x.f1 = aI (3 - (c.f0 - 1)) c.f1 := by
 unfold l7 AO at h1
 rw [show (c.f0 == 1) = false from by simp; omega, Bool.false_or] at h1
 simp only [Bool.and_eq_true] at h1
 obtain ⟨ht, hlen, hE⟩ := h1
 obtain ⟨hax, gp, gs, _⟩ := BN ht
 have e1 : xm c.f0 = c.f0 - 1 := by unfold xm; omega
 rw [e1] at hax gp gs
 have e2 : jk c = c.f3.map (fun k => aI (c.f0 - 1) k.f1) := by
  unfold jk
  apply List.map_congr_left
  intro k _
  unfold szK pU aI
  rcases hk with h | h
  ·rw [if_pos h, if_pos (by omega)]
  ·rw [if_neg (by omega), if_neg (by omega), if_pos (by omega)]
 have e3 : ∀ r : dF, tX (c.f0 - 1) r.f2 r.f3 = aI (c.f0 - 1) r ∧ tX (c.f0 - 1) r.f3 r.f2 = aI (3 - (c.f0 - 1)) r := by
  intro r
  rcases hk with h | h <;> simp [tX, aI, h]
 refine ⟨?_, fun x hx => ?_⟩
 ·rw [← e2, ← (e3 c.f1).1, ← gs]
  simp [jk]
 ·rw [gp] at hE
  rw [← (e3 c.f1).2]
  exact Oq (c.f0 - 1) _ _ _ _ hax c.f3 (jk c) 0 (by simp [jk]) hE x hx
theorem uj {c : ai} (h : lC c = true) : jX c.f1 = true := by
 unfold lC at h
 simp only [Bool.and_eq_true] at h
 exact h.1.1.1
theorem oG {r : dF} (h : jX r = true) {ax : Int} (hax : ax = 1 ∨ ax = 2) : 1 ≤ aI ax r ∧ aI ax r ≤ 10000 := by
 have := uh.1 h
 unfold aI
 rcases hax with rfl | rfl
 ·rw [if_pos rfl]; omega
 ·rw [if_neg (by omega), if_pos rfl]; omega
theorem yP {c x : ai} (h : kS c = true) (hx : x ∈ c.f3) : kS x = true := by
 rw [rM, Bool.and_eq_true] at h
 exact List.all_eq_true.1 h.2 x hx
theorem UB (ax m : Int) (a b : List ai) : oZ ax m (a ++ b) = oZ ax (oZ ax m a) b := by
 induction a generalizing m with
 | nil => rw [List.nil_append, Cc]
 | cons x xs ih => rw [List.cons_append, oz, oz, ih]
theorem Wj {ax u : Int} : ∀ {l : List ai} {m : Int}, m ≤ u → (∀ x, x ∈ l → fG ax x ≤ u) → oZ ax m l ≤ u := by
 intro l
 induction l with
 | nil => intro m h _; rw [Cc]; exact h
 | cons x xs ih =>
  intro m h hx
  rw [oz]
  exact ih (aeG h (hx x (by simp))) (fun y hy => hx y (by simp [hy]))
theorem NK {ax : Int} : ∀ {l : List ai} {m : Int}, m ≤ oZ ax m l := by
 intro l
 induction l with
 | nil => intro m; rw [Cc]; exact Int.le_refl _
 | cons x xs ih =>
  intro m
  rw [oz]
  exact Int.le_trans (acX m (fG ax x)) ih
theorem ZZ {ax : Int} : ∀ {l : List ai}, (∀ x, x ∈ l → fG ax x ≤ aI ax x.f1) → vJ ax l ≤ (l.map (fun k => aI ax k.f1)).sum := by
 intro l
 induction l with
 | nil => intro _; rw [E5]; exact Int.le_refl _
 | cons x xs ih =>
  intro hx
  rw [wL, List.map_cons, List.sum_cons]
  have h1 := hx x (by simp)
  have h2 := ih (fun y hy => hx y (by simp [hy]))
  omega
theorem QT {ax : Int} (hax : ax = 1 ∨ ax = 2) : ∀ (N : Nat) (c : ai), sz c ≤ N → N ≤ 20000 → (dZ c).all lC = true → 1 ≤ fG ax c ∧ (kS c = true → fG ax c ≤ aI ax c.f1) := by
 intro N
 induction N with
 | zero => intro c h; rw [dB] at h; omega
 | succ N ih =>
  intro c hc hN hok
  have hs := dB c
  have hlen := ku c.f3
  have hk : ∀ x, x ∈ c.f3 → 1 ≤ fG ax x ∧ (kS x = true → fG ax x ≤ aI ax x.f1) := fun x hx => by
   refine ih x ?_ (by omega) (DL hok hx)
   have := Hq hx
   omega
  rw [wF]
  rcases vG (nU hok) with ⟨h1, h2⟩ | ⟨h1, h2⟩
  ·rw [if_pos h1]
   exact ⟨Int.le_refl _, fun _ => (oG (uj (nU hok)) hax).1⟩
  ·rw [if_neg (by omega)]
   have hsum : ∀ l : List ai, (∀ x, x ∈ l → 1 ≤ fG ax x) → (l.length : Int) ≤ vJ ax l := by
    intro l
    induction l with
    | nil => intro _; rw [E5]; simp
    | cons x xs ihl =>
     intro h
     have a1 := h x (by simp)
     have a2 := ihl (fun y hy => h y (by simp [hy]))
     rw [wL, List.length_cons]
     omega
   have acL := fun (ht : kS c = true) => Aw (c := c) (by rw [rM, Bool.and_eq_true] at ht; exact ht.1) h1 (by omega)
   cases ha : iT ax c.f0 with
   | true =>
    have e : c.f0 - 1 = ax := by
     unfold iT at ha
     simp at ha
     omega
    simp only [if_true]
    refine ⟨by have := hsum c.f3 (fun x hx => (hk x hx).1); omega, fun ht => ?_⟩
    obtain ⟨g1, _⟩ := acL ht
    rw [e] at g1
    have := ZZ (ax := ax) (l := c.f3) (fun x hx => (hk x hx).2 (yP ht hx))
    omega
   | false =>
    have e : 3 - (c.f0 - 1) = ax := by
     unfold iT at ha
     simp at ha
     omega
    simp only [Bool.false_eq_true, if_false]
    refine ⟨?_, fun ht => ?_⟩
    ·cases hl : c.f3 with
     | nil => rw [hl] at h2; simp at h2
     | cons x xs =>
      have := (hk x (by rw [hl]; simp)).1
      rw [oz]
      exact Int.le_trans this (Int.le_trans (Us 0 _) NK)
    ·obtain ⟨_, g2⟩ := acL ht
     rw [e] at g2
     have := oG (uj (nU hok)) hax
     exact Wj (by omega) (fun x hx => by
      have := (hk x hx).2 (yP ht hx)
      rw [g2 x hx] at this
      exact this)
section
variable {W : World} {b : Nat} {P : Nat → Prop} {A : Option Addr} {cc : Nat}
theorem pF (c : ai) (hz : sz c ≤ 1048576) (h1 : Kd.C k26 W A 1 [c]) (h2 : 1 ≤ cc) : Calls Try.prog 148 #[.slice A 1 cc] W fun e w' => e = .returned (.bool (bW c)) ∧ Below W.heap.size W w' := by
 have h := WW [c] (fun x hx => by rw [List.mem_singleton.1 hx]; exact hz) A cc W h1 h2
 simpa using h
theorem mX {c : ai} {v : Bool} {f : FuncId} {args : Array Value} (h : bW c = v) (hc : Calls Try.prog f args W fun e w' => e = .returned (.bool (bW c)) ∧ Below W.heap.size W w') : Calls Try.prog f args W fun e w' => e = .returned (.bool v) ∧ Below W.heap.size W w' := by
 rw [h] at hc
 exact hc
theorem N7 (c : ai) (hz : sz c ≤ 1048576) (hV : Kd.V k26 26 W b P (.slice A c.f3.length cc) c.f3) :
  Calls Try.prog 84 #[.agg #[.int .u8 c.f0, .int .i64 c.f1.f0, .int .i64 c.f1.f1, .int .i64 c.f1.f2, .int .i64 c.f1.f3, .int .i64 c.f2, .slice A c.f3.length cc]] W fun e w' => e = .returned (.bool (bW c)) ∧ Below W.heap.size W w' := by
 obtain ⟨k, hk⟩ := (NY c hz).rounds
 have h := Kd.oJ hV
 exact lV.calls k _ _ _ _ _ _ A cc c.f3 _ W h.2.2 h.2.1 hk
theorem Hf (r : dF) (ax : Int) : Calls Try.prog 98 #[.agg #[.int .i64 r.f0, .int .i64 r.f1, .int .i64 r.f2, .int .i64 r.f3], .int .u8 ax] W fun e w' => e = .returned (.int .i64 (aI ax r)) ∧ Below W.heap.size W w' :=
 qg.calls r.f0 r.f1 r.f2 r.f3 ax _ W (JV r ax)
end
section
variable {Pr : Program} {ops : Array Oper} {rest : List Oper} {op : Oper} {a : Act} {Q : Exit → Act → World → Prop} {w W : World} {P P' : Nat → Prop} {bs : List (Option Nat × Obj)} {ow : List (Value × List ai)} {ts : List (Value × List ai)} {ro : List (Addr × Value)}
theorem kW {N : Tmp} (hd : op.dst = some N) (hgd : op.guard = none) (x : ai) {A : Option Addr} {c b : Nat} (S : St w P bs ow ts ro W) (hV : Kd.V k26 26 W b P' (.slice A x.f3.length c) x.f3)
  (hrun : (execOp a.eval op).run Pr W = .ok (.value (.slice (some ⟨W.heap.size, 0, none⟩) 1 1)) (W.alloc (.cells (jh x A c).toArray 26)))
  (h : ∀ A1 c1 w1, St w P bs ow ts ro w1 → 1 ≤ c1 → Kd.C k26 w1 A1 1 [x] → wpList Pr ops Q rest (a.put op.dst (.slice A1 1 c1)) w1) : wpList Pr ops Q (op :: rest) a W := by
 obtain ⟨_, hl, hF⟩ := Kd.zM hV
 refine Kd.zK k26 (w0 := W) W.heap.size 26 hgd hd (xs := [x]) (inner := jh x A c) (ok := fun _ => True) (dY := P') hrun (bI.c7 (o8 W P' x hl hF) (bI.none _ _)) (fun _ _ => trivial) trivial (Below.refl _ _) (Nat.le_refl _) (by simp) ?_
 intro v1 w1 hN _ hg _
 obtain ⟨A1, c1, rfl⟩ := Kd.jE hN
 exact h A1 c1 w1 (S.call (uD hg)) (Kd.jo hN).2.1 (Kd.jo hN).2.2
end
abbrev Qq (w : World) (P : Nat → Prop) (z : ai) (n : Int) (e : Ending) (w' : World) : Prop := ∃ A c, e = .returned (.tuple #[.agg #[.int .u8 z.f0, .int .i64 z.f1.f0, .int .i64 z.f1.f1, .int .i64 z.f1.f2, .int .i64 z.f1.f3, .int .i64 z.f2, .slice A z.f3.length c], .int .i64 n]) ∧ Kd.N k26 26 w' w.heap.size (fun k => P k ∨ w.heap.size ≤ k) (.slice A z.f3.length c) z.f3 ∧ Below w.heap.size w w'
noncomputable def Vm (ax : Int) (c : ai) : Bool := !bW c || (ax != 1 && ax != 2)
noncomputable def Vo (ax : Int) (c : ai) (b : Int) : Bool := decide (b < wrap64 (-(ji ax c))) || decide (b > wrap64 (10000 - aI ax ⟨0, 0, wrap64 (c.f1.f0 + c.f1.f2), wrap64 (c.f1.f1 + c.f1.f3)⟩))
noncomputable def aZ (ax : Int) (c : ai) (b : Int) : ai := if Vm ax c = true then z26 else if Vo ax c b = true then z26 else gz (qZ ax c b) c.f1.f0 c.f1.f1
theorem XC {Pr : Program} {ops : Array Oper} {op : Oper} {a : Act} {Q : Exit → Act → World → Prop} {Kc : Act → World → Prop} {w W : World} {P : Nat → Prop} {bs : List (Option Nat × Obj)} {ts : List (Value × List ai)} {ro : List (Addr × Value)} {N : Tmp} (hw : Region.wanted op (yielded ops a.tmps) = true) (hd : op.dst = some N) (x y : ai) {A B : Option Addr} {c d b b' : Nat} (S : St w P bs [] ts ro W)
  (hV : Kd.V k26 26 W b (Ok w P (keys bs [])) (.slice A x.f3.length c) x.f3) (hV' : Kd.V k26 26 W b' (Ok w P (keys bs [])) (.slice B y.f3.length d) y.f3)
  (hrun : (execOp a.eval op).run Pr W = .ok (.value (.slice (some ⟨W.heap.size, 0, none⟩) 2 2)) (W.alloc (.cells (jh x A c ++ jh y B d).toArray 26)))
  (h : ∀ g c1 w1, St w P bs [(.slice (some ⟨g, 0, none⟩) 2 c1, [x, y])] ts ro w1 → Kc (a.put op.dst (.slice (some ⟨g, 0, none⟩) 2 c1)) w1) : if Region.wanted op (yielded ops a.tmps) = true then Oper.wp Pr op a W Kc Q else Kc (a.put op.dst undef) W := by
 obtain ⟨_, hl, hF⟩ := Kd.zM hV
 obtain ⟨_, hl', hF'⟩ := Kd.zM hV'
 refine Kd.Ql k26 (w0 := W) W.heap.size 26 hw hd (xs := [x, y]) (inner := jh x A c ++ jh y B d) (ok := fun k => Ok w P (keys bs []) k ∨ W.heap.size ≤ k) (dY := Ok w P (keys bs [])) hrun (bI.c7 (o8 W _ x hl hF) (bI.c7 (o8 W _ y hl' hF') (bI.none _ _))) (fun _ h => .inl h) (.inr (Nat.le_refl _)) (Below.refl _ _) (Nat.le_refl _) (by simp) ?_
 intro v1 w1 hN _ hg _
 obtain ⟨g, c1, rfl, _⟩ := Kd.su hN (by simp)
 exact h g c1 w1 (S.yf hN (uD hg))
abbrev Vl (w : World) (P : Nat → Prop) (L : List ai) (e : Ending) (w' : World) : Prop := ∃ A c, e = .returned (.slice A L.length c) ∧ Kd.N k26 26 w' w.heap.size (fun k => P k ∨ w.heap.size ≤ k) (.slice A L.length c) L ∧ Below w.heap.size w w'
theorem vY {P : Program} (w : World) (dT sT ty elem : TypeId) (i : TypeInfo) (g o dLen dCap : Nat) (a : Addr) (sLen sCap : Nat) (cur : Array Value) (t : TypeId) (cs : List Value) (m : Nat)
  (hu : P.underlying dT = some (.slice elem)) (hi : P.info? elem = some i) (hm : Nat.min sLen dLen = m) (hn : cs.length = m * i.size) (hg : w.heap[g]? = some (.cells cur t (0, 0)))
  (hsrc : ∀ j v, cs[j]? = some v → w.cell? (a.add j) = some v) (hfit : o + cs.length ≤ cur.size) (h1 : ∀ v ∈ cs, v.oneCell' = true) :
  (Builtin.copy_ #[dT, sT] ty #[.slice (some ⟨g, o, none⟩) dLen dCap, .slice (some a) sLen sCap]).run P w =
   .ok (goInt m) (w.setRow g (cur.toList.take o ++ cs ++ cur.toList.drop (o + cs.length)).toArray) := by
 have hl := run_firstCells_some (P := P) w i.size m a sLen sCap cs hn hsrc
 have hst := run_storeCells_at (P := P) g o t cs 0 cur w hg (by simpa using hfit) h1
 simp only [Nat.add_zero] at hst
 simp [Builtin.copy_, run_underlying hu, Builtin.lenOf, sizeOf, typeInfo, hi, hm, hl, hst]
theorem OM {α : Type} {d : Kd α} {e base : Nat} {ok : Nat → Prop} {W w1 : World} {v v1 : Value} {xs : List α} {rows : List (List Value)} (h0 : ∀ k, v.ownBlock = some k → ok k) (hl : rows.length = xs.length)
  (hf : ∀ (j : Nat) (x : α) (c : List Value), xs[j]? = some x → rows[j]? = some c → Kd.FK d W (fun k => ok k ∧ some k ≠ v.ownBlock) x c) (hfresh : ∀ k, W.heap.size ≤ k → ok k)
  (hR : (Kd.raw d.sz).R e w1 base (fun _ => True) v1 rows) (hg : W.grownBy w1 v.ownBlock) (hat : v1.ownBlock = v.ownBlock ∨ ∃ b, v1.ownBlock = some b ∧ W.heap.size ≤ b) : Kd.N d e w1 base ok v1 xs := by
 have h := Kd.zI (d := d) (ys := ([] : List α)) (news := []) (dY := fun _ => False) h0 hl hf rfl (fun j x c hx => by simp at hx) (fun _ h => h.elim) hfresh (by rw [List.append_nil]; exact hR) hg hat
 rwa [List.append_nil] at h
theorem JX {α β : Type} {xs ys : List α} {rows news : List β} {i j : Nat} {Rr : α → β → Prop} (hl : rows.length = xs.length) (hl2 : news.length = ys.length)
  (h1 : ∀ (k : Nat) (x : α) (c : β), xs[k]? = some x → rows[k]? = some c → Rr x c) (h2 : ∀ (k : Nat) (x : α) (c : β), ys[k]? = some x → news[k]? = some c → Rr x c) :
  (rows.take i ++ news ++ rows.drop j).length = (xs.take i ++ ys ++ xs.drop j).length ∧ ∀ (k : Nat) (x : α) (c : β), (xs.take i ++ ys ++ xs.drop j)[k]? = some x → (rows.take i ++ news ++ rows.drop j)[k]? = some c → Rr x c := by
 obtain ⟨P, rfl, rfl⟩ : ∃ P : List (α × β), xs = P.map Prod.fst ∧ rows = P.map Prod.snd := ⟨xs.zip rows, (List.map_fst_zip (by omega)).symm, (List.map_snd_zip (by omega)).symm⟩
 obtain ⟨Q, rfl, rfl⟩ : ∃ Q : List (α × β), ys = Q.map Prod.fst ∧ news = Q.map Prod.snd := ⟨ys.zip news, (List.map_fst_zip (by omega)).symm, (List.map_snd_zip (by omega)).symm⟩
 simp only [← List.map_take, ← List.map_drop, ← List.map_append, List.length_map, List.getElem?_map, true_and]
 have m1 : ∀ p, p ∈ P → Rr p.1 p.2 := by
  intro p hp
  obtain ⟨k, hk⟩ := List.getElem?_of_mem hp
  exact h1 k _ _ (by rw [List.getElem?_map, hk]; rfl) (by rw [List.getElem?_map, hk]; rfl)
 have m2 : ∀ p, p ∈ Q → Rr p.1 p.2 := by
  intro p hp
  obtain ⟨k, hk⟩ := List.getElem?_of_mem hp
  exact h2 k _ _ (by rw [List.getElem?_map, hk]; rfl) (by rw [List.getElem?_map, hk]; rfl)
 intro k x c hx hc
 cases hq : (P.take i ++ Q ++ P.drop j)[k]? with
 | none => rw [hq] at hx; cases hx
 | some p =>
  rw [hq] at hx hc
  simp only [Option.map_some, Option.some.injEq] at hx hc
  subst hx hc
  have hm := List.mem_of_getElem? hq
  rcases List.mem_append.1 hm with hm | hm
  ·rcases List.mem_append.1 hm with hm | hm
   ·exact m1 p (List.mem_of_mem_take hm)
   ·exact m2 p hm
  ·exact m1 p (List.mem_of_mem_drop hm)
theorem Rz {cur inner cs2 : List Value} {a b c m : Nat} (hin : cur.take c = inner) (hc : inner.length = c) (hab : a + m + (c - b) ≤ cur.length) (hb : b ≤ c) (hac : a ≤ c) (hm : cs2.length = m) :
  (((cur.take (a + m) ++ inner.drop b ++ cur.drop (a + m + (inner.drop b).length)).take a ++ cs2 ++ (cur.take (a + m) ++ inner.drop b ++ cur.drop (a + m + (inner.drop b).length)).drop (a + cs2.length)).take (a + m + (c - b))) = inner.take a ++ cs2 ++ inner.drop b := by
 have hcl : c ≤ cur.length := by
  have := congrArg List.length hin
  rw [List.length_take] at this
  omega
 have e1 : (cur.take (a + m)).length = a + m := by rw [List.length_take]; omega
 have e2 : (inner.drop b).length = c - b := by rw [List.length_drop, hc]
 have e3 : (cur.take (a + m) ++ inner.drop b ++ cur.drop (a + m + (inner.drop b).length)).take a = inner.take a := by
  rw [List.append_assoc, List.take_append_of_le_length (by rw [e1]; omega), List.take_take, Nat.min_eq_left (by omega), ← hin, List.take_take, Nat.min_eq_left hac]
 have e4 : (cur.take (a + m) ++ inner.drop b ++ cur.drop (a + m + (inner.drop b).length)).drop (a + cs2.length) = inner.drop b ++ cur.drop (a + m + (inner.drop b).length) := by
  rw [hm, List.append_assoc, List.drop_append, List.drop_eq_nil_of_le (by rw [e1]; omega), e1, Nat.sub_self, List.drop_zero, List.nil_append]
 rw [e3, e4]
 have e5 : (inner.take a).length = a := by rw [List.length_take]; omega
 rw [show inner.take a ++ cs2 ++ (inner.drop b ++ cur.drop (a + m + (inner.drop b).length)) = (inner.take a ++ cs2 ++ inner.drop b) ++ cur.drop (a + m + (inner.drop b).length) by simp]
 rw [List.take_append_of_le_length (by rw [List.length_append, List.length_append, e5, e2, hm]; omega)]
 exact List.take_of_length_le (by rw [List.length_append, List.length_append, e5, e2, hm]; omega)
theorem DR {rows : List (List Value)} {cs : List Value} (h : bI (fun (x : List Value) (c : List Value) => c = x ∧ c.length = 7 ∧ ∀ u ∈ c, u.oneCell' = true) 7 rows cs) : ∀ u ∈ cs, u.oneCell' = true := by
 intro u hu
 obtain ⟨k, hk⟩ := List.getElem?_of_mem hu
 have hkl := (List.getElem?_eq_some_iff.1 hk).1
 rw [h.1] at hkl
 have hq : k / 7 < rows.length := by omega
 obtain ⟨_, _, h3⟩ := h.2 (k / 7) _ (List.getElem?_eq_getElem hq)
 refine h3 u ?_
 refine List.mem_of_getElem? (i := k % 7) ?_
 rw [List.getElem?_take, if_pos (by omega), List.getElem?_drop, show k / 7 * 7 + k % 7 = k by omega]
 exact hk
theorem UR {Pr : Program} {W : World} {base g n cap m i j : Nat} {ok dY : Nat → Prop} {xs ys : List ai} {a : Addr} (inf : TypeInfo) (hu : Pr.underlying 24 = some (.slice 26)) (hi : Pr.info? 26 = some inf) (hs : inf.size = 7)
  (HN : Kd.N k26 26 W base ok (.slice (some ⟨g, 0, none⟩) n cap) xs) (HF : Kd.F k26 W dY (some a) m ys) (iG : ∀ k, dY k → ok k ∧ k ≠ g) (hfresh : ∀ k, W.heap.size ≤ k → ok k) (hij : i ≤ j) (hjn : j ≤ n) (hroom : i + m + (n - j) ≤ cap) :
  ∃ fB je : Array Value,
   (∀ ty dLen dCap sCap, n - j ≤ dLen → (Builtin.copy_ #[24, 24] ty #[.slice (some ⟨g, (i + m) * 7, none⟩) dLen dCap, .slice (some ⟨g, j * 7, none⟩) (n - j) sCap]).run Pr W = .ok (goInt ((n - j : Nat))) (W.setRow g fB)) ∧
   (∀ ty dLen dCap sCap (V : World), V.heap = (W.setRow g fB).heap → m ≤ dLen → (Builtin.copy_ #[24, 24] ty #[.slice (some ⟨g, i * 7, none⟩) dLen dCap, .slice (some a) m sCap]).run Pr V = .ok (goInt m) (V.setRow g je)) ∧
   (∀ V : World, V.heap = (W.setRow g fB).heap → V.os = W.os → V.tape = W.tape → V.output = W.output → W.grownBy (V.setRow g je) (some g) ∧ Kd.N k26 26 (V.setRow g je) base ok (.slice (some ⟨g, 0, none⟩) (i + m + (n - j)) cap) (xs.take i ++ ys ++ xs.drop j)) := by
 obtain ⟨h0, rows, hl, ⟨_, inner, ho, hr⟩, hf⟩ := HN
 have hg0 : base ≤ g ∧ ∃ cur, W.heap[g]? = some (.cells cur 26 (0, 0)) ∧ n ≤ cap ∧ cap ≤ maxLen ∧ cur.size = cap * 7 ∧ cur.toList.take (n * 7) = inner ∧ n = rows.length := by
  rcases ho.2 with ⟨hv, _⟩ | ⟨g', cap', cur, hv, hb, hh, h1, h2, h3, h4⟩
  ·cases hv
  ·injection hv with hv1 hv2 hv3
   injection hv1 with hv1
   injection hv1 with hv1
   subst hv1 hv2 hv3
   exact ⟨hb, cur, hh, h1, h2, h3, h4, rfl⟩
 obtain ⟨hbg, cur, xU, hnc, hcm, hcs, hin, hnr⟩ := hg0
 have hil : inner.length = n * 7 := by rw [hr.1, hnr]; rfl
 have hr' : bI (fun (x : List Value) (c : List Value) => c = x ∧ c.length = 7 ∧ ∀ u ∈ c, u.oneCell' = true) 7 rows inner := hr
 have hrd := Kd.JR (m := j) hr'
 have hdl : (inner.drop (j * 7)).length = (n - j) * 7 := by rw [List.length_drop, hil]; omega
 obtain ⟨fB, z_⟩ : ∃ q, q = (cur.toList.take ((i + m) * 7) ++ inner.drop (j * 7) ++ cur.toList.drop ((i + m) * 7 + (inner.drop (j * 7)).length)).toArray := ⟨_, rfl⟩
 have hV0 : (W.setRow g fB).heap[g]? = some (.cells fB 26 (0, 0)) := setRow_heap W g cur fB 26 (0, 0) xU
 have hsz1 : fB.size = cap * 7 := by
  rw [z_, List.size_toArray]
  simp only [List.length_append, List.length_take, List.length_drop, Array.length_toList, hil, hcs]
  omega
 have gb : W.grownBy (W.setRow g fB) (some g) := ⟨rfl, rfl, rfl, by simp, fun k _ hk => setRow_other W g k fB (fun e => hk (by rw [e]))⟩
 have HF1 : Kd.F k26 (W.setRow g fB) dY (some a) m ys := Kd.Hz HF gb (fun k hk e => (iG k hk).2 (by injection e))
 obtain ⟨news, hnl, Nz, hnf⟩ := Kd.Cm (Kd.KH HF1) (fun y c hk => ⟨k26.iL (Kd.l9 hk), k26.iH (Kd.l9 hk)⟩)
 obtain ⟨cs2, hr2, hc2⟩ := iC.BZ Nz
 have hr2' : bI (fun (x : List Value) (c : List Value) => c = x ∧ c.length = 7 ∧ ∀ u ∈ c, u.oneCell' = true) 7 news cs2 := hr2
 have hnm : news.length = m := Nz.1
 have xR : cs2.length = m * 7 := by rw [hr2'.1, hnm]
 obtain ⟨je, Ad⟩ : ∃ q, q = (fB.toList.take (i * 7) ++ cs2 ++ fB.toList.drop (i * 7 + cs2.length)).toArray := ⟨_, rfl⟩
 have hsz2 : je.size = cap * 7 := by
  rw [Ad, List.size_toArray]
  simp only [List.length_append, List.length_take, List.length_drop, Array.length_toList, xR, hsz1]
  omega
 have hmin : ∀ {p q : Nat}, p ≤ q → Nat.min p q = p := fun h => Nat.min_eq_left h
 refine ⟨fB, je, fun ty dLen dCap sCap hd => ?_, fun ty dLen dCap sCap V hV hd => ?_, fun V hV h1 h2 h3 => ?_⟩
 ·have h := vY (P := Pr) W 24 24 ty 26 inf g ((i + m) * 7) dLen dCap ⟨g, j * 7, none⟩ (n - j) sCap cur 26 (inner.drop (j * 7)) (n - j) hu hi (hmin hd) (by rw [hs]; exact hdl) xU (fun q u hq => by
    rw [yV, cell_of_row W g _ cur 26 (0, 0) xU]
    rw [List.getElem?_drop, ← hin, List.getElem?_take] at hq
    split at hq
    ·simpa using hq
    ·cases hq) (by rw [hdl, hcs]; omega) (DR hrd)
  rw [h, ← z_]
 ·have hVg : V.heap[g]? = some (.cells fB 26 (0, 0)) := by rw [hV]; exact hV0
  have h := vY (P := Pr) V 24 24 ty 26 inf g (i * 7) dLen dCap a m sCap fB 26 cs2 m hu hi (hmin hd) (by rw [hs]; exact xR) hVg (fun q u hq => by
    rw [show V.cell? (a.add q) = (W.setRow g fB).cell? (a.add q) by unfold World.cell?; rw [hV]]
    exact hc2 q u hq) (by rw [xR, hsz1]; omega) (DR hr2')
  rw [h, ← Ad]
 ·have hVs : (V.setRow g je).heap.size = W.heap.size := by rw [setRow_size, hV, setRow_size]
  have hVo : ∀ k, k ≠ g → (V.setRow g je).heap[k]? = W.heap[k]? := fun k hk => by rw [setRow_other V g k je hk, hV, setRow_other W g k fB hk]
  have hVg : V.heap[g]? = some (.cells fB 26 (0, 0)) := by rw [hV]; exact hV0
  have Tz : W.grownBy (V.setRow g je) (some g) := ⟨h1, h2, h3, by rw [hVs]; exact Nat.le_refl _, fun k _ hk => hVo k (fun e => hk (by rw [e]))⟩
  have hob : ∀ q : Nat, (Value.slice (some ⟨g, 0, none⟩) q cap).ownBlock = some g := fun _ => rfl
  refine ⟨Tz, ?_⟩
  have tg := JX (i := i) (j := j) (Rr := fun x c => Kd.FK k26 W (fun k => ok k ∧ some k ≠ (Value.slice (some ⟨g, 0, none⟩) n cap).ownBlock) x c) hl hnl hf (fun k y c hy hc => by
   have h := hnf k y c hy hc
   refine Kd.rO (Kd.uQ h (W1 := W) (fun q hq _ => ?_)) (fun q hq => ⟨(iG q hq).1, fun e => (iG q hq).2 (by rw [hob] at e; injection e)⟩)
   exact (setRow_other W g q fB (iG q hq).2).symm)
  refine OM (v := .slice (some ⟨g, 0, none⟩) n cap) (rows := rows.take i ++ news ++ rows.drop j) h0 tg.1 tg.2 hfresh ⟨fun _ _ => trivial, inner.take (i * 7) ++ cs2 ++ inner.drop (j * 7), ?_, ?_⟩ (by rw [hob]; exact Tz) (.inl rfl)
  ·have hrl : (rows.take i ++ news ++ rows.drop j).length = i + m + (n - j) := by rw [List.length_append, List.length_append, List.length_take, List.length_drop, hnm, ← hnr]; omega
   rw [hrl]
   refine ⟨?_, .inr ⟨g, cap, je, rfl, hbg, setRow_heap V g fB je 26 (0, 0) hVg, hroom, hcm, hsz2, ?_⟩⟩
   ·show _ = (i + m + (n - j)) * 7
    rw [List.length_append, List.length_append, List.length_take, hdl, xR, hil]
    omega
   ·show je.toList.take ((i + m + (n - j)) * 7) = _
    have h := Rz (cur := cur.toList) (inner := inner) (cs2 := cs2) (a := i * 7) (b := j * 7) (c := n * 7) (m := m * 7) hin hil (by rw [Array.length_toList, hcs]; omega) (by omega) (by omega) xR
    rw [Ad, z_]
    simp only [List.toList_toArray]
    rw [show (i + m + (n - j)) * 7 = i * 7 + m * 7 + (n * 7 - j * 7) by omega, show (i + m) * 7 = i * 7 + m * 7 by omega]
    exact h
  ·exact Kd.qC (Kd.qC (Kd.CJ hr' (by omega)) hr2') hrd
theorem Oz {cur olds cs2 tl : List Value} {a m t : Nat} (ho : cur.take a = olds) (ha : olds.length = a) (hm : cs2.length = m) (ht : tl.length = t) (hfit : a + m + t ≤ cur.length) :
  (((cur.take a ++ cs2 ++ cur.drop (a + cs2.length)).take (a + m) ++ tl ++ (cur.take a ++ cs2 ++ cur.drop (a + cs2.length)).drop (a + m + tl.length)).take (a + m + t)) = olds ++ cs2 ++ tl := by
 have e1 : (cur.take a ++ cs2 ++ cur.drop (a + cs2.length)).take (a + m) = olds ++ cs2 := by
  rw [ho, List.take_append_of_le_length (by rw [List.length_append]; omega)]
  exact List.take_of_length_le (by rw [List.length_append]; omega)
 rw [e1, List.take_append_of_le_length (by rw [List.length_append, List.length_append]; omega)]
 exact List.take_of_length_le (by rw [List.length_append, List.length_append]; omega)
theorem TA {Pr : Program} {W : World} {base g n cap m i j : Nat} {ok dY : Nat → Prop} {xs ys : List ai} {a : Addr} (inf : TypeInfo) (z : Value) {kn : IntKind} (hu : Pr.underlying 24 = some (.slice 26)) (hu3 : Pr.underlying 3 = some (.int kn)) (hi : Pr.info? 26 = some inf) (hs : inf.size = 7) (hz : inf.zero = some z) (hzs : z.cells.size = 7) (hby : inf.bytes = 72)
  (HN : Kd.N k26 26 W base ok (.slice (some ⟨g, 0, none⟩) n cap) xs) (HF : Kd.F k26 W dY (some a) m ys) (iG : ∀ k, dY k → ok k ∧ k ≠ g) (hfresh : ∀ k, W.heap.size ≤ k → ok k) (hbase : base ≤ W.heap.size) (hij : i ≤ j) (hjn : j ≤ n) (hm0 : 0 < m) (hroom : cap < i + m + (n - j)) (hl : i + m + (n - j) ≤ 1000000000) :
  ∃ (cap' : Nat) (jq fB je : Array Value),
   i + m + (n - j) ≤ cap' ∧ (∀ ty kq, (Builtin.append_ #[24, 3] ty #[.slice (some ⟨g, 0, none⟩) i cap, .int kq ((m + (n - j) : Nat) : Int)]).run Pr W = .ok (.slice (some ⟨W.heap.size, 0, none⟩) (i + m + (n - j)) cap') (W.drew.alloc (.cells jq 26))) ∧
   (∀ ty dLen dCap sCap (V : World), V.heap = (W.drew.alloc (.cells jq 26)).heap → m ≤ dLen → (Builtin.copy_ #[24, 24] ty #[.slice (some ⟨W.heap.size, i * 7, none⟩) dLen dCap, .slice (some a) m sCap]).run Pr V = .ok (goInt m) (V.setRow W.heap.size fB)) ∧
   (∀ ty dLen dCap sCap (V : World), V.heap = ((W.drew.alloc (.cells jq 26)).setRow W.heap.size fB).heap → n - j ≤ dLen → (Builtin.copy_ #[24, 24] ty #[.slice (some ⟨W.heap.size, (i + m) * 7, none⟩) dLen dCap, .slice (some ⟨g, j * 7, none⟩) (n - j) sCap]).run Pr V = .ok (goInt ((n - j : Nat))) (V.setRow W.heap.size je)) ∧
   (∀ V : World, V.heap = ((W.drew.alloc (.cells jq 26)).setRow W.heap.size fB).heap → V.os = W.os → V.tape = W.tape → V.output = W.output → W.grownBy (V.setRow W.heap.size je) (some g) ∧ Kd.N k26 26 (V.setRow W.heap.size je) base ok (.slice (some ⟨W.heap.size, 0, none⟩) (i + m + (n - j)) cap') (xs.take i ++ ys ++ xs.drop j)) := by
 obtain ⟨h0, rows, hlr, ⟨_, inner, ho, hr⟩, hf⟩ := HN
 have hg0 : base ≤ g ∧ ∃ cur, W.heap[g]? = some (.cells cur 26 (0, 0)) ∧ n ≤ cap ∧ cap ≤ maxLen ∧ cur.size = cap * 7 ∧ cur.toList.take (n * 7) = inner ∧ n = rows.length := by
  rcases ho.2 with ⟨hv, _⟩ | ⟨g', cap', cur, hv, hb, hh, h1, h2, h3, h4⟩
  ·cases hv
  ·injection hv with hv1 hv2 hv3
   injection hv1 with hv1
   injection hv1 with hv1
   subst hv1 hv2 hv3
   exact ⟨hb, cur, hh, h1, h2, h3, h4, rfl⟩
 obtain ⟨hbg, cur, xU, hnc, hcm, hcs, hin, hnr⟩ := hg0
 have hgl : g < W.heap.size := (Array.getElem?_eq_some_iff.1 xU).1
 have hil : inner.length = n * 7 := by rw [hr.1, hnr]; rfl
 have hr' : bI (fun (x : List Value) (c : List Value) => c = x ∧ c.length = 7 ∧ ∀ u ∈ c, u.oneCell' = true) 7 rows inner := hr
 have hrd := Kd.JR (m := j) hr'
 have hdl : (inner.drop (j * 7)).length = (n - j) * 7 := by rw [List.length_drop, hil]; omega
 have Iq : ∀ (V : World), V.heap[g]? = some (.cells cur 26 (0, 0)) → ∀ q u, inner[q]? = some u → V.cell? ⟨g, q, none⟩ = some u := by
  intro V hV q u hq
  rw [cell_of_row V g _ cur 26 (0, 0) hV]
  rw [← hin, List.getElem?_take] at hq
  split at hq
  ·simpa using hq
  ·cases hq
 have hold : (Builtin.firstCells inf.size i (.slice (some ⟨g, 0, none⟩) i cap)).run Pr W.drew = .ok (inner.take (i * 7)).toArray W.drew := by
  refine run_firstCells_some W.drew inf.size i _ i cap _ (by rw [List.length_take, hil, hs]; omega) (fun q u hq => ?_)
  rw [yV, Nat.zero_add]
  rw [List.getElem?_take] at hq
  split at hq
  ·exact Iq W.drew xU q u hq
  ·cases hq
 obtain ⟨cap', hcap'⟩ : ∃ q, q = grownCap W (i + (m + (n - j))) cap 26 := ⟨_, rfl⟩
 have hc1 : i + (m + (n - j)) ≤ cap' := by rw [hcap']; exact grownCap_ge _ _ _ _
 have hc2 : cap' ≤ maxLen := by rw [hcap']; exact grownCap_le_maxLen _ _ _ _ (by unfold maxLen; omega)
 obtain ⟨jq, QG⟩ : ∃ q, q = ((inner.take (i * 7)).toArray ++ Builtin.zeroCells z.cells (m + (n - j)) ++ Builtin.zeroCells z.cells (cap' - (i + (m + (n - j))))) := ⟨_, rfl⟩
 have hsz0 : jq.size = cap' * 7 := by
  rw [QG]
  simp only [Array.size_append, List.size_toArray, List.length_take, hil, size_zeroCells, hzs]
  omega
 have hal : W.grownBy (W.drew.alloc (.cells jq 26)) none := ⟨rfl, rfl, rfl, by simp, fun k hk _ => heap_alloc_old W.drew (.cells jq 26) hk⟩
 have hnew : (W.drew.alloc (.cells jq 26)).heap[W.heap.size]? = some (.cells jq 26 (0, 0)) := heap_alloc_new W.drew (.cells jq 26)
 have Xy : (W.drew.alloc (.cells jq 26)).heap[g]? = some (.cells cur 26 (0, 0)) := by rw [hal.block g hgl (by simp)]; exact xU
 obtain ⟨W1, hW1⟩ : ∃ q, q = W.drew.alloc (.cells jq 26) := ⟨_, rfl⟩
 rw [← hW1] at hal hnew Xy
 have HF1 : Kd.F k26 W1 (fun k => dY k ∧ k < W.heap.size) (some a) m ys := Kd.Hz (Kd.Df HF) hal (fun k hk e => by cases e)
 obtain ⟨news, hnl, Nz, hnf⟩ := Kd.Cm (Kd.KH HF1) (fun y c hk => ⟨k26.iL (Kd.l9 hk), k26.iH (Kd.l9 hk)⟩)
 obtain ⟨cs2, hr2, hc2'⟩ := iC.BZ Nz
 have hr2' : bI (fun (x : List Value) (c : List Value) => c = x ∧ c.length = 7 ∧ ∀ u ∈ c, u.oneCell' = true) 7 news cs2 := hr2
 have hnm : news.length = m := Nz.1
 have xR : cs2.length = m * 7 := by rw [hr2'.1, hnm]
 obtain ⟨fB, z_⟩ : ∃ q, q = (jq.toList.take (i * 7) ++ cs2 ++ jq.toList.drop (i * 7 + cs2.length)).toArray := ⟨_, rfl⟩
 have hsz1 : fB.size = cap' * 7 := by
  rw [z_, List.size_toArray]
  simp only [List.length_append, List.length_take, List.length_drop, Array.length_toList, xR, hsz0]
  omega
 obtain ⟨je, Ad⟩ : ∃ q, q = (fB.toList.take ((i + m) * 7) ++ inner.drop (j * 7) ++ fB.toList.drop ((i + m) * 7 + (inner.drop (j * 7)).length)).toArray := ⟨_, rfl⟩
 have hsz2 : je.size = cap' * 7 := by
  rw [Ad, List.size_toArray]
  simp only [List.length_append, List.length_take, List.length_drop, Array.length_toList, hil, hsz1]
  omega
 have hV1 : (W1.setRow W.heap.size fB).heap[W.heap.size]? = some (.cells fB 26 (0, 0)) := setRow_heap W1 _ jq fB 26 (0, 0) hnew
 have age : (W1.setRow W.heap.size fB).heap[g]? = some (.cells cur 26 (0, 0)) := by rw [setRow_other W1 _ g fB (by omega)]; exact Xy
 have hmin : ∀ {p q : Nat}, p ≤ q → Nat.min p q = p := fun h => Nat.min_eq_left h
 refine ⟨cap', jq, fB, je, ?_⟩
 rw [← hW1]
 refine ⟨by omega, fun ty kq => ?_, fun ty dLen dCap sCap V hV hd => ?_, fun ty dLen dCap sCap V hV hd => ?_, fun V hV h1 h2 h3 => ?_⟩
 ·have h := Go.Lib.run_append_grow_zeros (P := Pr) W 24 3 ty 26 inf z kq kn hu hu3 hi hz (some ⟨g, 0, none⟩) i cap (inner.take (i * 7)) hold (m + (n - j)) (by omega) (by rw [hs]; decide) (by omega) (by omega) (by rw [hby]; omega) (by rw [hby]; exact growslice_fits (by omega) (by omega))
  rw [h, ← hcap', ← QG, ← hW1, Nat.add_assoc]
 ·have h := vY (P := Pr) V 24 24 ty 26 inf W.heap.size (i * 7) dLen dCap a m sCap jq 26 cs2 m hu hi (hmin hd) (by rw [hs]; exact xR) (by rw [hV]; exact hnew) (fun q u hq => by
    rw [show V.cell? (a.add q) = W1.cell? (a.add q) by unfold World.cell?; rw [hV]]
    exact hc2' q u hq) (by rw [xR, hsz0]; omega) (DR hr2')
  rw [h, ← z_]
 ·have h := vY (P := Pr) V 24 24 ty 26 inf W.heap.size ((i + m) * 7) dLen dCap ⟨g, j * 7, none⟩ (n - j) sCap fB 26 (inner.drop (j * 7)) (n - j) hu hi (hmin hd) (by rw [hs]; exact hdl) (by rw [hV]; exact hV1) (fun q u hq => by
    rw [yV]
    rw [List.getElem?_drop] at hq
    exact Iq V (by rw [hV]; exact age) _ u hq) (by rw [hdl, hsz1]; omega) (DR hrd)
  rw [h, ← Ad]
 ·have agd : W1.heap.size = W.heap.size + 1 := by rw [hW1]; simp
  have hVs : (V.setRow W.heap.size je).heap.size = W.heap.size + 1 := by rw [setRow_size, hV, setRow_size, agd]
  have hVo : ∀ k, k < W.heap.size → (V.setRow W.heap.size je).heap[k]? = W.heap[k]? := fun k hk => by rw [setRow_other V _ k je (by omega), hV, setRow_other W1 _ k fB (by omega)]; exact hal.block k hk (by simp)
  have Tz : W.grownBy (V.setRow W.heap.size je) (some g) := ⟨h1, h2, h3, by rw [hVs]; omega, fun k hk _ => hVo k hk⟩
  refine ⟨Tz, ?_⟩
  have tg := JX (i := i) (j := j) (Rr := fun x c => Kd.FK k26 W (fun k => ok k ∧ some k ≠ (Value.slice (some ⟨g, 0, none⟩) n cap).ownBlock) x c) hlr hnl hf (fun k y c hy hc => by
   have h := hnf k y c hy hc
   refine Kd.rO (Kd.uQ h (W1 := W) (fun q hq _ => ?_)) (fun q hq => ⟨(iG q hq.1).1, fun e => (iG q hq.1).2 (by injection e)⟩)
   exact (hal.block q hq.2 (by simp)).symm)
  refine OM (v := .slice (some ⟨g, 0, none⟩) n cap) (rows := rows.take i ++ news ++ rows.drop j) h0 tg.1 tg.2 hfresh ⟨fun _ _ => trivial, inner.take (i * 7) ++ cs2 ++ inner.drop (j * 7), ?_, ?_⟩ Tz (.inr ⟨W.heap.size, rfl, Nat.le_refl _⟩)
  ·have hrl : (rows.take i ++ news ++ rows.drop j).length = i + m + (n - j) := by rw [List.length_append, List.length_append, List.length_take, List.length_drop, hnm, ← hnr]; omega
   rw [hrl]
   refine ⟨?_, .inr ⟨W.heap.size, cap', je, rfl, hbase, setRow_heap V _ fB je 26 (0, 0) (by rw [hV]; exact hV1), by omega, hc2, hsz2, ?_⟩⟩
   ·show _ = (i + m + (n - j)) * 7
    rw [List.length_append, List.length_append, List.length_take, hdl, xR, hil]
    omega
   ·show je.toList.take ((i + m + (n - j)) * 7) = _
    have h := Oz (cur := jq.toList) (olds := inner.take (i * 7)) (cs2 := cs2) (tl := inner.drop (j * 7)) (a := i * 7) (m := m * 7) (t := (n - j) * 7) (by
     rw [QG]
     simp only [Array.toList_append, List.append_assoc]
     rw [List.take_append_of_le_length (by rw [List.length_take, hil]; omega)]
     exact List.take_of_length_le (by rw [List.length_take]; omega)) (by rw [List.length_take, hil]; omega) xR hdl (by rw [Array.length_toList, hsz0]; omega)
    rw [Ad, z_]
    simp only [List.toList_toArray]
    rw [show (i + m + (n - j)) * 7 = i * 7 + m * 7 + (n - j) * 7 by omega, show (i + m) * 7 = i * 7 + m * 7 by omega]
    exact h
  ·exact Kd.qC (Kd.qC (Kd.CJ hr' (by omega)) hr2') hrd
section
variable {Pr : Program} {w W : World} {P : Nat → Prop} {bs : List (Option Nat × Obj)} {ts : List (Value × List ai)} {ro : List (Addr × Value)} {gr n cap m c i j : Nat} {xs ys : List ai} {a : Addr}
theorem Jz {w W W1 : World} {g : Nat} (hb : Below w.heap.size w W) (hg : W.grownBy W1 (some g)) (hg0 : w.heap.size ≤ g) : Below w.heap.size w W1 :=
 ⟨hg.os.trans hb.os, hg.tape.trans hb.tape, hg.output.trans hb.output, Nat.le_trans hb.size hg.size, fun k hk => (hg.block k (Nat.lt_of_lt_of_le hk hb.size) (fun e => by injection e with e; omega)).trans (hb.block k hk)⟩
theorem St.room (inf : TypeInfo) (hu : Pr.underlying 24 = some (.slice 26)) (hi : Pr.info? 26 = some inf) (hs : inf.size = 7)
  (S : St w P bs [(.slice (some ⟨gr, 0, none⟩) n cap, xs)] ts ro W) (hm : (.slice (some a) m c, ys) ∈ ts) (hij : i ≤ j) (hjn : j ≤ n) (hroom : i + m + (n - j) ≤ cap) :
  ∃ fB je : Array Value,
   (∀ ty dLen dCap sCap, n - j ≤ dLen → (Builtin.copy_ #[24, 24] ty #[.slice (some ⟨gr, (i + m) * 7, none⟩) dLen dCap, .slice (some ⟨gr, j * 7, none⟩) (n - j) sCap]).run Pr W = .ok (goInt ((n - j : Nat))) (W.setRow gr fB)) ∧
   (∀ ty dLen dCap sCap (V : World), V.heap = (W.setRow gr fB).heap → m ≤ dLen → (Builtin.copy_ #[24, 24] ty #[.slice (some ⟨gr, i * 7, none⟩) dLen dCap, .slice (some a) m sCap]).run Pr V = .ok (goInt m) (V.setRow gr je)) ∧
   (∀ V : World, V.heap = (W.setRow gr fB).heap → V.os = W.os → V.tape = W.tape → V.output = W.output → St w P bs [(.slice (some ⟨gr, 0, none⟩) (i + m + (n - j)) cap, xs.take i ++ ys ++ xs.drop j)] ts ro (V.setRow gr je)) := by
 have hV := S.tree _ hm
 have hN := S.AP
 obtain ⟨fB, je, h1, h2, h3⟩ := UR (i := i) (j := j) inf hu hi hs hN (Kd.Lt hV)
  (fun k h => ⟨⟨h.1, fun h2 => h.2 (eP.2 (.inl h2))⟩, fun e => h.2 (eP.2 (.inr (by rw [e]; rfl)))⟩)
  (fun k h => ⟨.inr (Nat.le_trans S.below.size h), fun h2 => by have := S.lt ((eP (v := .slice (some ⟨gr, 0, none⟩) n cap) (l := xs)).2 (.inl h2)); omega⟩) hij hjn hroom
 refine ⟨fB, je, h1, h2, fun V a1 a2 a3 a4 => ?_⟩
 obtain ⟨g1, g2⟩ := h3 V a1 a2 a3 a4
 exact S.He (Jz S.below g1 (Kd.qY hN gr rfl)) g1 (.inl rfl) g2
theorem St.grow (inf : TypeInfo) (z : Value) {kn : IntKind} (hu : Pr.underlying 24 = some (.slice 26)) (hu3 : Pr.underlying 3 = some (.int kn)) (hi : Pr.info? 26 = some inf) (hs : inf.size = 7) (hz : inf.zero = some z) (hzs : z.cells.size = 7) (hby : inf.bytes = 72)
  (S : St w P bs [(.slice (some ⟨gr, 0, none⟩) n cap, xs)] ts ro W) (hm : (.slice (some a) m c, ys) ∈ ts) (hij : i ≤ j) (hjn : j ≤ n) (hm0 : 0 < m) (hroom : cap < i + m + (n - j)) (hl : i + m + (n - j) ≤ 1000000000) :
  ∃ (cap' : Nat) (jq fB je : Array Value),
   i + m + (n - j) ≤ cap' ∧ (∀ ty kq, (Builtin.append_ #[24, 3] ty #[.slice (some ⟨gr, 0, none⟩) i cap, .int kq ((m + (n - j) : Nat) : Int)]).run Pr W = .ok (.slice (some ⟨W.heap.size, 0, none⟩) (i + m + (n - j)) cap') (W.drew.alloc (.cells jq 26))) ∧
   (∀ ty dLen dCap sCap (V : World), V.heap = (W.drew.alloc (.cells jq 26)).heap → m ≤ dLen → (Builtin.copy_ #[24, 24] ty #[.slice (some ⟨W.heap.size, i * 7, none⟩) dLen dCap, .slice (some a) m sCap]).run Pr V = .ok (goInt m) (V.setRow W.heap.size fB)) ∧
   (∀ ty dLen dCap sCap (V : World), V.heap = ((W.drew.alloc (.cells jq 26)).setRow W.heap.size fB).heap → n - j ≤ dLen → (Builtin.copy_ #[24, 24] ty #[.slice (some ⟨W.heap.size, (i + m) * 7, none⟩) dLen dCap, .slice (some ⟨gr, j * 7, none⟩) (n - j) sCap]).run Pr V = .ok (goInt ((n - j : Nat))) (V.setRow W.heap.size je)) ∧
   (∀ V : World, V.heap = ((W.drew.alloc (.cells jq 26)).setRow W.heap.size fB).heap → V.os = W.os → V.tape = W.tape → V.output = W.output → St w P bs [(.slice (some ⟨W.heap.size, 0, none⟩) (i + m + (n - j)) cap', xs.take i ++ ys ++ xs.drop j)] ts ro (V.setRow W.heap.size je)) := by
 have hV := S.tree _ hm
 have hN := S.AP
 obtain ⟨cap', jq, fB, je, hq, h0, h1, h2, h3⟩ := TA (i := i) (j := j) inf z hu hu3 hi hs hz hzs hby hN (Kd.Lt hV)
  (fun k h => ⟨⟨h.1, fun h2 => h.2 (eP.2 (.inl h2))⟩, fun e => h.2 (eP.2 (.inr (by rw [e]; rfl)))⟩)
  (fun k h => ⟨.inr (Nat.le_trans S.below.size h), fun h2 => by have := S.lt ((eP (v := .slice (some ⟨gr, 0, none⟩) n cap) (l := xs)).2 (.inl h2)); omega⟩) S.below.size hij hjn hm0 hroom hl
 refine ⟨cap', jq, fB, je, hq, h0, h1, h2, fun V a1 a2 a3 a4 => ?_⟩
 obtain ⟨g1, g2⟩ := h3 V a1 a2 a3 a4
 exact S.He (Jz S.below g1 (Kd.qY hN gr rfl)) g1 (.inr ⟨_, rfl, Nat.le_refl _⟩) g2
end
theorem aeJ {W : World} {ga gr o lb cb m vc : Nat} {ca cr : Array Value} (hga : W.heap[ga]? = some (.cells ca 26 (0, 0))) (hgr : W.heap[gr]? = some (.cells cr 26 (0, 0))) (hne : gr ≠ ga) (h0 : ca.size ≠ 0) :
  (callFunc 202 #[.slice (some ⟨gr, o, none⟩) lb cb, .slice (some ⟨ga, 0, none⟩) m vc]).run Try.prog W = .ok (.value (.bool false)) W := by
 obtain ⟨inf, hi, h1, h2, h3⟩ := info_parts info26
 rw [run_callFunc_extern Try.func202 (by kernel_rfl) (by kernel_rfl) (by kernel_rfl) (e := Extern.SlicesOverlaps.overlaps #[24, 24] #[4]) (by kernel_rfl),
  Lib.run_overlaps_apart W 24 4 26 Try.underlying24 7 (fun w => by simp [sizeOf, typeInfo, hi, h2]) ⟨gr, o, none⟩ ⟨ga, 0, none⟩ lb cb m vc hne 26 26 cr.size ca.size (by unfold World.shape?; rw [hgr]) (by unfold World.shape?; rw [hga]) h0 (by unfold World.frozen?; rw [hgr]; simp) (by unfold World.frozen?; rw [hgr]; simp)]
 rfl
end Go.Proofs.Ytfdmfgaiblfbhaa.P
