/- SplitIs: part 4 of 6 of this claim's texts, one behind the other, made small by a program: the words of the kit's printer cut down to those that are used, the claim's own names made short. -/
import Derived.Test.YtfdmfgaiblfbhaaMSplitIsc
import Derived.WalkSpells
import Derived.Maps.OwnOps
import Derived.Maps.Views
import Derived.Laws.CopyRow
set_option maxHeartbeats 8000000
set_option maxRecDepth 100000
set_option linter.unusedVariables false
set_option linter.unusedSimpArgs false
namespace Go.Proofs.Ytfdmfgaiblfbhaa.P
open Go.RowKit Go.Proofs.ag.aA Go.Proofs.ag.bg Go.Proofs.ag.bG
section
variable {W : World} {b : Nat} {P : Nat → Prop} {A : Option Addr} {cc : Nat}
theorem N7 (c : ai) (hz : sz c ≤ 1048576) (hV : Kd.V k26 26 W b P (.slice A c.f3.length cc) c.f3) :
  Calls Try.prog 79 #[.agg #[.int .u8 c.f0, .int .i64 c.f1.f0, .int .i64 c.f1.f1, .int .i64 c.f1.f2, .int .i64 c.f1.f3, .int .i64 c.f2, .slice A c.f3.length cc]] W fun e w' => ∃ A' c', e = .returned (.slice A' (fK c).length c') ∧ Kd.N k26 26 w' W.heap.size (fun k => P k ∨ W.heap.size ≤ k) (.slice A' (fK c).length c') (fK c) ∧ Below W.heap.size W w' := by
 obtain ⟨k, hk⟩ := (La (sz c) c (Nat.le_refl _) hz).rounds
 exact (dG.calls k _ _ _ _ _ _ P A cc c.f3 _ W (dX hV) hk).mono (fun e w' ⟨v, he, hN, hB⟩ => by
  obtain ⟨A', c', rfl⟩ := Kd.jJ hN
  exact ⟨A', c', he, hN, hB⟩)
theorem XV (c : ai) (hz : sz c ≤ 1048576) (hV : Kd.V k26 26 W b P (.slice A c.f3.length cc) c.f3) :
  Calls Try.prog 126 #[.agg #[.int .u8 c.f0, .int .i64 c.f1.f0, .int .i64 c.f1.f1, .int .i64 c.f1.f2, .int .i64 c.f1.f3, .int .i64 c.f2, .slice A c.f3.length cc]] W fun e w' => ∃ A' c', e = .returned (.slice A' (jy c).length c') ∧ Kd.N k26 26 w' W.heap.size (fun k => P k ∨ W.heap.size ≤ k) (.slice A' (jy c).length c') (jy c) ∧ Below W.heap.size W w' := by
 obtain ⟨k, hk⟩ := (LC c hz).rounds
 exact (dN.calls k _ _ _ _ _ _ P A cc c.f3 _ W (dX hV) hk).mono (fun e w' ⟨v, he, hN, hB⟩ => by
  obtain ⟨A', c', rfl⟩ := Kd.jJ hN
  exact ⟨A', c', he, hN, hB⟩)
theorem uO {r : dK} {v : Bool} (h : lq r = v) : Calls Try.prog 57 #[.agg #[.int .i64 r.f0, .int .i64 r.f1, .int .i64 r.f2, .int .i64 r.f3]] W fun e w' => e = .returned (.bool v) ∧ Below W.heap.size W w' :=
 o_.calls _ _ _ _ _ W ((F_ _ _ _ _).trans (congrArg some h))
end
def pI (L M : List ai) : Bool := decide (L.length ≤ 20000) && (L.all mP && dL M)
theorem sZ {pre rest M : List ai} {k : ai} (h : mP k = false) : pI (pre ++ k :: rest) M = false := by
 unfold pI
 rw [List.all_append, List.all_cons, h, Bool.false_and, Bool.and_false, Bool.false_and, Bool.and_false]
theorem yz {k : ai} (h : lq k.f1 = false ∨ k.f0 < 1 ∨ 3 < k.f0 ∨ (k.f0 = 1 ∧ (0 < k.f3.length ∨ k.f2 < 0 ∨ 2147483647 < k.f2)) ∨ (1 < k.f0 ∧ (k.f3.length < 2 ∨ k.f2 ≠ 0))) : mP k = false := by
 cases hk : mP k with
 | false => rfl
 | true =>
  exfalso
  unfold mP at hk
  simp only [Bool.and_eq_true, decide_eq_true_eq] at hk
  obtain ⟨⟨⟨h1, h2⟩, h3⟩, h4⟩ := hk
  rcases h with h | h | h | h | h
  ·rw [h1] at h; cases h
  ·omega
  ·omega
  ·have := h3 h.1; omega
  ·have := h4 h.1; omega
theorem Q_ {k : ai} (h1 : lq k.f1 = true) (h2 : 1 ≤ k.f0 ∧ k.f0 ≤ 3) (h3 : k.f0 = 1 → k.f3.length = 0 ∧ 0 ≤ k.f2 ∧ k.f2 ≤ 2147483647) (h4 : k.f0 > 1 → 2 ≤ k.f3.length ∧ k.f2 = 0) : mP k = true := by
 unfold mP
 rw [h1, decide_eq_true h2, decide_eq_true h3, decide_eq_true h4]
 rfl
theorem PY {pre rest : List ai} {k : ai} (h : o8 pre k = false) : dL (pre ++ k :: rest) = false := by
 have h2 : dL (pre ++ [k]) = false := by rw [rG, h, Bool.and_false]
 have h3 := yV (pre ++ [k]) rest h2
 rwa [List.append_assoc] at h3
theorem agr (c : ai) (hz : sz c ≤ 1048576) (A : Option Addr) (cc : Nat) (w : World) (hr : Kd.C k26 w A c.f3.length c.f3) (hc : c.f3.length ≤ cc) :
  Calls Try.prog 38 #[.agg #[.int .u8 c.f0, .int .i64 c.f1.f0, .int .i64 c.f1.f1, .int .i64 c.f1.f2, .int .i64 c.f1.f3, .int .i64 c.f2, .slice A c.f3.length cc]] w fun e w' => e = .returned (.bool (lH c)) ∧ Below w.heap.size w w' := by
 have S := ae.mk (St.start (ts := [(.slice A c.f3.length cc, c.f3)]) (b0 := w.heap.size) (w := w) (P := fun k => k < w.heap.size) (fun t ht => by
  rw [List.mem_singleton.1 ht]; exact Kd.yR hc (Kd.KX sW hr)))
 have HZ := ae.mk hz
 have HM := ae.mk (show lH c = pI (fK c) (jy c) from rfl)
 have Nq := ae.mk (show (fK c).length ≤ 1048576 from hz)
 have YC := ae.mk (show (jy c).length ≤ 1048576 from Nat.le_trans (List.length_filter_le _ _) hz)
 clear hr hc hz
 obtain ⟨ck, ⟨cx, cy, cw, ch⟩, aQ, l⟩ := c
 simp only [] at S HZ HM Nq YC
 have XF := fun W b P A cc hV => @N7 W b P A cc ⟨ck, ⟨cx, cy, cw, ch⟩, aQ, l⟩ HZ.out hV
 have XG := fun W b P A cc hV => @XV W b P A cc ⟨ck, ⟨cx, cy, cw, ch⟩, aQ, l⟩ HZ.out hV
 rw [HM.out]
 generalize fK ⟨ck, ⟨cx, cy, cw, ch⟩, aQ, l⟩ = L at HM Nq XF ⊢
 generalize jy ⟨ck, ⟨cx, cy, cw, ch⟩, aQ, l⟩ = M at HM YC XG ⊢
 have HA := ae.mk XF
 have HLE := ae.mk XG
 clear HM XF XG
 by_cases hl : 20000 < L.length
 case pos =>
  obtain ⟨hla, hlb⟩ := o5 (a := 20000) (b := (L.length : Int)) (by omega)
  have hlc : decide (20000 < L.length) = true := decide_eq_true (by omega)
  have HB := ae.mk (show pI L M = false by unfold pI; rw [decide_eq_false (by omega), Bool.false_and])
  clear hl
  go_enter Try.func38, Try.ntmps38
  go_wp2_with (first
   | (refine boxS 1 _ 26 S ?_; clear S; intro b1 eU S; obtain ⟨gX, lN, lQ, lS, lT, nT, jB⟩ := St.dS S (.head _))
   | (refine qw (some 9) Try.func79 S (HA.out _ _ _ _ _ (S.out.tree _ (.head _))) ?_; clear S; intro Aa ca fV S; clear gX lN lQ lS lT nT jB)
   | fail)
  go_ret
  refine ⟨?_, S.out.below⟩
  rw [HB.out]
  rfl
 obtain ⟨hla, hlb⟩ := gU (a := 20000) (b := (L.length : Int)) (by omega)
 have hlc : decide (20000 < L.length) = false := decide_eq_false (by omega)
 have HL := ae.mk hl
 clear hl
 go_enter Try.func38, Try.ntmps38
 go_wp2_with (first
  | (refine boxS 1 _ 26 S ?_; clear S; intro b1 gz S; obtain ⟨gX, lN, lQ, lS, lT, nT, jB⟩ := St.dS S (.head _))
  | (refine qw (some 9) Try.func79 S (HA.out _ _ _ _ _ (S.out.tree _ (.head _))) ?_; clear S; intro Aa ca lI S; clear gX lN lQ lS lT nT jB)
  | fail)
 clear hla hlb hlc
 go_loopg [15] L.length (fun gg v15 wr => ∃ (pre rest : List ai), v15 = .int .i64 (pre.length : Int) ∧ ae (pre ++ rest = L) ∧ rest.length ≤ gg ∧ ae (pre.all mP = true) ∧ ae (St w (fun k => k < w.heap.size) [(some b1, .cells #[.int .u8 ck, .int .i64 cx, .int .i64 cy, .int .i64 cw, .int .i64 ch, .int .i64 aQ, .slice A l.length cc] 26 (0, 0))] [] [(.slice Aa L.length ca, L), (.slice A l.length cc, l)] [] wr))
 case atStart => exact ⟨[], L, rfl, ⟨rfl⟩, Nat.le_refl _, ⟨rfl⟩, ⟨S.out⟩⟩
 case round =>
  clear S
  obtain ⟨pre, rest, rfl, HE, hgg, HOK, S⟩ := hrel
  cases rest with
  | cons k rest =>
   have hlt : (pre.length : Int) < (L.length : Int) := by rw [← HE.out, List.length_append, List.length_cons]; omega
   have hw1 : wrap64 ((pre.length : Int) + 1) = ((pre ++ [k]).length : Int) := by have := Nq.out; rw [List.length_append, List.length_singleton]; unfold wrap64; omega
   have HW1 := ae.mk hw1
   have kY := ae.mk hgg
   obtain ⟨lu, ua, uc, ek, S1⟩ := S.out.elem (.head _) (pre.length : Int) (Int.natCast_nonneg _) hlt
   subst ek
   have hrd : aj L (pre.length : Int) = k := by rw [← HE.out]; exact lD pre k rest
   rw [hrd] at S1
   simp only [Int.toNat_natCast] at S1
   replace S := ae.mk S1
   clear S1 hrd hgg hw1
   cases hmr : lq k.f1 with
   | false =>
    have AO := ae.mk hmr
    clear hmr
    have HB := ae.mk (show pI L M = false by rw [← HE.out]; exact sZ (yz (.inl AO.out)))
    have ku := (S.out.cell _ bf).1
    have kz := (S.out.cell _ eF).1
    have jE := (S.out.cell _ jM).1
    have jF := (S.out.cell _ qg).1
    go_wp2_with (first
     | (refine bI (some 23) Try.func57 S (uO AO.out) ?_; clear S; intro mQ S; clear ku kz jE jF)
     | fail)
    go_ret
    refine ⟨?_, S.out.below⟩
    rw [HB.out]
    rfl
   | true =>
    have AO := ae.mk hmr
    clear hmr
    by_cases h1 : k.f0 < 1
    case pos =>
     obtain ⟨h1a, h1b⟩ := o5 (a := k.f0) (b := 1) (by omega)
     have HB := ae.mk (show pI L M = false by rw [← HE.out]; exact sZ (yz (.inr (.inl h1))))
     have ku := (S.out.cell _ bf).1
     have kz := (S.out.cell _ eF).1
     have jE := (S.out.cell _ jM).1
     have jF := (S.out.cell _ qg).1
     go_wp2_with (first
      | (refine bI (some 23) Try.func57 S (uO AO.out) ?_; clear S; intro o6 S; clear ku kz jE jF; have jZ := (S.out.cell _ (.head _)).1)
      | fail)
     clear jZ
     go_ret
     refine ⟨?_, S.out.below⟩
     rw [HB.out]
     rfl
    obtain ⟨h1a, h1b⟩ := gU (a := k.f0) (b := 1) (by omega)
    by_cases h3 : 3 < k.f0
    case pos =>
     obtain ⟨OC, h3b⟩ := o5 (a := 3) (b := k.f0) (by omega)
     have HB := ae.mk (show pI L M = false by rw [← HE.out]; exact sZ (yz (.inr (.inr (.inl h3)))))
     have ku := (S.out.cell _ bf).1
     have kz := (S.out.cell _ eF).1
     have jE := (S.out.cell _ jM).1
     have jF := (S.out.cell _ qg).1
     go_wp2_with (first
      | (refine bI (some 23) Try.func57 S (uO AO.out) ?_; clear S; intro uy S; clear ku kz jE jF; have jZ := (S.out.cell _ (.head _)).1)
      | fail)
     clear jZ
     go_ret
     refine ⟨?_, S.out.below⟩
     rw [HB.out]
     rfl
    obtain ⟨OC, h3b⟩ := gU (a := 3) (b := k.f0) (by omega)
    by_cases h4 : k.f0 = 1
    case pos =>
     have IE : (k.f0 == 1) = true := beq_iff_eq.mpr h4
     have h4d : decide (k.f0 = 1) = true := decide_eq_true h4
     by_cases h5 : 0 < k.f3.length
     case pos =>
      obtain ⟨h5a, h5b⟩ := o5 (a := 0) (b := (k.f3.length : Int)) (by omega)
      have h5c : decide (0 < k.f3.length) = true := decide_eq_true (by omega)
      have HB := ae.mk (show pI L M = false by rw [← HE.out]; exact sZ (yz (.inr (.inr (.inr (.inl ⟨h4, .inl h5⟩))))))
      have ku := (S.out.cell _ bf).1
      have kz := (S.out.cell _ eF).1
      have jE := (S.out.cell _ jM).1
      have jF := (S.out.cell _ qg).1
      go_wp2_with (first
       | (refine bI (some 23) Try.func57 S (uO AO.out) ?_; clear S; intro xe S; clear ku kz jE jF; have jZ := (S.out.cell _ (.head _)).1; have lJ := (S.out.cell _ Ew).1)
       | fail)
      clear jZ lJ
      go_ret
      refine ⟨?_, S.out.below⟩
      rw [HB.out]
      rfl
     obtain ⟨h5a, h5b⟩ := gU (a := 0) (b := (k.f3.length : Int)) (by omega)
     have h5c : decide (0 < k.f3.length) = false := decide_eq_false (by omega)
     by_cases h6 : k.f2 < 0
     case pos =>
      obtain ⟨h6a, h6b⟩ := o5 (a := k.f2) (b := 0) (by omega)
      have HB := ae.mk (show pI L M = false by rw [← HE.out]; exact sZ (yz (.inr (.inr (.inr (.inl ⟨h4, .inr (.inl h6)⟩))))))
      have ku := (S.out.cell _ bf).1
      have kz := (S.out.cell _ eF).1
      have jE := (S.out.cell _ jM).1
      have jF := (S.out.cell _ qg).1
      go_wp2_with (first
       | (refine bI (some 23) Try.func57 S (uO AO.out) ?_; clear S; intro BU S; clear ku kz jE jF; have jZ := (S.out.cell _ (.head _)).1; have lJ := (S.out.cell _ Ew).1; have kG := (S.out.cell _ zh).1)
       | fail)
      clear jZ lJ kG
      go_ret
      refine ⟨?_, S.out.below⟩
      rw [HB.out]
      rfl
     obtain ⟨h6a, h6b⟩ := gU (a := k.f2) (b := 0) (by omega)
     by_cases h7 : 2147483647 < k.f2
     case pos =>
      obtain ⟨U_, Va⟩ := o5 (a := 2147483647) (b := k.f2) (by omega)
      have HB := ae.mk (show pI L M = false by rw [← HE.out]; exact sZ (yz (.inr (.inr (.inr (.inl ⟨h4, .inr (.inr h7)⟩))))))
      have ku := (S.out.cell _ bf).1
      have kz := (S.out.cell _ eF).1
      have jE := (S.out.cell _ jM).1
      have jF := (S.out.cell _ qg).1
      go_wp2_with (first
       | (refine bI (some 23) Try.func57 S (uO AO.out) ?_; clear S; intro uB S; clear ku kz jE jF; have jZ := (S.out.cell _ (.head _)).1; have lJ := (S.out.cell _ Ew).1; have kG := (S.out.cell _ zh).1)
       | fail)
      clear jZ lJ kG
      go_ret
      refine ⟨?_, S.out.below⟩
      rw [HB.out]
      rfl
     obtain ⟨U_, Va⟩ := gU (a := 2147483647) (b := k.f2) (by omega)
     obtain ⟨h8a, h8b⟩ := gU (a := 1) (b := k.f0) (by omega)
     have HG := ae.mk (Q_ AO.out (by omega) (by omega) (by omega))
     have ku := (S.out.cell _ bf).1
     have kz := (S.out.cell _ eF).1
     have jE := (S.out.cell _ jM).1
     have jF := (S.out.cell _ qg).1
     go_wp2_with (first
      | (refine bI (some 23) Try.func57 S (uO AO.out) ?_; clear S; intro Dq S; clear ku kz jE jF; have jZ := (S.out.cell _ (.head _)).1; have lJ := (S.out.cell _ Ew).1; have kG := (S.out.cell _ zh).1)
      | fail)
     clear jZ lJ kG
     have hw1 := HW1.out
     go_wp2
     go_roundg rest.length
     case measure => exact Nat.lt_of_lt_of_le (Nat.lt_succ_self _) kY.out
     case rel => exact ⟨pre ++ [k], rest, (by rw [hw1]), ⟨by rw [List.append_assoc]; exact HE.out⟩, Nat.le_refl _, ⟨by rw [List.all_append, HOK.out, List.all_cons, HG.out]; rfl⟩, ⟨S.out.dC.aU.aU.aU.aU.aU.aU.aU⟩⟩
    have IE : (k.f0 == 1) = false := beq_eq_false_iff_ne.mpr h4
    have h4d : decide (k.f0 = 1) = false := decide_eq_false h4
    obtain ⟨h8a, h8b⟩ := o5 (a := 1) (b := k.f0) (by omega)
    by_cases h5 : k.f3.length < 2
    case pos =>
     obtain ⟨h5a, h5b⟩ := o5 (a := (k.f3.length : Int)) (b := 2) (by omega)
     have h5c : decide (k.f3.length < 2) = true := decide_eq_true (by omega)
     have HB := ae.mk (show pI L M = false by rw [← HE.out]; exact sZ (yz (.inr (.inr (.inr (.inr ⟨by omega, .inl h5⟩))))))
     have ku := (S.out.cell _ bf).1
     have kz := (S.out.cell _ eF).1
     have jE := (S.out.cell _ jM).1
     have jF := (S.out.cell _ qg).1
     go_wp2_with (first
      | (refine bI (some 23) Try.func57 S (uO AO.out) ?_; clear S; intro EW S; clear ku kz jE jF; have jZ := (S.out.cell _ (.head _)).1; have lJ := (S.out.cell _ Ew).1)
      | fail)
     clear jZ lJ
     go_ret
     refine ⟨?_, S.out.below⟩
     rw [HB.out]
     rfl
    obtain ⟨h5a, h5b⟩ := gU (a := (k.f3.length : Int)) (b := 2) (by omega)
    have h5c : decide (k.f3.length < 2) = false := decide_eq_false (by omega)
    by_cases h6 : k.f2 = 0
    case neg =>
     have h6b : (k.f2 != 0) = true := bne_iff_ne.mpr h6
     have h6c : (k.f2 == 0) = false := beq_eq_false_iff_ne.mpr h6
     have h6d : decide (k.f2 = 0) = false := decide_eq_false h6
     have HB := ae.mk (show pI L M = false by rw [← HE.out]; exact sZ (yz (.inr (.inr (.inr (.inr ⟨by omega, .inr h6⟩))))))
     have ku := (S.out.cell _ bf).1
     have kz := (S.out.cell _ eF).1
     have jE := (S.out.cell _ jM).1
     have jF := (S.out.cell _ qg).1
     go_wp2_with (first
      | (refine bI (some 23) Try.func57 S (uO AO.out) ?_; clear S; intro Kz S; clear ku kz jE jF; have jZ := (S.out.cell _ (.head _)).1; have lJ := (S.out.cell _ Ew).1; have kG := (S.out.cell _ zh).1)
      | fail)
     clear jZ lJ kG
     go_ret
     refine ⟨?_, S.out.below⟩
     rw [HB.out]
     rfl
    have h6b : (k.f2 != 0) = false := bne_eq_false_iff_eq.mpr h6
    have h6c : (k.f2 == 0) = true := beq_iff_eq.mpr h6
    have h6d : decide (k.f2 = 0) = true := decide_eq_true h6
    have HG := ae.mk (Q_ AO.out (by omega) (by omega) (by omega))
    have ku := (S.out.cell _ bf).1
    have kz := (S.out.cell _ eF).1
    have jE := (S.out.cell _ jM).1
    have jF := (S.out.cell _ qg).1
    go_wp2_with (first
     | (refine bI (some 23) Try.func57 S (uO AO.out) ?_; clear S; intro KA S; clear ku kz jE jF; have jZ := (S.out.cell _ (.head _)).1; have lJ := (S.out.cell _ Ew).1; have kG := (S.out.cell _ zh).1)
     | fail)
    clear jZ lJ kG
    have hw1 := HW1.out
    go_wp2
    go_roundg rest.length
    case measure => exact Nat.lt_of_lt_of_le (Nat.lt_succ_self _) kY.out
    case rel => exact ⟨pre ++ [k], rest, (by rw [hw1]), ⟨by rw [List.append_assoc]; exact HE.out⟩, Nat.le_refl _, ⟨by rw [List.all_append, HOK.out, List.all_cons, HG.out]; rfl⟩, ⟨S.out.dC.aU.aU.aU.aU.aU.aU.aU⟩⟩
  | nil =>
   have hE := HE.out
   rw [List.append_nil] at hE
   subst hE
   clear HE hgg
   have hlt : ¬ ((pre.length : Int) < (pre.length : Int)) := by omega
   obtain ⟨gX, lN, lQ, lS, lT, nT, jB⟩ := St.dS S (.head _)
   go_wp2_with (first
    | (refine qw (some 99) Try.func126 S (HLE.out _ _ _ _ _ (S.out.tree _ bf)) ?_; clear S; intro Al cl Yu S; clear gX lN lQ lS lT nT jB)
    | fail)
   go_loopg [102] M.length (fun gg aik wr => ∃ (pm rest : List ai), aik = .int .i64 (pm.length : Int) ∧ ae (pm ++ rest = M) ∧ rest.length ≤ gg ∧ ae (dL pm = true) ∧ ae (St w (fun k => k < w.heap.size) [(some b1, .cells #[.int .u8 ck, .int .i64 cx, .int .i64 cy, .int .i64 cw, .int .i64 ch, .int .i64 aQ, .slice A l.length cc] 26 (0, 0))] [] [(.slice Al M.length cl, M), (.slice Aa pre.length ca, pre), (.slice A l.length cc, l)] [] wr))
   case atStart => exact ⟨[], M, rfl, ⟨rfl⟩, Nat.le_refl _, ⟨rfl⟩, ⟨S.out⟩⟩
   case round =>
    clear S
    rename World => wz
    obtain ⟨pm, rest, rfl, HE, hgg, HD, S⟩ := hrel
    cases rest with
    | nil =>
     have hE := HE.out
     rw [List.append_nil] at hE
     subst hE
     have hlt : ¬ ((pm.length : Int) < (pm.length : Int)) := by omega
     have HB := ae.mk (show pI pre pm = true by unfold pI; rw [HOK.out, HD.out, decide_eq_true (by have := HL.out; omega)]; rfl)
     go_wp2
     go_ret
     refine ⟨?_, S.out.below⟩
     rw [HB.out]
     rfl
    | cons k rest =>
     have hlt : (pm.length : Int) < (M.length : Int) := by rw [← HE.out, List.length_append, List.length_cons]; omega
     have hw1 : wrap64 ((pm.length : Int) + 1) = ((pm ++ [k]).length : Int) := by have := YC.out; rw [List.length_append, List.length_singleton]; unfold wrap64; omega
     have HW1 := ae.mk hw1
     have kY := ae.mk hgg
     have HPM := ae.mk (show pm.length ≤ 1048576 by have := YC.out; omega)
     have Qk := ae.mk hlt
     obtain ⟨lu, ua, uc, ek, S1⟩ := S.out.elem (.head _) (pm.length : Int) (Int.natCast_nonneg _) hlt
     subst ek
     have hrd : aj M (pm.length : Int) = k := by rw [← HE.out]; exact lD pm k rest
     rw [hrd] at S1
     simp only [Int.toNat_natCast] at S1
     replace S := ae.mk S1
     clear S1 hrd hgg hw1
     go_wp2
     have HK0 := ae.mk (show o8 [] k = true from rfl)
     go_loopg [7] pm.length (fun gg v7 wr => ∃ (pa pb : List ai), v7 = .int .i64 (pa.length : Int) ∧ ae (pa ++ pb = pm) ∧ pb.length ≤ gg ∧ ae (o8 pa k = true) ∧ ae (St w (fun k => k < w.heap.size) [(some b1, .cells #[.int .u8 ck, .int .i64 cx, .int .i64 cy, .int .i64 cw, .int .i64 ch, .int .i64 aQ, .slice A l.length cc] 26 (0, 0))] [] [(.slice ua k.f3.length uc, k.f3), (.slice (some lu) M.length cl, M), (.slice Aa pre.length ca, pre), (.slice A l.length cc, l)] [((lu.add (pm.length * 7)), .int .u8 k.f0), (⟨(lu.add (pm.length * 7)).block, (lu.add (pm.length * 7)).off + 1, none⟩, .int .i64 k.f1.f0), (⟨(lu.add (pm.length * 7)).block, (lu.add (pm.length * 7)).off + 2, none⟩, .int .i64 k.f1.f1), (⟨(lu.add (pm.length * 7)).block, (lu.add (pm.length * 7)).off + 3, none⟩, .int .i64 k.f1.f2), (⟨(lu.add (pm.length * 7)).block, (lu.add (pm.length * 7)).off + 4, none⟩, .int .i64 k.f1.f3), (⟨(lu.add (pm.length * 7)).block, (lu.add (pm.length * 7)).off + 5, none⟩, .int .i64 k.f2), (⟨(lu.add (pm.length * 7)).block, (lu.add (pm.length * 7)).off + 6, none⟩, .slice ua k.f3.length uc)] wr))
     case atStart => exact ⟨[], pm, rfl, ⟨rfl⟩, Nat.le_refl _, ⟨rfl⟩, ⟨S.out⟩⟩
     case round =>
      clear S
      rename World => wy
      obtain ⟨pa, pb, rfl, HE2, hgg, Yx, S⟩ := hrel
      cases pb with
      | nil =>
       have hE := HE2.out
       rw [List.append_nil] at hE
       subst hE
       have hlt : ¬ ((pa.length : Int) < (pa.length : Int)) := by omega
       go_wp2
       have hw1 := HW1.out
       go_wp2
       go_roundg rest.length
       case measure => exact Nat.lt_of_lt_of_le (Nat.lt_succ_self _) kY.out
       case rel => exact ⟨pa ++ [k], rest, (by rw [hw1]), ⟨by rw [List.append_assoc]; exact HE.out⟩, Nat.le_refl _, ⟨by rw [rG, HD.out, Yx.out]; rfl⟩, ⟨S.out.dC.aU.aU.aU.aU.aU.aU.aU⟩⟩
      | cons q pb =>
       have hlt : (pa.length : Int) < (pm.length : Int) := by rw [← HE2.out, List.length_append, List.length_cons]; omega
       have hlt0 := Qk.out
       have hlt2 : (pa.length : Int) < (M.length : Int) := by omega
       have hw1 : wrap64 ((pa.length : Int) + 1) = ((pa ++ [q]).length : Int) := by have := HPM.out; rw [List.length_append, List.length_singleton]; unfold wrap64; omega
       have HW2 := ae.mk hw1
       have ahB := ae.mk hgg
       obtain ⟨adq, va, vc, U1, S1⟩ := S.out.elem bf (pa.length : Int) (Int.natCast_nonneg _) hlt2
       injection U1 with U1
       subst U1
       have hrd : aj M (pa.length : Int) = q := by rw [← HE.out, ← HE2.out, List.append_assoc]; exact lD pa q (pb ++ k :: rest)
       rw [hrd] at S1
       simp only [Int.toNat_natCast] at S1
       replace S := ae.mk S1
       clear S1 hrd hgg hw1
       by_cases hq : k.f2 = q.f2
       case pos =>
        have hqb : (k.f2 == q.f2) = true := beq_iff_eq.mpr hq
        have hqd : decide (k.f2 = q.f2) = true := decide_eq_true hq
        have HQ := ae.mk hq
        clear hq
        have PW := (S.out.cell _ (.tail _ (.tail _ (.tail _ Dw)))).1
        have kG := (S.out.cell _ zh).1
        go_wp2
        go_quiet (fail)
        clear PW kG
        replace S := ae.mk (S.out.call (aV (Below.refl _ _) nq))
        generalize wr.drewN nq = alM at S ⊢
        go_wp2
        have HB := ae.mk (show pI pre M = false by unfold pI; rw [← HE.out, PY (by rw [← HE2.out]; unfold o8; rw [List.all_append, List.all_cons, decide_eq_false (by have := HQ.out; simpa using this), Bool.false_and, Bool.and_false]), Bool.and_false, Bool.and_false])
        go_ret
        refine ⟨?_, S.out.below⟩
        rw [HB.out]
        rfl
       case neg =>
        have hqb : (k.f2 == q.f2) = false := beq_eq_false_iff_ne.mpr hq
        have hqd : decide (k.f2 = q.f2) = false := decide_eq_false hq
        have HQ := ae.mk hq
        clear hq
        have PW := (S.out.cell _ (.tail _ (.tail _ (.tail _ Dw)))).1
        have kG := (S.out.cell _ zh).1
        go_wp2
        go_quiet (fail)
        clear PW kG
        replace S := ae.mk (S.out.call (aV (Below.refl _ _) nq))
        generalize wr.drewN nq = alN at S ⊢
        go_wp2
        have hw1 := HW2.out
        go_wp2
        go_roundg pb.length
        case measure => exact Nat.lt_of_lt_of_le (Nat.lt_succ_self _) ahB.out
        case rel => exact ⟨pa ++ [q], pb, (by rw [hw1]), ⟨by rw [List.append_assoc]; exact HE2.out⟩, Nat.le_refl _, ⟨by unfold o8; rw [List.all_append, List.all_cons, decide_eq_true HQ.out]; rw [show (pa.all fun y => decide (k.f2 ≠ y.f2)) = true from Yx.out]; rfl⟩, ⟨S.out.dC.aU.aU.aU.aU.aU.aU.aU⟩⟩
def ab9.f (_ : Nat) (a0 a1 a2 a3 a4 a5 : Int) (l : List ai) : Option Bool := if sz ⟨a0, ⟨a1, a2, a3, a4⟩, a5, l⟩ ≤ 1048576 then some (lH ⟨a0, ⟨a1, a2, a3, a4⟩, a5, l⟩) else none
def dF (c : ai) : Bool := lH c && mf c
theorem pJ {c : ai} (h : lH c = true) : sz c ≤ 20000 := by
 unfold lH at h
 simp only [Bool.and_eq_true, decide_eq_true_eq] at h
 omega
theorem acX : ∀ (N : Nat), (∀ c : ai, sz c ≤ N → ∀ d, d ∈ fK c → sz d ≤ sz c) ∧ (∀ l : List ai, dO l ≤ N → ∀ d, d ∈ allL l → sz d ≤ dO l) := by
 intro N
 induction N with
 | zero =>
  refine ⟨fun c h => ?_, fun l h => ?_⟩
  ·rw [bP] at h; omega
  ·cases l with
   | nil => intro d hd; rw [lh] at hd; cases hd
   | cons z zs => rw [bJ, bP] at h; omega
 | succ N ih =>
  have hC : ∀ c : ai, sz c ≤ N + 1 → ∀ d, d ∈ fK c → sz d ≤ sz c := by
   intro c h d hd
   have hs := bP c
   rw [lC] at hd
   rcases List.mem_cons.1 hd with rfl | hd
   ·exact Nat.le_refl _
   ·have := ih.2 c.f3 (by omega) d hd
    omega
  refine ⟨hC, fun l => ?_⟩
  induction l with
  | nil => intro _ d hd; rw [lh] at hd; cases hd
  | cons x xs ihl =>
   intro h d hd
   rw [bJ] at h ⊢
   rw [iK] at hd
   rcases List.mem_append.1 hd with hd | hd
   ·have := hC x (by omega) d hd
    omega
   ·have := ihl (by omega) d hd
    omega
theorem Xd {c d : ai} (h : d ∈ fK c) : d.f3.length + 1 ≤ sz c := by
 have h1 := (acX (sz c)).1 c (Nat.le_refl _) d h
 have h2 := bP d
 have h3 := jY d.f3
 omega
section
variable {W : World} {b : Nat} {P : Nat → Prop} {A : Option Addr} {cc : Nat}
theorem ae1 (c : ai) (h : nN c = false) (hl : c.f3.length ≤ 1000000) (hV : Kd.V k26 26 W b P (.slice A c.f3.length cc) c.f3) : Calls Try.prog 178 #[.agg #[.int .u8 c.f0, .int .i64 c.f1.f0, .int .i64 c.f1.f1, .int .i64 c.f1.f2, .int .i64 c.f1.f3, .int .i64 c.f2, .slice A c.f3.length cc]] W fun e w' => ∃ A n cc, e = .returned (.tuple #[.slice A n cc, .bool false]) ∧ Below W.heap.size W w' :=
 (V7 c hl b P A cc W hV).mono (fun _ _ ⟨A, n, cc, h1, _, h3⟩ => ⟨A, n, cc, by rw [h1, h], h3⟩)
theorem abu (c : ai) (h : nN c = true) (hl : c.f3.length ≤ 1000000) (hV : Kd.V k26 26 W b P (.slice A c.f3.length cc) c.f3) : Calls Try.prog 178 #[.agg #[.int .u8 c.f0, .int .i64 c.f1.f0, .int .i64 c.f1.f1, .int .i64 c.f1.f2, .int .i64 c.f1.f3, .int .i64 c.f2, .slice A c.f3.length cc]] W fun e w' => ∃ A cc ls, e = .returned (.tuple #[.slice A ls.length cc, .bool true]) ∧ ls.length ≤ c.f3.length ∧ k23.R 23 w' W.heap.size (fun _ => True) (.slice A ls.length cc) ls ∧ Below W.heap.size W w' :=
 (V7 c hl b P A cc W hV).mono (fun _ _ ⟨A, n, cc, h1, h2, h3⟩ => by
  obtain ⟨ls, rfl, h4, h5⟩ := h2 h
  exact ⟨A, cc, ls, by rw [h1, h], h4, h5, h3⟩)
theorem Y1 {c : ai} {v : Bool} (h : lH c = v) (hz : sz c ≤ 1048576) (b : Nat) (P : Nat → Prop) (A : Option Addr) (cc : Nat) (W : World) (hV : Kd.V k26 26 W b P (.slice A c.f3.length cc) c.f3) : Calls Try.prog 38 #[.agg #[.int .u8 c.f0, .int .i64 c.f1.f0, .int .i64 c.f1.f1, .int .i64 c.f1.f2, .int .i64 c.f1.f3, .int .i64 c.f2, .slice A c.f3.length cc]] W fun e w' => e = .returned (.bool v) ∧ Below W.heap.size W w' := by
 have h1 := Kd.oI hV
 have h2 := agr c hz A cc W h1.2.2 h1.2.1
 rwa [h] at h2
end
abbrev MS (w : World) (c : ai) (e : Ending) (w' : World) : Prop := ∃ A n cc n1 n2, e = .returned (.tuple #[.slice A n cc, .int .i64 n1, .int .i64 n2]) ∧ (n1 == 0) = dF c ∧ Below w.heap.size w w'
theorem Xo (c : ai) (hz : sz c ≤ 1048576) (b : Nat) (P : Nat → Prop) (A : Option Addr) (cc : Nat) (w : World) (hv : Kd.V k26 26 w b P (.slice A c.f3.length cc) c.f3) :
  Calls Try.prog 146 #[.agg #[.int .u8 c.f0, .int .i64 c.f1.f0, .int .i64 c.f1.f1, .int .i64 c.f1.f2, .int .i64 c.f1.f3, .int .i64 c.f2, .slice A c.f3.length cc]] w (MS w c) := by
 have S := ae.mk (St.start (ts := [(.slice A c.f3.length cc, c.f3)]) (b0 := w.heap.size) (w := w) (P := P) (fun t ht => by rw [List.mem_singleton.1 ht]; exact dX hv))
 unfold MS
 cases hm : lH c with
 | false =>
  have yh := ae.mk (fun b P A cc W hV => Y1 hm hz b P A cc W hV)
  rw [show dF c = false by unfold dF; rw [hm]; rfl]
  clear hm hv hz
  obtain ⟨ck, ⟨cx, cy, cw, ch⟩, aQ, l⟩ := c
  simp only [] at S yh ⊢
  go_enter Try.func146, Try.ntmps146
  go_wp2_with (first
   | (refine boxS 1 _ 26 S ?_; clear S; intro b1 eU S)
   | (refine fD 11 rfl ?_; refine oD k23 23 rfl 11 S ?_; clear S; intro Ae ce oe fV S HKe; obtain ⟨gX, lN, lQ, lS, lT, nT, jB⟩ := St.dS S bf)
   | (refine bI (some 13) Try.func38 S (yh.out _ _ _ _ _ (S.out.tree _ (.head _))) ?_; clear S; intro gz S; clear gX lN lQ lS lT nT jB)
   | fail)
  go_ret3
  exact ⟨_, _, _, _, _, rfl, rfl, S.out.below⟩
 | true =>
  have yh := ae.mk (fun b P A cc W hV => Y1 hm hz b P A cc W hV)
  have KZ := ae.mk (fun b P A cc W hV => @N7 W b P A cc c hz hV)
  have hs := pJ hm
  have hk : ∀ k, k ∈ fK c → k.f3.length ≤ 20000 := fun k hk => by have := Xd hk; omega
  have hlen : (fK c).length ≤ 20000 := hs
  have ht : dF c = (fK c).all nN := by unfold dF; rw [hm, Bool.true_and]; rfl
  rw [ht]
  generalize fK c = L at KZ hk hlen ⊢
  have kF := ae.mk hlen
  have HKK := ae.mk hk
  clear hm hv hz ht hs hk hlen
  obtain ⟨ck, ⟨cx, cy, cw, ch⟩, aQ, l⟩ := c
  simp only [] at S yh KZ ⊢
  go_enter Try.func146, Try.ntmps146
  go_wp2_with (first
   | (refine boxS 1 _ 26 S ?_; clear S; intro b1 eU S)
   | (refine fD 11 rfl ?_; refine oD k23 23 rfl 11 S ?_; clear S; intro Ae ce oe fV S HKe; obtain ⟨gX, lN, lQ, lS, lT, nT, jB⟩ := St.dS S bf)
   | (refine bI (some 13) Try.func38 S (yh.out _ _ _ _ _ (S.out.tree _ (.head _))) ?_; clear S; intro gz S; clear gX lN lQ lS lT nT jB; obtain ⟨gX, lN, lQ, lS, lT, nT, jB⟩ := St.dS S bf)
   | (refine qw (some 17) Try.func79 S (KZ.out _ _ _ _ _ (S.out.tree _ (.head _))) ?_; clear S; intro Aa ca lI S; clear gX lN lQ lS lT nT jB)
   | (refine fD 18 rfl ?_; refine oD k23 23 rfl 18 S ?_; clear S; intro Ap cp op mQ S iW)
   | fail)
  go_loopg [7, 21] L.length (fun gg v7 v21 wr => ∃ (pre rest : List ai) (out : List dK) (Ap : Option Addr) (cp : Nat) (op : Obj), v7 = .slice Ap out.length cp ∧ v21 = .int .i64 (pre.length : Int) ∧ ae (pre ++ rest = L) ∧ ae (pre.all nN = true) ∧ ae (out.length ≤ 20000 * pre.length) ∧ rest.length ≤ gg ∧ ae (KR k23 23 w.heap.size (.slice Ap out.length cp) out op) ∧ ae (St w P [((Value.slice Ap out.length cp).ownBlock, op), ((Value.slice Ae 0 ce).ownBlock, oe), (some b1, .cells #[.int .u8 ck, .int .i64 cx, .int .i64 cy, .int .i64 cw, .int .i64 ch, .int .i64 aQ, .slice A l.length cc] 26 (0, 0))] [] [(.slice Aa L.length ca, L), (.slice A l.length cc, l)] [] wr))
  case atStart => exact ⟨[], L, [], _, _, _, rfl, rfl, ⟨rfl⟩, ⟨rfl⟩, ⟨Nat.zero_le _⟩, Nat.le_refl _, iW, S⟩
  case round =>
   clear S iW
   obtain ⟨pre, rest, out, Ap, cp, op, rfl, rfl, HE, HA, HOL, hgg, iW, S⟩ := hrel
   cases rest with
   | nil =>
    have hE := HE.out
    rw [List.append_nil] at hE
    have hE2 := hE.symm
    subst hE2
    clear hE HE hgg
    have hlt : ¬ ((L.length : Int) < (L.length : Int)) := by omega
    go_wp2
    go_ret3
    exact ⟨_, _, _, _, ⟨_, rfl⟩, HA.out.symm, S.out.below⟩
   | cons k rest =>
    have WV := ae.mk (HKK.out k (by rw [← HE.out]; simp))
    have HKL := ae.mk (show k.f3.length ≤ 1000000 by have := WV.out; omega)
    have ahC := ae.mk (show pre.length ≤ 20000 by have := kF.out; rw [← HE.out, List.length_append] at this; omega)
    have hk : k ∈ L := by rw [← HE.out]; simp
    have hlt : (pre.length : Int) < (L.length : Int) := by rw [← HE.out, List.length_append, List.length_cons]; omega
    have hw1 : wrap64 ((pre.length : Int) + 1) = ((pre ++ [k]).length : Int) := by have := kF.out; rw [List.length_append, List.length_singleton]; unfold wrap64; omega
    have HW1 := ae.mk hw1
    have kY := ae.mk hgg
    have HK := ae.mk hk
    have DF := ae.mk (show pre.length ≤ 1048576 by have := kF.out; omega)
    obtain ⟨lu, ua, uc, ek, S1⟩ := S.out.elem (.head _) (pre.length : Int) (Int.natCast_nonneg _) hlt
    subst ek
    have hrd : aj L (pre.length : Int) = k := by rw [← HE.out]; exact lD pre k rest
    rw [hrd] at S1
    simp only [Int.toNat_natCast] at S1
    replace S := ae.mk S1
    clear S1 hrd hk hgg hw1
    cases ho : nN k with
    | false =>
     have HO := ae.mk ho
     clear ho
     obtain ⟨jZ, ku, kz, jE, jF, kG, lJ⟩ := St.Dv S
     go_wp2_with (first
      | (refine nG (some 29) Try.func178 (ae1 k HO.out HKL.out (S.out.tree _ (.head _))) ?_; rintro e eU ⟨Ax, nx, cx', rfl, hb⟩; refine ⟨_, rfl, ?_⟩; replace S := ae.mk (S.out.call hb); clear hb; clear jZ ku kz jE jF kG lJ)
      | fail)
     go_ret3
     exact ⟨_, _, _, _, _, rfl, (by rw [← HE.out, List.all_append, List.all_cons, HO.out, Bool.false_and, Bool.and_false]; rfl), S.out.below⟩
    | true =>
     have HO := ae.mk ho
     clear ho
     obtain ⟨jZ, ku, kz, jE, jF, kG, lJ⟩ := St.Dv S
     go_wp2_with (first
      | (refine nG (some 29) Try.func178 (abu k HO.out HKL.out (S.out.tree _ (.head _))) ?_; rintro e eU ⟨Ax, cx', ls, rfl, h0, h1, hb⟩; refine ⟨_, rfl, ?_⟩; obtain ⟨ox, S1, hI⟩ := S.out.TI (d := k23) (e := 23) rfl h1 hb; replace S := ae.mk S1; have HKx := ae.mk hI; have Qj := ae.mk h0; clear S1 hI h0 h1 hb; clear jZ ku kz jE jF kG lJ)
      | (refine fD 38 rfl ?_; at_builtin; replace S := ae.mk S.out.vO; refine Xf k23 23 rfl 36 37 42 _ 32 Try.underlying42 info23 rfl (by decide) (by decide) (by decide) S iW ls (acL HKx.out S.out bf).1 (fun _ _ _ _ _ h => h) (by have := HOL.out; have := Qj.out; have := WV.out; have := ahC.out; omega) ?_; clear S iW; intro MR cp2 Pn fV S iW)
      | fail)
     have hw1 := HW1.out
     go_wp2
     go_roundg rest.length
     case measure => exact Nat.lt_of_lt_of_le (Nat.lt_succ_self _) kY.out
     case rel => exact ⟨pre ++ [k], rest, out ++ ls, _, _, _, (by rw [List.length_append]), (by rw [hw1]), ⟨by rw [List.append_assoc]; exact HE.out⟩, ⟨by rw [List.all_append, HA.out, List.all_cons, HO.out]; rfl⟩, ⟨by have := HOL.out; have := Qj.out; have := WV.out; rw [List.length_append, List.length_append, List.length_singleton]; omega⟩, Nat.le_refl _, iW, ⟨S.out.vO.f_.Lh.Lh.Lh.dC.aU.aU.aU.aU.aU.aU.aU⟩⟩
theorem Yi (c : ai) (hz : sz c ≤ 1048576) (b : Nat) (P : Nat → Prop) (A : Option Addr) (cc : Nat) (w : World) (hv : Kd.V k26 26 w b P (.slice A c.f3.length cc) c.f3) :
  Calls Try.prog 84 #[.agg #[.int .u8 c.f0, .int .i64 c.f1.f0, .int .i64 c.f1.f1, .int .i64 c.f1.f2, .int .i64 c.f1.f3, .int .i64 c.f2, .slice A c.f3.length cc]] w fun e w' => e = .returned (.bool (dF c)) ∧ Below w.heap.size w w' := by
 have S := ae.mk (St.start (ts := [(.slice A c.f3.length cc, c.f3)]) (b0 := w.heap.size) (w := w) (P := P) (fun t ht => by rw [List.mem_singleton.1 ht]; exact dX hv))
 have YA := ae.mk (fun b P A cc W hV => Xo c hz b P A cc W hV)
 unfold MS at YA
 generalize dF c = v at YA ⊢
 clear hv hz
 obtain ⟨ck, ⟨cx, cy, cw, ch⟩, aQ, l⟩ := c
 simp only [] at S YA ⊢
 go_enter Try.func84, Try.ntmps84
 go_wp2_with (first
  | (refine boxS 1 _ 26 S ?_; clear S; intro b1 eU S; obtain ⟨gX, lN, lQ, lS, lT, nT, jB⟩ := St.dS S (.head _))
  | (refine nG (some 8) Try.func146 (YA.out _ _ _ _ _ (S.out.tree _ (.head _))) ?_; rintro e fV ⟨Ax, nx, cx', n1, n2, rfl, hn, hb⟩; refine ⟨_, rfl, ?_⟩; have hn2 : decide (n1 = 0) = v := (by rw [← hn]; by_cases h : n1 = 0 <;> simp [h]); replace S := ae.mk (S.out.call hb); clear hb; clear gX lN lQ lS lT nT jB)
  | fail)
 go_ret
 exact ⟨rfl, S.out.below⟩
def nJ.f (_ : Nat) (a0 a1 a2 a3 a4 a5 : Int) (l : List ai) : Option Bool := if sz ⟨a0, ⟨a1, a2, a3, a4⟩, a5, l⟩ ≤ 1048576 then some (dF ⟨a0, ⟨a1, a2, a3, a4⟩, a5, l⟩) else none
theorem nJ.calls (k : Nat) (ay : Int) (aI : Int) (aC : Int) (aH : Int) (bU : Int) (bV : Int) (eH : Option Addr) (eP : Nat) (aT : List (ai)) (r : Bool) (w : World) (rZ : Kd.C k26 w eH aT.length aT) (ug : aT.length ≤ eP) (h : nJ.f k ay aI aC aH bU bV aT = some r) :
  Calls Try.prog 84 #[.agg #[.int .u8 ay, .int .i64 aI, .int .i64 aC, .int .i64 aH, .int .i64 bU, .int .i64 bV, .slice eH aT.length eP]] w fun e w' => e = .returned (.bool r) ∧ Below w.heap.size w w' := by
 unfold nJ.f at h
 split at h
 ·rename_i hz
  injection h with h
  subst h
  exact Yi ⟨ay, ⟨aI, aC, aH, bU⟩, bV, aT⟩ hz w.heap.size (fun _ => True) eH eP w (Kd.yR ug (Kd.sG (Kd.KX sW rZ) (fun _ _ => trivial)))
 ·cases h
theorem PG (c : ai) (hz : sz c ≤ 1048576) : Ev (fun k => nJ.f k c.f0 c.f1.f0 c.f1.f1 c.f1.f2 c.f1.f3 c.f2 c.f3) (dF c) := by
 refine Ev.congr (f := fun _ => some (dF c)) (fun k => ?_) (Ev.now _)
 unfold nJ.f
 rw [MK, if_pos hz]
end Go.Proofs.Ytfdmfgaiblfbhaa.P
namespace Go.Proofs.Ytfdmfgaiblfbhaa.P
open Go.RowKit Go.Proofs.ag.aA Go.Proofs.ag.bg Go.Proofs.ag.bG
attribute [local go_sem] jD jQ kM kV jo jq kC kD
def su.f (ay : Int) (aI : Int) (aC : Int) (aH : Int) (bU : Int) (bV : Int) (aT : List (ai)) (a1 : Int) : Option (Bool) := if ay = 2 then (if a1 = 1 then (some true) else (if ay = 3 then (some (a1 == 2)) else (some false))) else (if ay = 3 then (some (a1 == 2)) else (some false))
theorem su.calls (ay : Int) (aI : Int) (aC : Int) (aH : Int) (bU : Int) (bV : Int) (eH : Option Addr) (eP : Nat) (aT : List (ai)) (a1 : Int) (r : Bool) (w : World) (rZ : Kd.C k26 w eH aT.length aT) (ug : aT.length ≤ eP) (h : su.f ay aI aC aH bU bV aT a1 = some r) :
  Calls Try.prog 88 #[.agg #[.int .u8 ay, .int .i64 aI, .int .i64 aC, .int .i64 aH, .int .i64 bU, .int .i64 bV, .slice eH aT.length eP], .int .u8 a1] w fun e w' => e = .returned (.bool r) ∧ Below w.heap.size w w' := by
 have GN := Try.underlying26
 clear rZ ug
 have HB := ae.mk (Below.refl w.heap.size w)
 have H : (if ay = 2 then (if a1 = 1 then (some true) else (if ay = 3 then (some (a1 == 2)) else (some false))) else (if ay = 3 then (some (a1 == 2)) else (some false))) = some r := h
 clear h
 by_cases c3 : ay = 2
 ·rw [if_pos c3] at H
  have vz : (ay == 2) = true := beq_iff_eq.mpr c3
  have Cm : (ay != 2) = false := bne_eq_false_iff_eq.mpr c3
  clear c3
  by_cases c4 : a1 = 1
  ·rw [if_pos c4] at H
   have oJ : (a1 == 1) = true := beq_iff_eq.mpr c4
   have Xn : (a1 != 1) = false := bne_eq_false_iff_eq.mpr c4
   clear c4
   obtain rfl := Option.some.inj H
   go_enter Try.func88, Try.ntmps88
   go_wp2_with (((with_reducible refine au (N := 2) rfl ?_); refine aG ?hg (N := 2) ?hd (cs := #[.int .u8 ay, .int .i64 aI, .int .i64 aC, .int .i64 aH, .int .i64 bU, .int .i64 bV, .slice eH aT.length eP]) (t := 26) ?hr ?_; (case hd => rfl); (case hg => rfl); (case hr => (go_simp; done)); intro g_ hg w5 hbox hb; have dB := ae.mk (hbox); replace HB := ae.mk (ak (by repeat ((with_reducible exact HB.out))) hb); clear hb hbox hg; have D9 : w5.cell? ⟨g_, 0, none⟩ = some (.int .u8 ay) := (af dB.out 0).trans rfl; have D_ : w5.cell? ⟨g_, 1, none⟩ = some (.int .i64 aI) := (af dB.out 1).trans rfl; have Ea : w5.cell? ⟨g_, 2, none⟩ = some (.int .i64 aC) := (af dB.out 2).trans rfl; have Eb : w5.cell? ⟨g_, 3, none⟩ = some (.int .i64 aH) := (af dB.out 3).trans rfl; have Ec : w5.cell? ⟨g_, 4, none⟩ = some (.int .i64 bU) := (af dB.out 4).trans rfl; have Ed : w5.cell? ⟨g_, 5, none⟩ = some (.int .i64 bV) := (af dB.out 5).trans rfl; have Ee : w5.cell? ⟨g_, 6, none⟩ = some (.slice eH aT.length eP) := (af dB.out 6).trans rfl; have Ef := ah dB.out 0; have Eg := ah dB.out 1; have Eh := ah dB.out 2; have Ei := ah dB.out 3; have Ej := ah dB.out 4; have Em := ah dB.out 5; have En := ah dB.out 6))
   go_ret
   exact ⟨by rfl, by repeat ((with_reducible exact HB.out))⟩
  ·rw [if_neg c4] at H
   have oJ : (a1 == 1) = false := beq_eq_false_iff_ne.mpr c4
   have Xn : (a1 != 1) = true := bne_iff_ne.mpr c4
   by_cases c7 : ay = 3
   ·rw [if_pos c7] at H
    have vC : (ay == 3) = true := beq_iff_eq.mpr c7
    have Jo : (ay != 3) = false := bne_eq_false_iff_eq.mpr c7
    clear c7
    obtain rfl := Option.some.inj H
    go_enter Try.func88, Try.ntmps88
    go_wp2_with (((with_reducible refine au (N := 2) rfl ?_); refine aG ?hg (N := 2) ?hd (cs := #[.int .u8 ay, .int .i64 aI, .int .i64 aC, .int .i64 aH, .int .i64 bU, .int .i64 bV, .slice eH aT.length eP]) (t := 26) ?hr ?_; (case hd => rfl); (case hg => rfl); (case hr => (go_simp; done)); intro g_ hg w8 hbox hb; have dB := ae.mk (hbox); replace HB := ae.mk (ak (by repeat ((with_reducible exact HB.out))) hb); clear hb hbox hg; have aec : w8.cell? ⟨g_, 0, none⟩ = some (.int .u8 ay) := (af dB.out 0).trans rfl; have aed : w8.cell? ⟨g_, 1, none⟩ = some (.int .i64 aI) := (af dB.out 1).trans rfl; have aee : w8.cell? ⟨g_, 2, none⟩ = some (.int .i64 aC) := (af dB.out 2).trans rfl; have aef : w8.cell? ⟨g_, 3, none⟩ = some (.int .i64 aH) := (af dB.out 3).trans rfl; have aeg : w8.cell? ⟨g_, 4, none⟩ = some (.int .i64 bU) := (af dB.out 4).trans rfl; have aeh : w8.cell? ⟨g_, 5, none⟩ = some (.int .i64 bV) := (af dB.out 5).trans rfl; have aei : w8.cell? ⟨g_, 6, none⟩ = some (.slice eH aT.length eP) := (af dB.out 6).trans rfl; have aeu := ah dB.out 0; have aev := ah dB.out 1; have aew := ah dB.out 2; have aex := ah dB.out 3; have aey := ah dB.out 4; have aez := ah dB.out 5; have aeA := ah dB.out 6))
    go_ret
    exact ⟨by rfl, by repeat ((with_reducible exact HB.out))⟩
   ·rw [if_neg c7] at H
    have vC : (ay == 3) = false := beq_eq_false_iff_ne.mpr c7
    have Jo : (ay != 3) = true := bne_iff_ne.mpr c7
    obtain rfl := Option.some.inj H
    go_enter Try.func88, Try.ntmps88
    go_wp2_with (((with_reducible refine au (N := 2) rfl ?_); refine aG ?hg (N := 2) ?hd (cs := #[.int .u8 ay, .int .i64 aI, .int .i64 aC, .int .i64 aH, .int .i64 bU, .int .i64 bV, .slice eH aT.length eP]) (t := 26) ?hr ?_; (case hd => rfl); (case hg => rfl); (case hr => (go_simp; done)); intro g_ hg w10 hbox hb; have dB := ae.mk (hbox); replace HB := ae.mk (ak (by repeat ((with_reducible exact HB.out))) hb); clear hb hbox hg; have ZH : w10.cell? ⟨g_, 0, none⟩ = some (.int .u8 ay) := (af dB.out 0).trans rfl; have ZI : w10.cell? ⟨g_, 1, none⟩ = some (.int .i64 aI) := (af dB.out 1).trans rfl; have ZJ : w10.cell? ⟨g_, 2, none⟩ = some (.int .i64 aC) := (af dB.out 2).trans rfl; have ZK : w10.cell? ⟨g_, 3, none⟩ = some (.int .i64 aH) := (af dB.out 3).trans rfl; have ZL : w10.cell? ⟨g_, 4, none⟩ = some (.int .i64 bU) := (af dB.out 4).trans rfl; have ZM : w10.cell? ⟨g_, 5, none⟩ = some (.int .i64 bV) := (af dB.out 5).trans rfl; have ZN : w10.cell? ⟨g_, 6, none⟩ = some (.slice eH aT.length eP) := (af dB.out 6).trans rfl; have aar := ah dB.out 0; have aas := ah dB.out 1; have aat := ah dB.out 2; have aau := ah dB.out 3; have aav := ah dB.out 4; have aaw := ah dB.out 5; have aax := ah dB.out 6))
    go_ret
    exact ⟨by rfl, by repeat ((with_reducible exact HB.out))⟩
 ·rw [if_neg c3] at H
  have vz : (ay == 2) = false := beq_eq_false_iff_ne.mpr c3
  have Cm : (ay != 2) = true := bne_iff_ne.mpr c3
  by_cases c12 : ay = 3
  ·rw [if_pos c12] at H
   have Ig : (ay == 3) = true := beq_iff_eq.mpr c12
   have Ih : (ay != 3) = false := bne_eq_false_iff_eq.mpr c12
   clear c12
   obtain rfl := Option.some.inj H
   go_enter Try.func88, Try.ntmps88
   go_wp2_with (((with_reducible refine au (N := 2) rfl ?_); refine aG ?hg (N := 2) ?hd (cs := #[.int .u8 ay, .int .i64 aI, .int .i64 aC, .int .i64 aH, .int .i64 bU, .int .i64 bV, .slice eH aT.length eP]) (t := 26) ?hr ?_; (case hd => rfl); (case hg => rfl); (case hr => (go_simp; done)); intro g_ hg uw hbox hb; have dB := ae.mk (hbox); replace HB := ae.mk (ak (by repeat ((with_reducible exact HB.out))) hb); clear hb hbox hg; have JD : uw.cell? ⟨g_, 0, none⟩ = some (.int .u8 ay) := (af dB.out 0).trans rfl; have JE : uw.cell? ⟨g_, 1, none⟩ = some (.int .i64 aI) := (af dB.out 1).trans rfl; have JF : uw.cell? ⟨g_, 2, none⟩ = some (.int .i64 aC) := (af dB.out 2).trans rfl; have JG : uw.cell? ⟨g_, 3, none⟩ = some (.int .i64 aH) := (af dB.out 3).trans rfl; have ZW : uw.cell? ⟨g_, 4, none⟩ = some (.int .i64 bU) := (af dB.out 4).trans rfl; have ZX : uw.cell? ⟨g_, 5, none⟩ = some (.int .i64 bV) := (af dB.out 5).trans rfl; have ZY : uw.cell? ⟨g_, 6, none⟩ = some (.slice eH aT.length eP) := (af dB.out 6).trans rfl; have JL := ah dB.out 0; have JM := ah dB.out 1; have JO := ah dB.out 2; have JP := ah dB.out 3; have aaF := ah dB.out 4; have aaG := ah dB.out 5; have aaH := ah dB.out 6))
   go_ret
   exact ⟨by rfl, by repeat ((with_reducible exact HB.out))⟩
  ·rw [if_neg c12] at H
   have Ig : (ay == 3) = false := beq_eq_false_iff_ne.mpr c12
   have Ih : (ay != 3) = true := bne_iff_ne.mpr c12
   obtain rfl := Option.some.inj H
   go_enter Try.func88, Try.ntmps88
   go_wp2_with (((with_reducible refine au (N := 2) rfl ?_); refine aG ?hg (N := 2) ?hd (cs := #[.int .u8 ay, .int .i64 aI, .int .i64 aC, .int .i64 aH, .int .i64 bU, .int .i64 bV, .slice eH aT.length eP]) (t := 26) ?hr ?_; (case hd => rfl); (case hg => rfl); (case hr => (go_simp; done)); intro g_ hg uU hbox hb; have dB := ae.mk (hbox); replace HB := ae.mk (ak (by repeat ((with_reducible exact HB.out))) hb); clear hb hbox hg; have QM : uU.cell? ⟨g_, 0, none⟩ = some (.int .u8 ay) := (af dB.out 0).trans rfl; have QN : uU.cell? ⟨g_, 1, none⟩ = some (.int .i64 aI) := (af dB.out 1).trans rfl; have QO : uU.cell? ⟨g_, 2, none⟩ = some (.int .i64 aC) := (af dB.out 2).trans rfl; have QP : uU.cell? ⟨g_, 3, none⟩ = some (.int .i64 aH) := (af dB.out 3).trans rfl; have ZZ : uU.cell? ⟨g_, 4, none⟩ = some (.int .i64 bU) := (af dB.out 4).trans rfl; have Z4 : uU.cell? ⟨g_, 5, none⟩ = some (.int .i64 bV) := (af dB.out 5).trans rfl; have Z5 : uU.cell? ⟨g_, 6, none⟩ = some (.slice eH aT.length eP) := (af dB.out 6).trans rfl; have QU := ah dB.out 0; have QV := ah dB.out 1; have QW := ah dB.out 2; have QX := ah dB.out 3; have aaI := ah dB.out 4; have aaJ := ah dB.out 5; have aaK := ah dB.out 6))
   go_ret
   exact ⟨by rfl, by repeat ((with_reducible exact HB.out))⟩
def uK.f (ay : Int) (aI : Int) (aC : Int) (aH : Int) (bU : Int) (bV : Int) (aT : List (ai)) (a1 : Int) : Option (Bool) := if ay = 2 then (if a1 = 1 then (some true) else (if ay = 3 then (some (a1 == 2)) else (some false))) else (if ay = 3 then (some (a1 == 2)) else (some false))
theorem uK.calls (ay : Int) (aI : Int) (aC : Int) (aH : Int) (bU : Int) (bV : Int) (eH : Option Addr) (eP : Nat) (aT : List (ai)) (a1 : Int) (r : Bool) (w : World) (rZ : Kd.C k26 w eH aT.length aT) (ug : aT.length ≤ eP) (h : uK.f ay aI aC aH bU bV aT a1 = some r) :
  Calls Try.prog 99 #[.agg #[.int .u8 ay, .int .i64 aI, .int .i64 aC, .int .i64 aH, .int .i64 bU, .int .i64 bV, .slice eH aT.length eP], .int .u8 a1] w fun e w' => e = .returned (.bool r) ∧ Below w.heap.size w w' := by
 have GN := Try.underlying26
 clear rZ ug
 have HB := ae.mk (Below.refl w.heap.size w)
 have H : (if ay = 2 then (if a1 = 1 then (some true) else (if ay = 3 then (some (a1 == 2)) else (some false))) else (if ay = 3 then (some (a1 == 2)) else (some false))) = some r := h
 clear h
 by_cases c3 : ay = 2
 ·rw [if_pos c3] at H
  have vz : (ay == 2) = true := beq_iff_eq.mpr c3
  have Cm : (ay != 2) = false := bne_eq_false_iff_eq.mpr c3
  clear c3
  by_cases c4 : a1 = 1
  ·rw [if_pos c4] at H
   have oJ : (a1 == 1) = true := beq_iff_eq.mpr c4
   have Xn : (a1 != 1) = false := bne_eq_false_iff_eq.mpr c4
   clear c4
   obtain rfl := Option.some.inj H
   go_enter Try.func99, Try.ntmps99
   go_wp2_with (((with_reducible refine au (N := 2) rfl ?_); refine aG ?hg (N := 2) ?hd (cs := #[.int .u8 ay, .int .i64 aI, .int .i64 aC, .int .i64 aH, .int .i64 bU, .int .i64 bV, .slice eH aT.length eP]) (t := 26) ?hr ?_; (case hd => rfl); (case hg => rfl); (case hr => (go_simp; done)); intro gZ hg w5 hbox hb; have dA := ae.mk (hbox); replace HB := ae.mk (ak (by repeat ((with_reducible exact HB.out))) hb); clear hb hbox hg; have D9 : w5.cell? ⟨gZ, 0, none⟩ = some (.int .u8 ay) := (af dA.out 0).trans rfl; have D_ : w5.cell? ⟨gZ, 1, none⟩ = some (.int .i64 aI) := (af dA.out 1).trans rfl; have Ea : w5.cell? ⟨gZ, 2, none⟩ = some (.int .i64 aC) := (af dA.out 2).trans rfl; have Eb : w5.cell? ⟨gZ, 3, none⟩ = some (.int .i64 aH) := (af dA.out 3).trans rfl; have Ec : w5.cell? ⟨gZ, 4, none⟩ = some (.int .i64 bU) := (af dA.out 4).trans rfl; have Ed : w5.cell? ⟨gZ, 5, none⟩ = some (.int .i64 bV) := (af dA.out 5).trans rfl; have Ee : w5.cell? ⟨gZ, 6, none⟩ = some (.slice eH aT.length eP) := (af dA.out 6).trans rfl; have Ef := ah dA.out 0; have Eg := ah dA.out 1; have Eh := ah dA.out 2; have Ei := ah dA.out 3; have Ej := ah dA.out 4; have Em := ah dA.out 5; have En := ah dA.out 6))
   go_ret
   exact ⟨by rfl, by repeat ((with_reducible exact HB.out))⟩
  ·rw [if_neg c4] at H
   have oJ : (a1 == 1) = false := beq_eq_false_iff_ne.mpr c4
   have Xn : (a1 != 1) = true := bne_iff_ne.mpr c4
   by_cases c7 : ay = 3
   ·rw [if_pos c7] at H
    have vC : (ay == 3) = true := beq_iff_eq.mpr c7
    have Jo : (ay != 3) = false := bne_eq_false_iff_eq.mpr c7
    clear c7
    obtain rfl := Option.some.inj H
    go_enter Try.func99, Try.ntmps99
    go_wp2_with (((with_reducible refine au (N := 2) rfl ?_); refine aG ?hg (N := 2) ?hd (cs := #[.int .u8 ay, .int .i64 aI, .int .i64 aC, .int .i64 aH, .int .i64 bU, .int .i64 bV, .slice eH aT.length eP]) (t := 26) ?hr ?_; (case hd => rfl); (case hg => rfl); (case hr => (go_simp; done)); intro gZ hg w8 hbox hb; have dA := ae.mk (hbox); replace HB := ae.mk (ak (by repeat ((with_reducible exact HB.out))) hb); clear hb hbox hg; have aec : w8.cell? ⟨gZ, 0, none⟩ = some (.int .u8 ay) := (af dA.out 0).trans rfl; have aed : w8.cell? ⟨gZ, 1, none⟩ = some (.int .i64 aI) := (af dA.out 1).trans rfl; have aee : w8.cell? ⟨gZ, 2, none⟩ = some (.int .i64 aC) := (af dA.out 2).trans rfl; have aef : w8.cell? ⟨gZ, 3, none⟩ = some (.int .i64 aH) := (af dA.out 3).trans rfl; have aeg : w8.cell? ⟨gZ, 4, none⟩ = some (.int .i64 bU) := (af dA.out 4).trans rfl; have aeh : w8.cell? ⟨gZ, 5, none⟩ = some (.int .i64 bV) := (af dA.out 5).trans rfl; have aei : w8.cell? ⟨gZ, 6, none⟩ = some (.slice eH aT.length eP) := (af dA.out 6).trans rfl; have aeu := ah dA.out 0; have aev := ah dA.out 1; have aew := ah dA.out 2; have aex := ah dA.out 3; have aey := ah dA.out 4; have aez := ah dA.out 5; have aeA := ah dA.out 6))
    go_ret
    exact ⟨by rfl, by repeat ((with_reducible exact HB.out))⟩
   ·rw [if_neg c7] at H
    have vC : (ay == 3) = false := beq_eq_false_iff_ne.mpr c7
    have Jo : (ay != 3) = true := bne_iff_ne.mpr c7
    obtain rfl := Option.some.inj H
    go_enter Try.func99, Try.ntmps99
    go_wp2_with (((with_reducible refine au (N := 2) rfl ?_); refine aG ?hg (N := 2) ?hd (cs := #[.int .u8 ay, .int .i64 aI, .int .i64 aC, .int .i64 aH, .int .i64 bU, .int .i64 bV, .slice eH aT.length eP]) (t := 26) ?hr ?_; (case hd => rfl); (case hg => rfl); (case hr => (go_simp; done)); intro gZ hg w10 hbox hb; have dA := ae.mk (hbox); replace HB := ae.mk (ak (by repeat ((with_reducible exact HB.out))) hb); clear hb hbox hg; have ZH : w10.cell? ⟨gZ, 0, none⟩ = some (.int .u8 ay) := (af dA.out 0).trans rfl; have ZI : w10.cell? ⟨gZ, 1, none⟩ = some (.int .i64 aI) := (af dA.out 1).trans rfl; have ZJ : w10.cell? ⟨gZ, 2, none⟩ = some (.int .i64 aC) := (af dA.out 2).trans rfl; have ZK : w10.cell? ⟨gZ, 3, none⟩ = some (.int .i64 aH) := (af dA.out 3).trans rfl; have ZL : w10.cell? ⟨gZ, 4, none⟩ = some (.int .i64 bU) := (af dA.out 4).trans rfl; have ZM : w10.cell? ⟨gZ, 5, none⟩ = some (.int .i64 bV) := (af dA.out 5).trans rfl; have ZN : w10.cell? ⟨gZ, 6, none⟩ = some (.slice eH aT.length eP) := (af dA.out 6).trans rfl; have aar := ah dA.out 0; have aas := ah dA.out 1; have aat := ah dA.out 2; have aau := ah dA.out 3; have aav := ah dA.out 4; have aaw := ah dA.out 5; have aax := ah dA.out 6))
    go_ret
    exact ⟨by rfl, by repeat ((with_reducible exact HB.out))⟩
 ·rw [if_neg c3] at H
  have vz : (ay == 2) = false := beq_eq_false_iff_ne.mpr c3
  have Cm : (ay != 2) = true := bne_iff_ne.mpr c3
  by_cases c12 : ay = 3
  ·rw [if_pos c12] at H
   have Ig : (ay == 3) = true := beq_iff_eq.mpr c12
   have Ih : (ay != 3) = false := bne_eq_false_iff_eq.mpr c12
   clear c12
   obtain rfl := Option.some.inj H
   go_enter Try.func99, Try.ntmps99
   go_wp2_with (((with_reducible refine au (N := 2) rfl ?_); refine aG ?hg (N := 2) ?hd (cs := #[.int .u8 ay, .int .i64 aI, .int .i64 aC, .int .i64 aH, .int .i64 bU, .int .i64 bV, .slice eH aT.length eP]) (t := 26) ?hr ?_; (case hd => rfl); (case hg => rfl); (case hr => (go_simp; done)); intro gZ hg uw hbox hb; have dA := ae.mk (hbox); replace HB := ae.mk (ak (by repeat ((with_reducible exact HB.out))) hb); clear hb hbox hg; have JD : uw.cell? ⟨gZ, 0, none⟩ = some (.int .u8 ay) := (af dA.out 0).trans rfl; have JE : uw.cell? ⟨gZ, 1, none⟩ = some (.int .i64 aI) := (af dA.out 1).trans rfl; have JF : uw.cell? ⟨gZ, 2, none⟩ = some (.int .i64 aC) := (af dA.out 2).trans rfl; have JG : uw.cell? ⟨gZ, 3, none⟩ = some (.int .i64 aH) := (af dA.out 3).trans rfl; have ZW : uw.cell? ⟨gZ, 4, none⟩ = some (.int .i64 bU) := (af dA.out 4).trans rfl; have ZX : uw.cell? ⟨gZ, 5, none⟩ = some (.int .i64 bV) := (af dA.out 5).trans rfl; have ZY : uw.cell? ⟨gZ, 6, none⟩ = some (.slice eH aT.length eP) := (af dA.out 6).trans rfl; have JL := ah dA.out 0; have JM := ah dA.out 1; have JO := ah dA.out 2; have JP := ah dA.out 3; have aaF := ah dA.out 4; have aaG := ah dA.out 5; have aaH := ah dA.out 6))
   go_ret
   exact ⟨by rfl, by repeat ((with_reducible exact HB.out))⟩
  ·rw [if_neg c12] at H
   have Ig : (ay == 3) = false := beq_eq_false_iff_ne.mpr c12
   have Ih : (ay != 3) = true := bne_iff_ne.mpr c12
   obtain rfl := Option.some.inj H
   go_enter Try.func99, Try.ntmps99
   go_wp2_with (((with_reducible refine au (N := 2) rfl ?_); refine aG ?hg (N := 2) ?hd (cs := #[.int .u8 ay, .int .i64 aI, .int .i64 aC, .int .i64 aH, .int .i64 bU, .int .i64 bV, .slice eH aT.length eP]) (t := 26) ?hr ?_; (case hd => rfl); (case hg => rfl); (case hr => (go_simp; done)); intro gZ hg uU hbox hb; have dA := ae.mk (hbox); replace HB := ae.mk (ak (by repeat ((with_reducible exact HB.out))) hb); clear hb hbox hg; have QM : uU.cell? ⟨gZ, 0, none⟩ = some (.int .u8 ay) := (af dA.out 0).trans rfl; have QN : uU.cell? ⟨gZ, 1, none⟩ = some (.int .i64 aI) := (af dA.out 1).trans rfl; have QO : uU.cell? ⟨gZ, 2, none⟩ = some (.int .i64 aC) := (af dA.out 2).trans rfl; have QP : uU.cell? ⟨gZ, 3, none⟩ = some (.int .i64 aH) := (af dA.out 3).trans rfl; have ZZ : uU.cell? ⟨gZ, 4, none⟩ = some (.int .i64 bU) := (af dA.out 4).trans rfl; have Z4 : uU.cell? ⟨gZ, 5, none⟩ = some (.int .i64 bV) := (af dA.out 5).trans rfl; have Z5 : uU.cell? ⟨gZ, 6, none⟩ = some (.slice eH aT.length eP) := (af dA.out 6).trans rfl; have QU := ah dA.out 0; have QV := ah dA.out 1; have QW := ah dA.out 2; have QX := ah dA.out 3; have aaI := ah dA.out 4; have aaJ := ah dA.out 5; have aaK := ah dA.out 6))
   go_ret
   exact ⟨by rfl, by repeat ((with_reducible exact HB.out))⟩
end Go.Proofs.Ytfdmfgaiblfbhaa.P
namespace Go.Proofs.Ytfdmfgaiblfbhaa.P
open Go.RowKit Go.Proofs.ag.aA Go.Proofs.ag.bg Go.Proofs.ag.bG
def iH (ax k : Int) : Bool := (k == 2 && ax == 1) || (k == 3 && ax == 2)
theorem Ic (c : ai) (ax : Int) : uK.f c.f0 c.f1.f0 c.f1.f1 c.f1.f2 c.f1.f3 c.f2 c.f3 ax = some (iH ax c.f0) := by
 unfold uK.f iH
 by_cases h2 : c.f0 = 2
 ·by_cases h1 : ax = 1
  ·rw [if_pos h2, if_pos h1]; simp [h2, h1]
  ·rw [if_pos h2, if_neg h1, if_neg (by omega)]; simp [h2, h1]
 ·rw [if_neg h2]
  by_cases h3 : c.f0 = 3
  ·rw [if_pos h3]; simp [h3]
  ·rw [if_neg h3]; simp [h2, h3]
theorem P7 (c : ai) (ax : Int) : su.f c.f0 c.f1.f0 c.f1.f1 c.f1.f2 c.f1.f3 c.f2 c.f3 ax = some (iH ax c.f0) := Ic c ax
mutual
def gI (ax : Int) : ai → Int
 | ⟨a, _, _, l⟩ => if a = 1 then 1 else if iH ax a = true then ((l.length : Int) - 1) + xM ax l else qx ax 0 l
def xM (ax : Int) : List ai → Int
 | [] => 0
 | k :: ks => gI ax k + xM ax ks
def qx (ax : Int) : Int → List ai → Int
 | m, [] => m
 | m, k :: ks => qx ax (mx m (gI ax k)) ks
end
theorem yx (ax : Int) (c : ai) : gI ax c = if c.f0 = 1 then 1 else if iH ax c.f0 = true then ((c.f3.length : Int) - 1) + xM ax c.f3 else qx ax 0 c.f3 := by cases c; simp [gI]
theorem Hq (ax : Int) : xM ax [] = 0 := by simp [xM]
theorem yE (ax : Int) (k : ai) (ks : List ai) : xM ax (k :: ks) = gI ax k + xM ax ks := by simp [xM]
theorem Ez (ax m : Int) : qx ax m [] = m := by simp [qx]
theorem pK (ax m : Int) (k : ai) (ks : List ai) : qx ax m (k :: ks) = qx ax (mx m (gI ax k)) ks := by simp [qx]
theorem agz {a b c : Int} (h : a ≤ c) (k : b ≤ c) : mx a b ≤ c := by unfold mx; split <;> omega
theorem aeT (a b : Int) : a ≤ mx a b := by unfold mx; split <;> omega
theorem VR (a b : Int) : b ≤ mx a b := by unfold mx; split <;> omega
theorem FM {c x : ai} (h : (fK c).all mP = true) (hx : x ∈ c.f3) : (fK x).all mP = true := by
 rw [lC, List.all_cons, Bool.and_eq_true] at h
 obtain ⟨p, q, e⟩ := List.append_of_mem hx
 have h2 := h.2
 rw [e, pX, iK, List.all_append, List.all_append] at h2
 simp only [Bool.and_eq_true] at h2
 exact h2.2.1
theorem o9 {c : ai} (h : (fK c).all mP = true) : mP c = true := by
 rw [lC, List.all_cons, Bool.and_eq_true] at h
 exact h.1
theorem xG {c : ai} (h : mP c = true) : (c.f0 = 1 ∧ c.f3.length = 0) ∨ ((c.f0 = 2 ∨ c.f0 = 3) ∧ 2 ≤ c.f3.length) := by
 unfold mP at h
 simp only [Bool.and_eq_true, decide_eq_true_eq] at h
 obtain ⟨⟨⟨_, h1⟩, h2⟩, h3⟩ := h
 by_cases e : c.f0 = 1
 ·exact .inl ⟨e, (h2 e).1⟩
 ·exact .inr ⟨by omega, (h3 (by omega)).1⟩
theorem ED (l : List ai) (i : Int) (h0 : 0 ≤ i) (h1 : i < (l.length : Int)) : aj l i ∈ l := by
 unfold aj
 rw [List.getD_eq_getElem?_getD, List.getElem?_eq_getElem (by omega), Option.getD_some]
 exact List.getElem_mem _
theorem yF {l : List ai} {k : ai} (h : k ∈ l) : sz k ≤ dO l := by
 obtain ⟨p, q, e⟩ := List.append_of_mem h
 rw [e, jX, bJ]
 omega
def jT (c : ai) : List Int → Option ai
 | [] => some c
 | i :: is => if i < 0 ∨ i ≥ (c.f3.length : Int) then none else jT (aj c.f3 i) is
end Go.Proofs.Ytfdmfgaiblfbhaa.P
namespace Go.Proofs.Ytfdmfgaiblfbhaa.P
open Go.RowKit Go.Proofs.ag.aA Go.Proofs.ag.bg Go.Proofs.ag.bG
attribute [local go_sem] jD kM
section
variable {W : World} {b : Nat} {P : Nat → Prop} {A : Option Addr} {cc : Nat}
theorem Qu {c : ai} {ax : Int} {v : Bool} (h : iH ax c.f0 = v) (hV : Kd.V k26 26 W b P (.slice A c.f3.length cc) c.f3) :
  Calls Try.prog 99 #[.agg #[.int .u8 c.f0, .int .i64 c.f1.f0, .int .i64 c.f1.f1, .int .i64 c.f1.f2, .int .i64 c.f1.f3, .int .i64 c.f2, .slice A c.f3.length cc], .int .u8 ax] W fun e w' => e = .returned (.bool v) ∧ Below W.heap.size W w' :=
 have h2 := Kd.oI hV
 uK.calls _ _ _ _ _ _ A cc c.f3 ax _ W h2.2.2 h2.2.1 ((Ic c ax).trans (congrArg some h))
end
def P5.f (_ : Nat) (a0 a1 a2 a3 a4 a5 : Int) (l : List ai) (ax : Int) : Option Int := if sz ⟨a0, ⟨a1, a2, a3, a4⟩, a5, l⟩ ≤ 1048576 then some (gI ax ⟨a0, ⟨a1, a2, a3, a4⟩, a5, l⟩) else none
end Go.Proofs.Ytfdmfgaiblfbhaa.P
namespace Go.Proofs.Ytfdmfgaiblfbhaa.P
open Go.RowKit Go.Proofs.ag.aA Go.Proofs.ag.bg Go.Proofs.ag.bG
section
variable {W : World} {b : Nat} {P : Nat → Prop} {A : Option Addr} {cc : Nat}
end
def afd.f (_ : Nat) (a0 a1 a2 a3 a4 a5 : Int) (l : List ai) (ax : Int) : Option Int := if sz ⟨a0, ⟨a1, a2, a3, a4⟩, a5, l⟩ ≤ 1048576 ∧ (fK ⟨a0, ⟨a1, a2, a3, a4⟩, a5, l⟩).all mP = true then some (gI ax ⟨a0, ⟨a1, a2, a3, a4⟩, a5, l⟩) else none
end Go.Proofs.Ytfdmfgaiblfbhaa.P

namespace Go.Proofs.Ytfdmfgaiblfbhaa.P
open Go.RowKit Go.Proofs.ag.aA Go.Proofs.ag.bg Go.Proofs.ag.bG
attribute [local go_sem] jD jQ kM kV jo jq kC kD
def rq.f (ay : Int) (aI : Int) (aC : Int) (aH : Int) (a1 : Int) : Option (Int) := if a1 = 2 then (some aH) else (if a1 = 1 then (some aC) else (some 0))
theorem rq.calls (ay : Int) (aI : Int) (aC : Int) (aH : Int) (a1 : Int) (r : Int) (w : World) (h : rq.f ay aI aC aH a1 = some r) :
  Calls Try.prog 98 #[.agg #[.int .i64 ay, .int .i64 aI, .int .i64 aC, .int .i64 aH], .int .u8 a1] w fun e w' => e = .returned (.int .i64 r) ∧ Below w.heap.size w w' := by
 have SV := Try.underlying23
 have HB := ae.mk (Below.refl w.heap.size w)
 have H : (if a1 = 2 then (some aH) else (if a1 = 1 then (some aC) else (some 0))) = some r := h
 clear h
 by_cases c3 : a1 = 2
 ·rw [if_pos c3] at H
  have vz : (a1 == 2) = true := beq_iff_eq.mpr c3
  have Cm : (a1 != 2) = false := bne_eq_false_iff_eq.mpr c3
  clear c3
  obtain rfl := Option.some.inj H
  go_enter Try.func98, Try.ntmps98
  go_wp2_with (((with_reducible refine au (N := 2) rfl ?_); refine aG ?hg (N := 2) ?hd (cs := #[.int .i64 ay, .int .i64 aI, .int .i64 aC, .int .i64 aH]) (t := 23) ?hr ?_; (case hd => rfl); (case hg => rfl); (case hr => (go_simp; done)); intro uf hg w4 hbox hb; have oP := ae.mk (hbox); have RI := ae.mk ((by rw [hg]; exact (dI (by repeat ((with_reducible exact HB.out)))) : w.heap.size ≤ uf)); replace HB := ae.mk (ak (by repeat ((with_reducible exact HB.out))) hb); clear hb hbox hg; have ad9 : w4.cell? ⟨uf, 0, none⟩ = some (.int .i64 ay) := (af oP.out 0).trans rfl; have ad_ : w4.cell? ⟨uf, 1, none⟩ = some (.int .i64 aI) := (af oP.out 1).trans rfl; have aea : w4.cell? ⟨uf, 2, none⟩ = some (.int .i64 aC) := (af oP.out 2).trans rfl; have aeb : w4.cell? ⟨uf, 3, none⟩ = some (.int .i64 aH) := (af oP.out 3).trans rfl; have aeq := ah oP.out 0; have aer := ah oP.out 1; have aes := ah oP.out 2; have aet := ah oP.out 3))
  go_ret
  exact ⟨by rfl, by repeat ((with_reducible first | exact HB.out | refine ig ?_ RI.out))⟩
 ·rw [if_neg c3] at H
  have vz : (a1 == 2) = false := beq_eq_false_iff_ne.mpr c3
  have Cm : (a1 != 2) = true := bne_iff_ne.mpr c3
  by_cases c6 : a1 = 1
  ·rw [if_pos c6] at H
   have CB : (a1 == 1) = true := beq_iff_eq.mpr c6
   have Oc : (a1 != 1) = false := bne_eq_false_iff_eq.mpr c6
   clear c6
   obtain rfl := Option.some.inj H
   go_enter Try.func98, Try.ntmps98
   go_wp2_with (((with_reducible refine au (N := 2) rfl ?_); refine aG ?hg (N := 2) ?hd (cs := #[.int .i64 ay, .int .i64 aI, .int .i64 aC, .int .i64 aH]) (t := 23) ?hr ?_; (case hd => rfl); (case hg => rfl); (case hr => (go_simp; done)); intro uf hg w7 hbox hb; have oP := ae.mk (hbox); have RI := ae.mk ((by rw [hg]; exact (dI (by repeat ((with_reducible exact HB.out)))) : w.heap.size ≤ uf)); replace HB := ae.mk (ak (by repeat ((with_reducible exact HB.out))) hb); clear hb hbox hg; have Vm : w7.cell? ⟨uf, 0, none⟩ = some (.int .i64 ay) := (af oP.out 0).trans rfl; have Vo : w7.cell? ⟨uf, 1, none⟩ = some (.int .i64 aI) := (af oP.out 1).trans rfl; have Vp : w7.cell? ⟨uf, 2, none⟩ = some (.int .i64 aC) := (af oP.out 2).trans rfl; have Vq : w7.cell? ⟨uf, 3, none⟩ = some (.int .i64 aH) := (af oP.out 3).trans rfl; have VF := ah oP.out 0; have VG := ah oP.out 1; have VH := ah oP.out 2; have VI := ah oP.out 3))
   go_ret
   exact ⟨by rfl, by repeat ((with_reducible exact HB.out))⟩
  ·rw [if_neg c6] at H
   have CB : (a1 == 1) = false := beq_eq_false_iff_ne.mpr c6
   have Oc : (a1 != 1) = true := bne_iff_ne.mpr c6
   obtain rfl := Option.some.inj H
   go_enter Try.func98, Try.ntmps98
   go_wp2_with (((with_reducible refine au (N := 2) rfl ?_); refine aG ?hg (N := 2) ?hd (cs := #[.int .i64 ay, .int .i64 aI, .int .i64 aC, .int .i64 aH]) (t := 23) ?hr ?_; (case hd => rfl); (case hg => rfl); (case hr => (go_simp; done)); intro uf hg w9 hbox hb; have oP := ae.mk (hbox); have RI := ae.mk ((by rw [hg]; exact (dI (by repeat ((with_reducible exact HB.out)))) : w.heap.size ≤ uf)); replace HB := ae.mk (ak (by repeat ((with_reducible exact HB.out))) hb); clear hb hbox hg))
   go_ret
   exact ⟨by rfl, by repeat ((with_reducible exact HB.out))⟩
end Go.Proofs.Ytfdmfgaiblfbhaa.P
namespace Go.Proofs.Ytfdmfgaiblfbhaa.P
open Go.RowKit Go.Proofs.ag.aA Go.Proofs.ag.bg Go.Proofs.ag.bG
def aK (ax : Int) (r : dK) : Int := if ax = 1 then r.f2 else if ax = 2 then r.f3 else 0
theorem LY (r : dK) (ax : Int) : rq.f r.f0 r.f1 r.f2 r.f3 ax = some (aK ax r) := by
 unfold rq.f aK
 by_cases h1 : ax = 1
 ·rw [if_neg (by omega), if_pos h1, if_pos h1]
 ·by_cases h2 : ax = 2
  ·rw [if_pos h2, if_neg h1, if_pos h2]
  ·rw [if_neg h2, if_neg h1, if_neg h1, if_neg h2]
end Go.Proofs.Ytfdmfgaiblfbhaa.P
namespace Go.Proofs.Ytfdmfgaiblfbhaa.P
open Go.RowKit Go.Proofs.ag.aA Go.Proofs.ag.bg Go.Proofs.ag.bG
attribute [local go_sem] jD jQ kM kV jo jq kC kD
def Ti.f (a0 : Int) : Option (Bool) := if a0 = 1 then (some true) else (some (a0 == 2))
end Go.Proofs.Ytfdmfgaiblfbhaa.P
namespace Go.Proofs.Ytfdmfgaiblfbhaa.P
open Go.RowKit Go.Proofs.ag.aA Go.Proofs.ag.bg Go.Proofs.ag.bG
theorem abb (Inv : List ai → World → Prop) (r : ai → Bool) (g : Nat) (lb : Array Value) (eg : ∀ args w, (callFunc g args).run Try.prog w = .ok (.enter g args) w) (l : List ai) (A : Option Addr) (c : Nat)
  (w0 : World) (hR : Kd.C k26 w0 A l.length l) (hW : ∀ s W, Inv s W → Below w0.heap.size w0 W) (hD : ∀ s W n, Inv s W → Inv s (W.drewN n))
  (hcall : ∀ (x : ai) (rest : List ai) (W : World) (B : Option Addr) (cb : Nat), x ∈ l → (∃ pre, pre ++ x :: rest = l) → Inv (x :: rest) W → Kd.C k26 w0 B x.f3.length x.f3 → x.f3.length ≤ cb → Calls Try.prog g (#[.agg #[.int .u8 x.f0, .int .i64 x.f1.f0, .int .i64 x.f1.f1, .int .i64 x.f1.f2, .int .i64 x.f1.f3, .int .i64 x.f2, .slice B x.f3.length cb]] ++ lb) W fun e w' => e = .returned (.bool (r x)) ∧ Inv (if r x = true then [] else rest) w')
  (w : World) (hI : Inv l w) (hl : l.length ≤ 9223372036854775807) :
  Calls Try.prog 192 #[.slice A l.length c, .func (.func g) #[] lb] w fun e w' => ∃ i : Int, e = .returned (.int .i64 i) ∧ decide (i ≥ 0) = l.any r ∧ Inv [] w' := by
 have HR := ae.mk hR
 have HW := ae.mk hW
 have HD := ae.mk hD
 have HI := ae.mk hI
 have vZ := ae.mk hcall
 clear hR hW hcall hD hI
 go_enter Try.func192, Try.ntmps192
 go_wp2
 go_loopg [5, 8] l.length (fun gg _ v8 wr => ∃ (kk : Nat), kk ≤ l.length ∧ l.length - kk ≤ gg ∧ v8 = .int .i64 kk ∧ ae (Inv (l.drop kk) wr) ∧ ae (l.any r = (l.drop kk).any r))
 case atStart => exact ⟨0, Nat.zero_le _, by omega, rfl, ⟨by simpa using HI.out⟩, ⟨by simp⟩⟩
 case round =>
  clear HI
  obtain ⟨kk, hkk, hg, rfl, HI, HS⟩ := hrel
  by_cases hlt : kk < l.length
  ·have hltz : (kk : Int) < (l.length : Int) := by omega
   obtain ⟨ad, B, cb, rfl, hc0, hc1, hc2, hc3, hc4, hc5, hc6, hlb, hgb⟩ := pG HR.out (kk : Int) (by omega) (by omega)
   have hbw := HW.out _ wr HI.out
   replace hc0 := (hbw.cell (World.block_lt_of_cell? w0 _ hc0)).trans hc0
   replace hc1 := (hbw.cell (World.block_lt_of_cell? w0 _ hc1)).trans hc1
   replace hc2 := (hbw.cell (World.block_lt_of_cell? w0 _ hc2)).trans hc2
   replace hc3 := (hbw.cell (World.block_lt_of_cell? w0 _ hc3)).trans hc3
   replace hc4 := (hbw.cell (World.block_lt_of_cell? w0 _ hc4)).trans hc4
   replace hc5 := (hbw.cell (World.block_lt_of_cell? w0 _ hc5)).trans hc5
   replace hc6 := (hbw.cell (World.block_lt_of_cell? w0 _ hc6)).trans hc6
   clear hbw
   have hmem : (aj l (kk : Int)) ∈ l := Di z26 l kk hlt
   have hdr : l.drop kk = aj l (kk : Int) :: l.drop (kk + 1) := by
    rw [List.drop_eq_getElem_cons hlt]
    simp only [aj, Int.toNat_natCast, List.getD_eq_getElem?_getD, List.getElem?_eq_getElem hlt, Option.getD_some]
   have HX : ae ((l.drop kk).any r = (r (aj l (kk : Int)) || (l.drop (kk + 1)).any r)) := ⟨by rw [hdr, List.any_cons]⟩
   have hcall := vZ.out _ (l.drop (kk + 1)) wr B cb hmem ⟨l.take kk, by rw [← hdr]; exact List.take_append_drop kk l⟩ (by rw [← hdr]; exact HI.out) hgb hlb
   clear hmem hgb hlb hdr
   simp only [Int.toNat_natCast] at hc0 hc1 hc2 hc3 hc4 hc5 hc6
   generalize aj l (kk : Int) = x at hc0 hc1 hc2 hc3 hc4 hc5 hc6 HX hcall
   have HC := ae.mk hcall
   clear hcall
   cases hq : r x with
   | true =>
    have h := HC.out
    rw [hq, if_pos rfl] at h
    have HH := ae.mk h
    have HQ := ae.mk hq
    clear hq HC h
    go_wp2_with fail
    refine HH.out.mono ?_
    rintro e w' ⟨rfl, hb'⟩
    have HB := ae.mk hb'
    clear hb'
    go_wp2
    go_ret
    refine ⟨_, rfl, ?_, HB.out⟩
    rw [HS.out, HX.out, HQ.out, Bool.true_or]
    exact decide_eq_true (by omega)
   | false =>
    have h := HC.out
    rw [hq, if_neg (by simp)] at h
    have HH := ae.mk h
    have HQ := ae.mk hq
    clear hq HC h
    go_wp2_with fail
    refine HH.out.mono ?_
    rintro e w' ⟨rfl, hb'⟩
    have HB := ae.mk hb'
    clear hb'
    go_wp2
    go_roundg (l.length - (kk + 1))
    case measure => omega
    case rel =>
     refine ⟨kk + 1, by omega, by omega, by go_num, HB, ⟨?_⟩⟩
     rw [HS.out, HX.out, HQ.out, Bool.false_or]
  ·have hltz : ¬ (kk : Int) < (l.length : Int) := by omega
   have hd : l.drop kk = [] := List.drop_eq_nil_of_le (by omega)
   have HI2 := ae.mk (hd ▸ HI.out)
   have HS2 := ae.mk (hd ▸ HS.out)
   clear HI HS hd
   go_wp2
   go_ret
   refine ⟨_, rfl, ?_, HI2.out⟩
   rw [HS2.out]
   rfl
theorem Qz (Inv : List ai → World → Prop) (r : ai → Bool) (g : Nat) (lb : Array Value) (eg : ∀ args w, (callFunc g args).run Try.prog w = .ok (.enter g args) w) (l : List ai) (A : Option Addr) (c : Nat)
  (w0 : World) (hR : Kd.C k26 w0 A l.length l) (hW : ∀ s W, Inv s W → Below w0.heap.size w0 W) (hD : ∀ s W n, Inv s W → Inv s (W.drewN n))
  (hcall : ∀ (x : ai) (rest : List ai) (W : World) (B : Option Addr) (cb : Nat), x ∈ l → (∃ pre, pre ++ x :: rest = l) → Inv (x :: rest) W → Kd.C k26 w0 B x.f3.length x.f3 → x.f3.length ≤ cb → Calls Try.prog g (#[.agg #[.int .u8 x.f0, .int .i64 x.f1.f0, .int .i64 x.f1.f1, .int .i64 x.f1.f2, .int .i64 x.f1.f3, .int .i64 x.f2, .slice B x.f3.length cb]] ++ lb) W fun e w' => e = .returned (.bool (r x)) ∧ Inv (if r x = true then [] else rest) w')
  (w : World) (hI : Inv l w) (hl : l.length ≤ 9223372036854775807) :
  Calls Try.prog 174 #[.slice A l.length c, .func (.func g) #[] lb] w fun e w' => e = .returned (.bool (l.any r)) ∧ Inv [] w' := by
 have hi := abb Inv r g lb eg l A c w0 hR hW hD hcall w hI hl
 clear hR hW hD hcall hI
 have HI := ae.mk hi
 clear hi
 go_enter Try.func174, Try.ntmps174
 go_wp2_with fail
 refine HI.out.mono ?_
 rintro e w' ⟨i, rfl, hd, hb'⟩
 have HB := ae.mk hb'
 have HN := ae.mk hd
 clear hb' hd
 go_wp2
 go_ret
 exact ⟨by rw [← HN.out]; rfl, HB.out⟩
theorem adG (r : ai → dK → Bool) (g : Nat) (eg : ∀ args w, (callFunc g args).run Try.prog w = .ok (.enter g args) w) (la : List ai) (lb : List dK) (A B : Option Addr) (ca cb : Nat) (w : World) (hA : Kd.C k26 w A la.length la) (hB : Kd.C k23 w B lb.length lb)
  (hcall : ∀ W (x : ai) (X : Option Addr) (cx : Nat) (y : dK), x ∈ la → Below w.heap.size w W → Kd.C k26 w X x.f3.length x.f3 → x.f3.length ≤ cx → Calls Try.prog g #[.agg #[.int .u8 x.f0, .int .i64 x.f1.f0, .int .i64 x.f1.f1, .int .i64 x.f1.f2, .int .i64 x.f1.f3, .int .i64 x.f2, .slice X x.f3.length cx], .agg #[.int .i64 y.f0, .int .i64 y.f1, .int .i64 y.f2, .int .i64 y.f3]] W fun e w' => e = .returned (.bool (r x y)) ∧ Below W.heap.size W w') :
  Calls Try.prog 211 #[.slice A la.length ca, .slice B lb.length cb, .func (.func g) #[] #[]] w fun e w' => e = .returned (.bool (la.length == lb.length && sV r la lb)) ∧ Below w.heap.size w w' := by
 have HA := ae.mk hA
 have HLB := ae.mk hB
 have HC := ae.mk hcall
 have HB := ae.mk (Below.refl w.heap.size w)
 have HL := ae.mk (show la.length ≤ 9223372036854775807 from hA.2.1)
 clear hA hB hcall
 by_cases hl : la.length = lb.length
 ·have hl1 : ((la.length : Int) != (lb.length : Int)) = false := by simp [hl]
  have hl2 : (la.length == lb.length) = true := by simp [hl]
  rw [hl2, Bool.true_and]
  have HE := ae.mk hl
  clear hl hl2
  go_enter Try.func211, Try.ntmps211
  go_wp2
  go_loopg [17] la.length (fun gg v17 wr => ∃ (kk : Nat), kk ≤ la.length ∧ la.length - kk ≤ gg ∧ v17 = .int .i64 kk ∧ ae (sV r la lb = sV r (la.drop kk) (lb.drop kk)) ∧ ae (Below w.heap.size w wr))
  case atStart => exact ⟨0, Nat.zero_le _, by omega, rfl, ⟨by simp⟩, HB⟩
  case round =>
   clear HB
   obtain ⟨kk, hkk, hgg, rfl, HS, HB⟩ := hrel
   by_cases hlt : kk < la.length
   ·have hltz : (kk : Int) < (la.length : Int) := by omega
    have ah1 : (kk : Int) < (lb.length : Int) := by have := HE.out; omega
    have hw : wrap64 ((kk : Int) + 1) = ((kk + 1 : Nat) : Int) := by unfold wrap64; have := HL.out; omega
    have HX := ae.mk (adF r z26 z23 la lb kk hlt (by omega))
    have hmem : aj la (kk : Int) ∈ la := Di z26 la kk hlt
    obtain ⟨cd, X, cx, rfl, c0, c1, c2, c3, c4, c5, c6, cl, cg⟩ := pG HA.out (kk : Int) (by omega) hltz
    obtain ⟨dd, rfl, d0, d1, d2, d3⟩ := N9 HLB.out (kk : Int) (by omega) ah1
    simp only [Int.toNat_natCast] at c0 c1 c2 c3 c4 c5 c6 d0 d1 d2 d3
    replace c0 := (HB.out.cell (World.block_lt_of_cell? w _ c0)).trans c0
    replace c1 := (HB.out.cell (World.block_lt_of_cell? w _ c1)).trans c1
    replace c2 := (HB.out.cell (World.block_lt_of_cell? w _ c2)).trans c2
    replace c3 := (HB.out.cell (World.block_lt_of_cell? w _ c3)).trans c3
    replace c4 := (HB.out.cell (World.block_lt_of_cell? w _ c4)).trans c4
    replace c5 := (HB.out.cell (World.block_lt_of_cell? w _ c5)).trans c5
    replace c6 := (HB.out.cell (World.block_lt_of_cell? w _ c6)).trans c6
    have D0 := ae.mk d0
    have D1 := ae.mk d1
    have D2 := ae.mk d2
    have D3 := ae.mk d3
    clear d0 d1 d2 d3
    have HX := ae.mk (show sV r (la.drop kk) (lb.drop kk) = (r (aj la (kk : Int)) (qE lb (kk : Int)) && sV r (la.drop (kk + 1)) (lb.drop (kk + 1))) from HX.out)
    have cG := ae.mk cg
    have cL := ae.mk cl
    clear cg cl
    have HM := ae.mk hmem
    clear hmem
    generalize aj la (kk : Int) = x at *
    generalize qE lb (kk : Int) = y at *
    have HCx := ae.mk (fun W hW => HC.out W x X cx y HM.out hW cG.out cL.out )
    have HW := ae.mk hw
    have HKK := ae.mk (show kk + 1 ≤ la.length from hlt)
    have kY := ae.mk hgg
    clear hw hlt hgg hkk HM
    go_wp2_with (first | ((with_reducible refine au (N := 8) rfl ?_); refine aG ?hg (N := 8) ?hd (cs := #[.int .u8 0, .int .i64 0, .int .i64 0, .int .i64 0, .int .i64 0, .int .i64 0, .slice none 0 0]) (t := 26) ?hr ?_; (case hd => rfl); (case hg => rfl); (case hr => (go_simp; done)); intro b8 hg wb8 hbox hb; have K8 := ae.mk hbox; have G8 := ae.mk (show w.heap.size ≤ b8 by rw [hg]; exact HB.out.size); have q_ := ae.mk (ak HB.out hb); clear HB; have HB := q_; clear q_; clear hb hbox hg) | ((with_reducible refine mO (.store 26 (.tmp 8) (.tmp 21)) rfl ?_); go_loud (refine gQ (w0 := w) rfl rfl 26 (.tmp 8) (.tmp 21) rfl (g := b8) (j := 0) (base := w.heap.size) #[.int .u8 x.f0, .int .i64 x.f1.f0, .int .i64 x.f1.f1, .int .i64 x.f1.f2, .int .i64 x.f1.f3, .int .i64 x.f2, .slice X x.f3.length cx] (u := .agg #[.int .u8 x.f0, .int .i64 x.f1.f0, .int .i64 x.f1.f1, .int .i64 x.f1.f2, .int .i64 x.f1.f3, .int .i64 x.f2, .slice X x.f3.length cx]) (bu := [.int .u8 x.f0, .int .i64 x.f1.f0, .int .i64 x.f1.f1, .int .i64 x.f1.f2, .int .i64 x.f1.f3, .int .i64 x.f2, .slice X x.f3.length cx]) ?sA ?sX rfl ?sT ?s1 K8.out ?sJ rfl HB.out HB.out.size G8.out ?_; (case sA => rfl); (case sX => rfl); (case sT => rfl); (case s1 => (simp [Value.oneCell'])); (case sJ => (simp)); intro ws8 hbk hbb hgg; clear K8 HB; have K8 := ae.mk hbk; have HB := ae.mk hbb; clear hbk hbb hgg; clear c0 c1 c2 c3 c4 c5 c6; have d0 := (HB.out.cell (World.block_lt_of_cell? w _ D0.out)).trans D0.out; have d1 := (HB.out.cell (World.block_lt_of_cell? w _ D1.out)).trans D1.out; have d2 := (HB.out.cell (World.block_lt_of_cell? w _ D2.out)).trans D2.out; have d3 := (HB.out.cell (World.block_lt_of_cell? w _ D3.out)).trans D3.out)) | ((with_reducible refine au (N := 9) rfl ?_); refine aG ?hg (N := 9) ?hd (cs := #[.int .i64 0, .int .i64 0, .int .i64 0, .int .i64 0]) (t := 23) ?hr ?_; (case hd => rfl); (case hg => rfl); (case hr => (go_simp; done)); intro b9 hg wb9 hbox hb; have K9 := ae.mk hbox; have G9 := ae.mk (show w.heap.size ≤ b9 by rw [hg]; exact HB.out.size); have NE := ae.mk (show b8 ≠ b9 by rw [hg]; exact Nat.ne_of_lt (fU K8.out)); have Wi := ae.mk (aN K8.out hb); clear K8; have K8 := Wi; clear Wi; have q_ := ae.mk (ak HB.out hb); clear HB; have HB := q_; clear q_; clear hb hbox hg d0 d1 d2 d3) | ((with_reducible refine mO (.store 23 (.tmp 9) (.tmp 25)) rfl ?_); go_loud (refine gQ (w0 := w) rfl rfl 23 (.tmp 9) (.tmp 25) rfl (g := b9) (j := 0) (base := w.heap.size) #[.int .i64 y.f0, .int .i64 y.f1, .int .i64 y.f2, .int .i64 y.f3] (u := .agg #[.int .i64 y.f0, .int .i64 y.f1, .int .i64 y.f2, .int .i64 y.f3]) (bu := [.int .i64 y.f0, .int .i64 y.f1, .int .i64 y.f2, .int .i64 y.f3]) ?sA ?sX rfl ?sT ?s1 K9.out ?sJ rfl HB.out HB.out.size G9.out ?_; (case sA => rfl); (case sX => rfl); (case sT => rfl); (case s1 => (simp [Value.oneCell'])); (case sJ => (simp)); intro ws9 hbk hbb hgg; have Wi := ae.mk (bT K8.out hgg (fun e_ => absurd (Option.some.inj e_) NE.out)); clear K8; have K8 := Wi; clear Wi; clear K9 HB; have K9 := ae.mk hbk; have HB := ae.mk hbb; clear hbk hbb hgg; have e0 := (af K8.out 0).trans rfl; have e1 := (af K8.out 1).trans rfl; have e2 := (af K8.out 2).trans rfl; have e3 := (af K8.out 3).trans rfl; have e4 := (af K8.out 4).trans rfl; have e5 := (af K8.out 5).trans rfl; have e6 := (af K8.out 6).trans rfl; have f0 := (af K9.out 0).trans rfl; have f1 := (af K9.out 1).trans rfl; have f2 := (af K9.out 2).trans rfl; have f3 := (af K9.out 3).trans rfl)))
    clear e0 e1 e2 e3 e4 e5 e6 f0 f1 f2 f3 K8 K9 NE G8 G9
    refine (HCx.out _ HB.out).mono ?_
    rintro e w' ⟨rfl, hb⟩
    have q_ := ae.mk (ak HB.out hb); clear HB; have HB := q_; clear q_
    clear hb
    cases hq : r x y with
    | true =>
     have HQ := ae.mk hq
     clear hq
     go_wp2
     go_roundg (la.length - (kk + 1))
     case measure => have h1 := kY.out; have h2 := HKK.out; omega
     case rel => exact ⟨kk + 1, HKK.out, Nat.le_refl _, (by rw [HW.out]), ⟨by rw [HS.out, HX.out, HQ.out, Bool.true_and]⟩, HB⟩
    | false =>
     have HQ := ae.mk hq
     clear hq
     go_wp2
     go_ret
     rw [HS.out, HX.out, HQ.out, Bool.false_and]
     exact ⟨rfl, HB.out⟩
   ·have hltz : ¬ (kk : Int) < (la.length : Int) := by omega
    go_wp2
    go_ret
    rw [HS.out, List.drop_eq_nil_of_le (by omega), Jt]
    exact ⟨rfl, HB.out⟩
 ·have hl1 : ((la.length : Int) != (lb.length : Int)) = true := by simp; omega
  have hl2 : (la.length == lb.length) = false := by simp [hl]
  rw [hl2, Bool.false_and]
  clear hl hl2
  go_enter Try.func211, Try.ntmps211
  go_wp2
  go_ret
  exact ⟨rfl, HB.out⟩
theorem agj (X Y Wd H ax : Int) (sizes : List Int) (hl : sizes.length ≤ 1000000) (B : Option Addr) (cb : Nat) (w : World) (hi : Kd.C (Kd.int .i64) w B sizes.length sizes) :
  Calls Try.prog 45 #[.agg #[.int .i64 X, .int .i64 Y, .int .i64 Wd, .int .i64 H], .int .u8 ax, .slice B sizes.length cb] w (MV w (qX X Y Wd H ax sizes)) := by
 have S := ae.mk (St.start (ts := []) (b0 := w.heap.size) (w := w) (P := fun _ => True) (fun _ h => by cases h))
 have HI := ae.mk hi
 have kF := ae.mk hl
 clear hi hl
 by_cases hax : ax = 1 ∨ ax = 2
 case neg =>
  have HQ := ae.mk (zX (X := X) (Y := Y) (W := Wd) (H := H) (sizes := sizes) (.inl hax))
  have y7 := ae.mk hax
  clear hax
  go_enter Try.func45, Try.ntmps45
  go_wp2_with (first | (refine boxS 3 _ 23 S ?_; clear S; intro b3 eU S; obtain ⟨dJ, dR, dU, dV⟩ := St.at4 S (.head _)) | (refine bI (some 23) Try.func127 S (WI y7.out _ _ _ _) ?_; clear S; intro fV S; clear dJ dR dU dV) | (refine boxS 9 _ 23 S ?_; clear S; intro b9 gz S) | (refine fC 23 9 24 #[.int .i64 0, .int .i64 0, .int .i64 0, .int .i64 0] 0 4 S ?_; clear S; intro lI S))
  go_ret3
  rw [HQ.out]
  exact ⟨none, 0, none, 0, .cells #[] 0 (0, 0), .cells #[] 0 (0, 0), rfl, (fun h => by cases h), S.out.below⟩
 have y7 := ae.mk hax
 obtain ⟨S0, hS0⟩ : ∃ s, s = tX ax X Y := ⟨_, rfl⟩
 obtain ⟨T0, hT0⟩ : ∃ s, s = tX ax Y X := ⟨_, rfl⟩
 obtain ⟨D, hD⟩ : ∃ s, s = tX ax Wd H := ⟨_, rfl⟩
 obtain ⟨E, hE⟩ : ∃ s, s = tX ax H Wd := ⟨_, rfl⟩
 have HTU := ae.mk (fun (W : World) => show Calls Try.prog 127 #[.agg #[.int .i64 X, .int .i64 Y, .int .i64 Wd, .int .i64 H], .int .u8 ax] W fun e w' => e = .returned (.tuple #[.agg #[.int .i64 S0, .int .i64 T0, .int .i64 D, .int .i64 E], .bool true]) ∧ Below W.heap.size W w' by rw [hS0, hT0, hD, hE]; exact Hu hax X Y Wd H)
 by_cases hm : qB X Y Wd H = true
 case neg =>
  have hm2 := Bool.eq_false_iff.mpr hm
  have HQ := ae.mk (zX (ax := ax) (sizes := sizes) (.inr (.inl hm2)))
  have yh := ae.mk hm2
  clear hm hm2 hax hS0 hT0 hD hE
  go_enter Try.func45, Try.ntmps45
  go_wp2_with (first | (refine boxS 3 _ 23 S ?_; clear S; intro b3 eU S; obtain ⟨dJ, dR, dU, dV⟩ := St.at4 S (.head _)) | (refine bI (some 23) Try.func127 S (HTU.out _) ?_; clear S; intro fV S; clear dJ dR dU dV) | (refine boxS 9 _ 23 S ?_; clear S; intro b9 gz S) | (refine fC 23 9 24 #[.int .i64 S0, .int .i64 T0, .int .i64 D, .int .i64 E] 0 4 S ?_; clear S; intro lI S; obtain ⟨dJ, dR, dU, dV⟩ := St.at4 S bf) | (refine fD 30 rfl ?_; (refine dM (by rfl) ?_; dsimp only); refine bI (some 30) Try.func128 S (Pq yh.out) ?_; clear S; intro mQ S; clear dJ dR dU dV))
  go_ret3
  rw [HQ.out]
  exact ⟨none, 0, none, 0, .cells #[] 0 (0, 0), .cells #[] 0 (0, 0), rfl, (fun h => by cases h), S.out.below⟩
 have yh := ae.mk hm
 by_cases h0 : sizes.length = 0
 case pos =>
  have HQ := ae.mk (zX (X := X) (Y := Y) (W := Wd) (H := H) (ax := ax) (.inr (.inr h0)))
  obtain ⟨F6, D6, OB⟩ := vN (a := (sizes.length : Int)) (b := 0) (by omega)
  have U6 : (sizes.length == 0) = true := beq_iff_eq.mpr (by omega)
  have U7 : decide (sizes.length = 0) = true := decide_eq_true (by omega)
  clear hm h0 hax hS0 hT0 hD hE
  go_enter Try.func45, Try.ntmps45
  go_wp2_with (first | (refine boxS 3 _ 23 S ?_; clear S; intro b3 eU S; obtain ⟨dJ, dR, dU, dV⟩ := St.at4 S (.head _)) | (refine bI (some 23) Try.func127 S (HTU.out _) ?_; clear S; intro fV S; clear dJ dR dU dV) | (refine boxS 9 _ 23 S ?_; clear S; intro b9 gz S) | (refine fC 23 9 24 #[.int .i64 S0, .int .i64 T0, .int .i64 D, .int .i64 E] 0 4 S ?_; clear S; intro lI S; obtain ⟨dJ, dR, dU, dV⟩ := St.at4 S bf) | (refine fD 30 rfl ?_; (refine dM (by rfl) ?_; dsimp only); refine bI (some 30) Try.func128 S (Pq yh.out) ?_; clear S; intro mQ S; clear dJ dR dU dV))
  go_ret3
  rw [HQ.out]
  exact ⟨none, 0, none, 0, .cells #[] 0 (0, 0), .cells #[] 0 (0, 0), rfl, (fun h => by cases h), S.out.below⟩
 have hq := UW hax hm h0
 rw [← hS0, ← hT0, ← hD, ← hE] at hq
 have hb := WG hax hm
 rw [← hS0, ← hD] at hb
 have HB := ae.mk hb
 rw [hq]
 obtain ⟨F6, D6, OB⟩ := eqF (a := (sizes.length : Int)) (b := 0) (by omega)
 have U6 : (sizes.length == 0) = false := beq_eq_false_iff_ne.mpr (by omega)
 have U7 : decide (sizes.length = 0) = false := decide_eq_false (by omega)
 obtain ⟨R, hR⟩ : ∃ R, R = oK ax S0 T0 D E 0 true [] [] sizes := ⟨_, rfl⟩
 rw [← hR]
 have HR := ae.mk hR
 clear hq hb hm h0 hax hS0 hT0 hD hE hR
 go_enter Try.func45, Try.ntmps45
 go_wp2_with (first | (refine boxS 3 _ 23 S ?_; clear S; intro b3 eU S; obtain ⟨dJ, dR, dU, dV⟩ := St.at4 S (.head _)) | (refine bI (some 23) Try.func127 S (HTU.out _) ?_; clear S; intro fV S; clear dJ dR dU dV) | (refine boxS 9 _ 23 S ?_; clear S; intro b9 gz S) | (refine fC 23 9 24 #[.int .i64 S0, .int .i64 T0, .int .i64 D, .int .i64 E] 0 4 S ?_; clear S; intro lI S; obtain ⟨dJ, dR, dU, dV⟩ := St.at4 S bf) | (refine fD 30 rfl ?_; (refine dM (by rfl) ?_; dsimp only); refine bI (some 30) Try.func128 S (Pq yh.out) ?_; clear S; intro mQ S; clear dJ dR dU dV; have wP := (S.out.at (.head _) 0).trans rfl))
 clear wP
 clear F6 D6 OB U6 U7
 go_loopg [11, 12, 13, 42] sizes.length (fun gg v11 v12 v13 v42 wr => ∃ (pre rest : List Int) (off : Int) (ps ls : List dK) (Ap : Option Addr) (cp : Nat) (op : Obj) (Aq : Option Addr) (cq : Nat) (oq : Obj), v11 = .slice Ap ps.length cp ∧ v12 = .slice Aq ls.length cq ∧ v13 = .int .i64 (S0 + off) ∧ v42 = .int .i64 (pre.length : Int) ∧ ae (pre ++ rest = sizes) ∧ rest.length ≤ gg ∧ ae (0 ≤ off ∧ off ≤ D ∧ ps.length ≤ pre.length ∧ ls.length ≤ pre.length) ∧ ae (oK ax S0 T0 D E off (pre.length == 0) ps ls rest = R) ∧ ae (KR k23 23 w.heap.size (.slice Ap ps.length cp) ps op) ∧ ae (KR k23 23 w.heap.size (.slice Aq ls.length cq) ls oq) ∧ ae (St w (fun _ => True) [((Value.slice Aq ls.length cq).ownBlock, oq), ((Value.slice Ap ps.length cp).ownBlock, op), (some b9, .cells #[.int .i64 S0, .int .i64 T0, .int .i64 D, .int .i64 E] 23 (0, 0)), (some b3, .cells #[.int .i64 X, .int .i64 Y, .int .i64 Wd, .int .i64 H] 23 (0, 0))] [] [] [] wr))
 case atStart => exact ⟨[], sizes, 0, [], [], none, 0, _, none, 0, _, rfl, rfl, by rw [Int.add_zero], rfl, ⟨rfl⟩, Nat.le_refl _, ⟨by have := HB.out; simp; omega⟩, ⟨HR.out.symm⟩, ⟨Nz _ _ _⟩, ⟨Nz _ _ _⟩, ⟨S.out.noK.noK⟩⟩
 case round =>
  clear S HR
  obtain ⟨pre, rest, off, ps, ls, Ap, cp, op, Aq, cq, oq, rfl, rfl, rfl, rfl, HE, hgg, HO, HG, iW, oG, S⟩ := hrel
  cases rest with
  | nil =>
   have hE := HE.out
   rw [List.append_nil] at hE
   subst hE
   clear HE hgg
   have hlt : ¬ ((pre.length : Int) < (pre.length : Int)) := by omega
   have hw : wrap64 (S0 + D) = S0 + D := by have := HB.out; unfold wrap64; omega
   have Ug := ae.mk (Ot HG.out)
   by_cases hod : off = D
   case pos =>
    obtain ⟨hza, hzb, hzd⟩ := vN (a := (S0 + off)) (b := wrap64 (S0 + D)) (by omega)
    obtain ⟨hya, hyb, hyd⟩ := vN (a := (S0 + off)) (b := (S0 + D)) (by omega)
    have Nr := ae.mk hod
    clear hod hw
    have wP := (S.out.at eF 0).trans rfl
    have zq := (S.out.at eF 2).trans rfl
    go_wp2
    clear wP zq
    go_ret3
    rw [Ug.out, if_pos Nr.out]
    have S2 := S.out.vO
    exact ⟨Ap, cp, Aq, cq, op, oq, rfl, fun _ => S2.V9 iW.out oG.out, S.out.below⟩
   case neg =>
    obtain ⟨hza, hzb, hzd⟩ := eqF (a := (S0 + off)) (b := wrap64 (S0 + D)) (by omega)
    obtain ⟨hya, hyb, hyd⟩ := eqF (a := (S0 + off)) (b := (S0 + D)) (by omega)
    have Nr := ae.mk hod
    clear hod hw
    have wP := (S.out.at eF 0).trans rfl
    have zq := (S.out.at eF 2).trans rfl
    go_wp2
    clear wP zq
    have HQ := ae.mk (Ug.out.trans (if_neg Nr.out))
    go_ret3
    rw [HQ.out]
    exact ⟨none, 0, none, 0, .cells #[] 0 (0, 0), .cells #[] 0 (0, 0), rfl, (fun h => by cases h), S.out.below⟩
  | cons n ns =>
   have hlt : (pre.length : Int) < (sizes.length : Int) := by rw [← HE.out, List.length_append, List.length_cons]; omega
   have hw1 : wrap64 ((pre.length : Int) + 1) = ((pre ++ [n]).length : Int) := by have := kF.out; rw [List.length_append, List.length_singleton]; unfold wrap64; omega
   have HW1 := ae.mk hw1
   have kY := ae.mk hgg
   have AL := ae.mk (show ps.length ≤ 1000000 ∧ ls.length ≤ 1000000 by have := HO.out; have := kF.out; omega)
   have hrd : rd sizes (pre.length : Int) = n := by rw [← HE.out]; simp [rd, List.getD_eq_getElem?_getD]
   obtain ⟨FY, ek, xi⟩ := Kd.sS (Kd.eY HI.out S.out.below) (pre.length : Int) (Int.natCast_nonneg _) hlt
   subst ek
   rw [hrd] at xi
   simp only [Int.toNat_natCast] at xi
   clear hrd hgg hw1
   go_upto_if 48 with fail
   clear xi
   go_cut [12, 13] (fun v12 v13 wc => ∃ (o' : Int) (ls' : List dK) (Aq : Option Addr) (cq : Nat) (oq : Obj), v12 = .slice Aq ls'.length cq ∧ v13 = .int .i64 (S0 + o') ∧ ae (0 ≤ o' ∧ o' ≤ D + 1 ∧ ls'.length ≤ pre.length + 1) ∧ ae (Bi ax S0 T0 D E o' ps ls' n ns = R) ∧ ae (KR k23 23 w.heap.size (.slice Aq ls'.length cq) ls' oq) ∧ ae (St w (fun _ => True) [((Value.slice Aq ls'.length cq).ownBlock, oq), ((Value.slice Ap ps.length cp).ownBlock, op), (some b9, .cells #[.int .i64 S0, .int .i64 T0, .int .i64 D, .int .i64 E] 23 (0, 0)), (some b3, .cells #[.int .i64 X, .int .i64 Y, .int .i64 Wd, .int .i64 H] 23 (0, 0))] [] [] [] wc))
   case first =>
    by_cases hp2 : pre.length = 0
    case pos =>
     have hp : (pre.length == 0) = true := beq_iff_eq.mpr hp2
     obtain ⟨hpa, hpb⟩ := gU (a := 0) (b := (pre.length : Int)) (by omega)
     have hpc : decide (0 < pre.length) = false := decide_eq_false (by omega)
     have hpe : ¬ (0 < pre.length) := by omega
     have HG2 := ae.mk (show Bi ax S0 T0 D E off ps ls n ns = R by have h := HG.out; rw [hp] at h; exact h)
     clear hp hp2
     go_wp2
     go_meet
     case rel => exact ⟨off, ls, _, _, _, rfl, rfl, ⟨by have := HO.out; omega⟩, HG2, oG, S⟩
    case neg =>
     have hp : (pre.length == 0) = false := beq_eq_false_iff_ne.mpr hp2
     obtain ⟨hpa, hpb⟩ := o5 (a := 0) (b := (pre.length : Int)) (by omega)
     have hpc : decide (0 < pre.length) = true := decide_eq_true (by omega)
     have hpe : 0 < pre.length := by omega
     have HG2 := ae.mk (show Bi ax S0 T0 D E (off + 1) ps (ls ++ [oM ax (S0 + off) T0 E 1]) n ns = R by have h := HG.out; rw [hp] at h; exact h)
     have Qn := ae.mk (show wrap64 ((S0 + off) + 1) = S0 + (off + 1) by have := HO.out; have := HB.out; unfold wrap64; omega)
     clear hp hp2
     have Iw := (S.out.at eF 1).trans rfl
     have Iy := (S.out.at eF 3).trans rfl
     go_wp2_with (first | (refine bI (some 57) Try.func127 S (Hu y7.out (S0 + off) T0 1 E) ?_; clear S; intro eU S; clear Iw Iy) | (refine boxS 16 _ 23 S ?_; clear S; intro b16 fV S) | (refine fC 23 16 58 #[.int .i64 (tX ax (S0 + off) T0), .int .i64 (tX ax T0 (S0 + off)), .int .i64 (tX ax 1 E), .int .i64 (tX ax E 1)] 0 4 S ?_; clear S; intro gz S; obtain ⟨DT, DU, DV, DW⟩ := St.at4 S (.head _)) | (refine fD 63 rfl ?_; at_builtin; replace S := ae.mk S.out.vO; refine vM k23 23 rfl 60 62 42 _ 32 Try.underlying42 info23 rfl (by decide) (by decide) (by decide) S oG ⟨tX ax (S0 + off) T0, tX ax T0 (S0 + off), tX ax 1 E, tX ax E 1⟩ [.int .i64 (tX ax (S0 + off) T0), .int .i64 (tX ax T0 (S0 + off)), .int .i64 (tX ax 1 E), .int .i64 (tX ax E 1)] (fun _ _ _ => rO _ _ _ _) (by have := AL.out; omega) ?_; clear S oG; intro Aq2 cq2 oq2 lI S oG; clear DT DU DV DW))
     go_meet
     case rel => exact ⟨off + 1, _, _, _, _, (by rw [List.length_append]; rfl), (by rw [Qn.out]), ⟨by have := HO.out; rw [List.length_append, List.length_singleton]; omega⟩, HG2, oG, ⟨S.out.vO.f_.rY.rY.rY.rY⟩⟩
   case rest =>
    clear S oG HG
    obtain ⟨o', ls', Aq, cq, oq, rfl, rfl, rW, HG, oG, S⟩ := hcut
    rename World => wx
    have AL := ae.mk (show ps.length ≤ 1000000 ∧ ls'.length ≤ 1000001 by have := HO.out; have := rW.out; have := kF.out; omega)
    have hg : wrap64 (wrap64 (S0 + D) - (S0 + o')) = D - o' := by have := HB.out; have := rW.out; unfold wrap64; omega
    by_cases hn : n < 1
    case pos =>
     obtain ⟨hna, hnb⟩ := o5 (a := n) (b := 1) (by omega)
     have HQ := ae.mk (HG.out.symm.trans (BG (.inl hn)))
     go_wp2
     go_ret3
     rw [HQ.out]
     exact ⟨none, 0, none, 0, .cells #[] 0 (0, 0), .cells #[] 0 (0, 0), rfl, (fun h => by cases h), S.out.below⟩
    obtain ⟨hna, hnb⟩ := gU (a := n) (b := 1) (by omega)
    by_cases hd : D < o' + n
    case pos =>
     obtain ⟨Vr, Vs⟩ := o5 (a := wrap64 (wrap64 (S0 + D) - (S0 + o'))) (b := n) (by omega)
     obtain ⟨hea, heb⟩ := o5 (a := D - o') (b := n) (by omega)
     have HQ := ae.mk (HG.out.symm.trans (BG (.inr hd)))
     have wP := (S.out.at eF 0).trans rfl
     have zq := (S.out.at eF 2).trans rfl
     go_wp2
     clear wP zq
     go_ret3
     rw [HQ.out]
     exact ⟨none, 0, none, 0, .cells #[] 0 (0, 0), .cells #[] 0 (0, 0), rfl, (fun h => by cases h), S.out.below⟩
    obtain ⟨Vr, Vs⟩ := gU (a := wrap64 (wrap64 (S0 + D) - (S0 + o'))) (b := n) (by omega)
    obtain ⟨hea, heb⟩ := gU (a := D - o') (b := n) (by omega)
    have HG2 := ae.mk ((QA (fun h => h.elim hn hd)).symm.trans HG.out)
    have HN := ae.mk hn
    have HD2 := ae.mk hd
    have Qn := ae.mk (show wrap64 ((S0 + o') + n) = S0 + (o' + n) by have := rW.out; have := HB.out; unfold wrap64; omega)
    clear hn hd hg
    obtain ⟨wP, Iw, zq, Iy⟩ := St.at4 S eF
    go_wp2_with (first | (refine bI (some 88) Try.func127 S (Hu y7.out (S0 + o') T0 n E) ?_; clear S; intro eU S; clear wP Iw zq Iy) | (refine boxS 18 _ 23 S ?_; clear S; intro b18 fV S) | (refine fC 23 18 89 #[.int .i64 (tX ax (S0 + o') T0), .int .i64 (tX ax T0 (S0 + o')), .int .i64 (tX ax n E), .int .i64 (tX ax E n)] 0 4 S ?_; clear S; intro gz S; obtain ⟨adh, adl, adm, adn⟩ := St.at4 S (.head _)) | (refine fD 94 rfl ?_; at_builtin; replace S := ae.mk S.out.Lh; refine vM k23 23 rfl 91 93 42 _ 32 Try.underlying42 info23 rfl (by decide) (by decide) (by decide) S iW ⟨tX ax (S0 + o') T0, tX ax T0 (S0 + o'), tX ax n E, tX ax E n⟩ [.int .i64 (tX ax (S0 + o') T0), .int .i64 (tX ax T0 (S0 + o')), .int .i64 (tX ax n E), .int .i64 (tX ax E n)] (fun _ _ _ => rO _ _ _ _) (by have := AL.out; omega) ?_; clear S iW; intro MR cp2 Pn lI S iW; clear adh adl adm adn))
    have hw1 := HW1.out
    go_wp2
    go_roundg ns.length
    case measure => exact Nat.lt_of_lt_of_le (Nat.lt_succ_self _) kY.out
    case rel => exact ⟨pre ++ [n], ns, o' + n, _, ls', _, _, _, _, _, _, (by rw [List.length_append]; rfl), rfl, (by rw [Qn.out]), (by rw [hw1]), ⟨by rw [List.append_assoc]; exact HE.out⟩, Nat.le_refl _, ⟨by have := HO.out; have := rW.out; have := HN.out; have := HD2.out; simp only [List.length_append, List.length_singleton]; omega⟩, ⟨by rw [show ((pre ++ [n]).length == 0) = false by simp]; exact HG2.out⟩, iW, oG, ⟨S.out.vO.f_.rY.rY.Lh.rY⟩⟩
def ah8.f (_ : Nat) (X Y Wd H ax : Int) (sizes : List Int) : Option (List dK × List dK × Bool) := if sizes.length ≤ 1000000 then some (qX X Y Wd H ax sizes) else none
theorem Two.lower {α β : Type} {d : Kd α} {e : TypeId} {d' : Kd β} {e' : TypeId} {w W W1 : World} {v v' : Value} {l : List α} {l' : List β} {o o' : Obj} (h : Two d e d' e' W W1 v l v' l' o o') (hs : w.heap.size ≤ W.heap.size) : Two d e d' e' w W1 v l v' l' o o' :=
 ⟨Cb h.one hs, Cb h.two hs, fun g hg => ⟨Nat.le_trans hs (h.at1 g hg).1, (h.at1 g hg).2⟩, fun g hg => ⟨Nat.le_trans hs (h.at2 g hg).1, (h.at2 g hg).2⟩, h.ne⟩
theorem ady (c : ai) (hl : c.f3.length ≤ 1000000) (b : Nat) (P : Nat → Prop) (A : Option Addr) (cc : Nat) (w : World) (hv : Kd.V k26 26 w b P (.slice A c.f3.length cc) c.f3) :
  Calls Try.prog 210 #[.agg #[.int .u8 c.f0, .int .i64 c.f1.f0, .int .i64 c.f1.f1, .int .i64 c.f1.f2, .int .i64 c.f1.f3, .int .i64 c.f2, .slice A c.f3.length cc]] w (MV w (yU c)) := by
 have S := ae.mk (St.start (ts := [(.slice A c.f3.length cc, c.f3)]) (b0 := w.heap.size) (w := w) (P := P) (fun t ht => by rw [List.mem_singleton.1 ht]; exact dX hv))
 have kF := ae.mk hl
 clear hl hv
 obtain ⟨ck, ⟨cx, cy, cw, ch⟩, aQ, l⟩ := c
 simp only [] at S kF ⊢
 rw [show yU ⟨ck, ⟨cx, cy, cw, ch⟩, aQ, l⟩ = qX cx cy cw ch (((ck - 2) % 256 + 1) % 256) (l.map (qP ck)) from rfl]
 obtain ⟨T, hT⟩ : ∃ T, T = qX cx cy cw ch (((ck - 2) % 256 + 1) % 256) (l.map (qP ck)) := ⟨_, rfl⟩
 rw [← hT]
 have HT := ae.mk hT
 clear hT
 go_enter Try.func210, Try.ntmps210
 go_wp2_with (first
  | (refine boxS 1 _ 26 S ?_; clear S; intro b1 eU S; have jB := (S.out.at (.head _) 6).trans rfl)
  | fail)
 clear jB
 go_loopg [5, 11] l.length (fun gg v3 v9 wr => ∃ (pre rest : List ai) (Ap : Option Addr) (cp : Nat) (op : Obj), v3 = .slice Ap pre.length cp ∧ v9 = .int .i64 (pre.length : Int) ∧ ae (pre ++ rest = l) ∧ rest.length ≤ gg ∧ ae (KR (Kd.int .i64) 3 w.heap.size (.slice Ap pre.length cp) (pre.map (qP ck)) op) ∧ ae (St w P [((Value.slice Ap pre.length cp).ownBlock, op), (some b1, .cells #[.int .u8 ck, .int .i64 cx, .int .i64 cy, .int .i64 cw, .int .i64 ch, .int .i64 aQ, .slice A l.length cc] 26 (0, 0))] [] [(.slice A l.length cc, l)] [] wr))
 case atStart => exact ⟨[], l, _, _, _, rfl, rfl, ⟨rfl⟩, Nat.le_refl _, ⟨Nz _ _ _⟩, ⟨S.out.noK⟩⟩
 case round =>
  clear S
  obtain ⟨pre, rest, Ap, cp, op, rfl, rfl, HE, hgg, iW, S⟩ := hrel
  cases rest with
  | nil =>
   have hE := HE.out
   rw [List.append_nil] at hE
   have hE2 := hE.symm
   subst hE2
   clear hE HE hgg
   have hlt : ¬ ((l.length : Int) < (l.length : Int)) := by omega
   have hlm : (l.map (qP ck)).length = l.length := List.length_map _
   have hcut := fun W hi => agj cx cy cw ch (((ck - 2) % 256 + 1) % 256) (l.map (qP ck)) (by have := kF.out; simpa using this) Ap cp W hi
   rw [hlm, ← HT.out] at hcut
   have H6 := ae.mk hcut
   clear hcut hlm
   have lN := (S.out.at bf 1).trans rfl
   have lQ := (S.out.at bf 2).trans rfl
   have lS := (S.out.at bf 3).trans rfl
   have lT := (S.out.at bf 4).trans rfl
   have gX := (S.out.at bf 0).trans rfl
   go_wp2_with (first
    | (refine nG (some 38) Try.func45 (H6.out _ (by have h := (Kd.gy (Ny iW.out S.out (.head _))).2.2; rw [List.length_map] at h; exact h)) ?_; rintro e fV ⟨A1, c1, A2, c2, o1, o2, rfl, h1, hb⟩; refine ⟨_, rfl, ?_⟩; have HCU := ae.mk (fun h => (h1 h).lower S.out.below.size); replace S := ae.mk (S.out.call hb); clear h1 hb; clear lN lQ lS lT gX)
    | fail)
   go_ret3
   exact ⟨_, _, _, _, _, _, rfl, HCU.out, S.out.below⟩
  | cons k rest =>
   have hk : k ∈ l := by rw [← HE.out]; simp
   have hlt : (pre.length : Int) < (l.length : Int) := by rw [← HE.out, List.length_append, List.length_cons]; omega
   have hw1 : wrap64 ((pre.length : Int) + 1) = ((pre ++ [k]).length : Int) := by have := kF.out; rw [List.length_append, List.length_singleton]; unfold wrap64; omega
   have HW1 := ae.mk hw1
   have kY := ae.mk hgg
   have HK := ae.mk hk
   have DF := ae.mk (show pre.length ≤ 1048576 by have := kF.out; omega)
   obtain ⟨lu, ua, uc, ek, S1⟩ := S.out.elem (.head _) (pre.length : Int) (Int.natCast_nonneg _) hlt
   subst ek
   have hrd : aj l (pre.length : Int) = k := by rw [← HE.out]; exact lD pre k rest
   rw [hrd] at S1
   simp only [Int.toNat_natCast] at S1
   replace S := ae.mk S1
   clear S1 hrd hk hgg hw1
   by_cases hk2 : ck = 2
   case pos =>
    have hka : (ck == 2) = true := beq_iff_eq.mpr hk2
    have hkb : decide (ck = 2) = true := decide_eq_true hk2
    have Nv := ae.mk (show (pre ++ [k]).map (qP ck) = pre.map (qP ck) ++ [k.f1.f2] by rw [List.map_append]; exact congrArg (pre.map (qP ck) ++ [·]) (if_pos hk2))
    clear hk2
    obtain ⟨jZ, ku, kz, jE, jF, kG, lJ⟩ := St.Dv S
    go_wp2_with (first
     | (refine boxS 7 _ 26 S ?_; clear S; intro b7 gz S; clear jZ ku kz jE jF kG lJ)
     | (refine fC 26 7 14 #[.int .u8 k.f0, .int .i64 k.f1.f0, .int .i64 k.f1.f1, .int .i64 k.f1.f2, .int .i64 k.f1.f3, .int .i64 k.f2, .slice ua k.f3.length uc] 0 7 S ?_; clear S; intro lI S; have gX := (S.out.at eF 0).trans rfl; have Ir := (S.out.at (.head _) 3).trans rfl)
     | (refine fD 23 rfl ?_; at_builtin; replace S := ae.mk S.out.vO; refine vM (Kd.int .i64) 3 rfl 18 22 41 (.int .i64 0) 8 Try.underlying41 info3 rfl (by decide) (by decide) (by decide) S iW k.f1.f2 [.int .i64 k.f1.f2] (fun _ _ _ => rfl) (by have := DF.out; simp only [List.length_map]; omega) ?_; clear S iW; intro MR cp2 Pn mQ S iW; clear gX Ir)
     | fail)
    have e2 : ((pre.map (qP ck)) ++ [k.f1.f2]).length = (pre ++ [k]).length := by simp
    rw [e2, ← Nv.out] at iW
    rw [e2] at S
    have hw1 := HW1.out
    go_wp2
    go_roundg rest.length
    case measure => exact Nat.lt_of_lt_of_le (Nat.lt_succ_self _) kY.out
    case rel => exact ⟨pre ++ [k], rest, _, _, _, (by rw [List.length_append]; rfl), (by rw [hw1]), ⟨by rw [List.append_assoc]; exact HE.out⟩, Nat.le_refl _, iW, ⟨S.out.vO.f_.vO.vO.dC.aU.aU.aU.aU.aU.aU.aU⟩⟩
   case neg =>
    have hka : (ck == 2) = false := beq_eq_false_iff_ne.mpr hk2
    have hkb : decide (ck = 2) = false := decide_eq_false hk2
    have Nv := ae.mk (show (pre ++ [k]).map (qP ck) = pre.map (qP ck) ++ [k.f1.f3] by rw [List.map_append]; exact congrArg (pre.map (qP ck) ++ [·]) (if_neg hk2))
    clear hk2
    obtain ⟨jZ, ku, kz, jE, jF, kG, lJ⟩ := St.Dv S
    go_wp2_with (first
     | (refine boxS 7 _ 26 S ?_; clear S; intro b7 o6 S; clear jZ ku kz jE jF kG lJ)
     | (refine fC 26 7 14 #[.int .u8 k.f0, .int .i64 k.f1.f0, .int .i64 k.f1.f1, .int .i64 k.f1.f2, .int .i64 k.f1.f3, .int .i64 k.f2, .slice ua k.f3.length uc] 0 7 S ?_; clear S; intro uy S; have gX := (S.out.at eF 0).trans rfl; have Iu := (S.out.at (.head _) 4).trans rfl)
     | (refine fD 29 rfl ?_; at_builtin; replace S := ae.mk S.out.vO; refine vM (Kd.int .i64) 3 rfl 24 28 41 (.int .i64 0) 8 Try.underlying41 info3 rfl (by decide) (by decide) (by decide) S iW k.f1.f3 [.int .i64 k.f1.f3] (fun _ _ _ => rfl) (by have := DF.out; simp only [List.length_map]; omega) ?_; clear S iW; intro MR cp2 Pn xe S iW; clear gX Iu)
     | fail)
    have e2 : ((pre.map (qP ck)) ++ [k.f1.f3]).length = (pre ++ [k]).length := by simp
    rw [e2, ← Nv.out] at iW
    rw [e2] at S
    have hw1 := HW1.out
    go_wp2
    go_roundg rest.length
    case measure => exact Nat.lt_of_lt_of_le (Nat.lt_succ_self _) kY.out
    case rel => exact ⟨pre ++ [k], rest, _, _, _, (by rw [List.length_append]; rfl), (by rw [hw1]), ⟨by rw [List.append_assoc]; exact HE.out⟩, Nat.le_refl _, iW, ⟨S.out.vO.f_.vO.vO.dC.aU.aU.aU.aU.aU.aU.aU⟩⟩
theorem adu (k : ai) (r : dK) (A : Option Addr) (cc : Nat) (w : World) :
  Calls Try.prog 212 #[.agg #[.int .u8 k.f0, .int .i64 k.f1.f0, .int .i64 k.f1.f1, .int .i64 k.f1.f2, .int .i64 k.f1.f3, .int .i64 k.f2, .slice A k.f3.length cc], .agg #[.int .i64 r.f0, .int .i64 r.f1, .int .i64 r.f2, .int .i64 r.f3]] w fun e w' => e = .returned (.bool (nI k.f1 r)) ∧ Below w.heap.size w w' := by
 have S := ae.mk (St.start (ts := []) (b0 := w.heap.size) (w := w) (P := fun _ => True) (fun _ h => by cases h))
 go_enter Try.func212, Try.ntmps212
 go_wp2_with (first
  | (refine boxS 2 _ 26 S ?_; clear S; intro b2 eU S)
  | (refine boxS 3 _ 23 S ?_; clear S; intro b3 fV S; obtain ⟨dJ, dR, dU, dV⟩ := St.at4 S (.head _); have qU := (S.out.at bf 1).trans rfl; have qV := (S.out.at bf 2).trans rfl; have qW := (S.out.at bf 3).trans rfl; have tY := (S.out.at bf 4).trans rfl)
  | fail)
 clear dJ dR dU dV qU qV qW tY
 all_goals (go_ret; refine ⟨?_, S.out.below⟩; clear S; simp [nI, *])
theorem XY (c : ai) (hl : c.f3.length ≤ 1000000) (b : Nat) (P : Nat → Prop) (A : Option Addr) (cc : Nat) (w : World) (hv : Kd.V k26 26 w b P (.slice A c.f3.length cc) c.f3) :
  Calls Try.prog 206 #[.agg #[.int .u8 c.f0, .int .i64 c.f1.f0, .int .i64 c.f1.f1, .int .i64 c.f1.f2, .int .i64 c.f1.f3, .int .i64 c.f2, .slice A c.f3.length cc]] w (RX w c) := by
 have S := ae.mk (St.start (ts := [(.slice A c.f3.length cc, c.f3)]) (b0 := w.heap.size) (w := w) (P := P) (fun t ht => by rw [List.mem_singleton.1 ht]; exact dX hv))
 have hcut := fun b P A cc W hV => ady c hl b P A cc W hV
 have ho : nN c = C9 c (yU c) := rfl
 have hl2 := (Ov c).2
 unfold RX
 generalize nN c = v at ho ⊢
 generalize yU c = T at ho hl2 hcut
 clear hl hv
 obtain ⟨ck, ⟨cx, cy, cw, ch⟩, aQ, l⟩ := c
 obtain ⟨t1, t2, t3⟩ := T
 simp only [C9] at S hl2 hcut ho ⊢
 have HL2 := ae.mk hl2
 clear hl2
 by_cases h1 : ck = 1
 case pos =>
  have hv : v = true := by rw [ho, h1]; rfl
  have ha : (ck == 1) = true := beq_iff_eq.mpr h1
  have hb : decide (ck = 1) = true := decide_eq_true h1
  have HL := ae.mk hv
  clear hv h1 ho hcut
  go_enter Try.func206, Try.ntmps206
  go_wp2_with (first
   | (refine boxS 1 _ 26 S ?_; clear S; intro b1 eU S; have gX := (S.out.at (.head _) 0).trans rfl)
   | fail)
  clear gX
  go_ret2
  rw [HL.out]
  exact ⟨_, _, _, rfl, fun _ => ⟨[], rfl, Nat.zero_le _, Kd.wC _ _ _ _ _⟩, S.out.below⟩
 have ha : (ck == 1) = false := beq_eq_false_iff_ne.mpr h1
 have hd : decide (ck = 1) = false := decide_eq_false h1
 rw [ha, Bool.false_or] at ho
 clear h1
 cases t3 with
 | false =>
  rw [Bool.false_and] at ho
  have HL := ae.mk ho
  have H6 := ae.mk (fun b P A cc W hV => Ox (hcut b P A cc W hV))
  clear hcut ho
  go_enter Try.func206, Try.ntmps206
  go_wp2_with (first
   | (refine boxS 1 _ 26 S ?_; clear S; intro b1 eU S; obtain ⟨gX, lN, lQ, lS, lT, nT, jB⟩ := St.dS S (.head _))
   | (refine nG (some 12) Try.func210 (H6.out _ _ _ _ _ (S.out.tree _ (.head _))) ?_; rintro e fV ⟨Ap, np, cp, Aq, nq, cq, rfl, hb⟩; refine ⟨_, rfl, ?_⟩; replace S := ae.mk (S.out.call hb); clear hb; clear gX lN lQ lS lT nT jB)
   | fail)
  go_ret2
  rw [HL.out]
  exact ⟨_, _, _, rfl, (fun h => by cases h), S.out.below⟩
 | true =>
  rw [Bool.true_and] at ho
  have H6 := ae.mk (fun b P A cc W hV => QB (hcut b P A cc W hV))
  have HEF := ae.mk (fun (A B : Option Addr) (ca cb : Nat) (W : World) (h1 : Kd.C k26 W A l.length l) (h2 : Kd.C k23 W B t1.length t1) => (show Calls Try.prog 211 #[.slice A l.length ca, .slice B t1.length cb, .func (.func 212) #[] #[]] W fun e w' => e = .returned (.bool v) ∧ Below W.heap.size W w' by rw [ho]; exact adG (fun k r => nI k.f1 r) 212 (qL Try.func212 (by decide +kernel) (by kernel_rfl)) l t1 A B ca cb W h1 h2 (fun W x X cx y _ _ _ _ => adu x y X cx W)))
  clear hcut ho
  go_enter Try.func206, Try.ntmps206
  go_wp2_with (first
   | (refine boxS 1 _ 26 S ?_; clear S; intro b1 eU S; obtain ⟨gX, lN, lQ, lS, lT, nT, jB⟩ := St.dS S (.head _))
   | (refine nG (some 12) Try.func210 (H6.out _ _ _ _ _ (S.out.tree _ (.head _))) ?_; rintro e fV ⟨Ap, cp, Aq, cq, op, oq, rfl, h1, hb⟩; refine ⟨_, rfl, ?_⟩; obtain ⟨S1, hp, hq⟩ := S.out.two h1 hb; replace S := ae.mk S1; have iW := ae.mk hp; have oG := ae.mk hq; clear S1 hp hq h1 hb; clear gX lN lQ lS lT nT jB; have jB := (S.out.at eF 6).trans rfl)
   | (refine fD 22 rfl ?_; (refine dM (by rfl) ?_; dsimp only); refine bI (some 22) Try.func211 S (HEF.out _ _ _ _ _ (Kd.oI (S.out.tree _ (.head _))).2.2 (acL iW.out S.out (.head _)).1) ?_; clear S; intro gz S; clear jB)
   | fail)
  go_ret2
  exact ⟨_, _, _, rfl, fun _ => ⟨t2, rfl, HL2.out, S.out.Tu oG.out bf⟩, S.out.below⟩
def qj (w0 : World) (gw j : Nat) (W : World) : Prop := Below w0.heap.size w0 W ∧ ∃ (n : Int) (v : Value) (ls : List dK), W.heap[gw]? = some (.cells #[.int .i64 n, v] 182 (0, 0)) ∧ Kd.R k23 23 W w0.heap.size (fun _ => True) v ls ∧ ls.length ≤ j
def Fr (gw : Nat) (W W' : World) : Prop := ∀ k cs t, k ≠ gw → t ≠ 23 → W.heap[k]? = some (.cells cs t (0, 0)) → W'.heap[k]? = some (.cells cs t (0, 0))
theorem Fr.refl (gw : Nat) (W : World) : Fr gw W W := fun _ _ _ _ _ h => h
theorem Fr.trans {gw : Nat} {W W1 W2 : World} (h : Fr gw W W1) (k : Fr gw W1 W2) : Fr gw W W2 := fun i cs t hi ht hb => k i cs t hi ht (h i cs t hi ht hb)
theorem Fr.below {gw : Nat} {W W1 : World} (h : Below W.heap.size W W1) : Fr gw W W1 := fun _ _ _ _ _ hb => aN hb h
theorem Fr.store {gw : Nat} {W W1 : World} (h : W.grownBy W1 (some gw)) : Fr gw W W1 := fun _ _ _ hi _ hb => bT hb h (fun e => absurd (Option.some.inj e) hi)
theorem Fr.append {gw base : Nat} {W W1 : World} {v : Value} {xs : List dK} {ok : Nat → Prop} (hv : Kd.R k23 23 W base ok v xs) (h : W.grownBy W1 v.ownBlock) : Fr gw W W1 := fun _ _ _ _ ht hb => bT hb h (Kd.Be hv hb (fun e => ht e.symm))
theorem qj.below {w0 W W1 : World} {gw j : Nat} (h : qj w0 gw j W) (hb : Below W.heap.size W W1) : qj w0 gw j W1 := by
 obtain ⟨h1, n, v, ls, h2, h3, h4⟩ := h
 exact ⟨ak h1 hb, n, v, ls, aN h2 hb, Kd.mi h3 hb, h4⟩
theorem qj.mono {w0 W : World} {gw j j' : Nat} (h : qj w0 gw j W) (hj : j ≤ j') : qj w0 gw j' W := by
 obtain ⟨h1, n, v, ls, h2, h3, h4⟩ := h
 exact ⟨h1, n, v, ls, h2, h3, Nat.le_trans h4 hj⟩
theorem adt (x : ai) (B : Option Addr) (cb b3 gw : Nat) (r : Bool) (R : World → Prop) (W : World) (hk : W.heap[b3]? = some (.cells #[.pointer (some ⟨gw, 0, none⟩)] 180 (0, 0)))
  (h : ∀ W1, Below W.heap.size W W1 → Calls Try.prog 197 #[.pointer (some ⟨gw, 0, none⟩), .agg #[.int .u8 x.f0, .int .i64 x.f1.f0, .int .i64 x.f1.f1, .int .i64 x.f1.f2, .int .i64 x.f1.f3, .int .i64 x.f2, .slice B x.f3.length cb]] W1 fun e w' => e = .returned (.bool r) ∧ R w') :
  Calls Try.prog 207 (#[.agg #[.int .u8 x.f0, .int .i64 x.f1.f0, .int .i64 x.f1.f1, .int .i64 x.f1.f2, .int .i64 x.f1.f3, .int .i64 x.f2, .slice B x.f3.length cb]] ++ #[.pointer (some ⟨b3, 0, none⟩)]) W fun e w' => e = .returned (.bool (!r)) ∧ R w' := by
 have HK := ae.mk hk
 have H := ae.mk h
 clear hk h
 simp only [List.append_toArray, List.cons_append, List.nil_append]
 cases r
 all_goals
  go_enter Try.func207, Try.ntmps207
  go_wp2_with (first
   | ((with_reducible refine au (N := 2) rfl ?_); refine aG ?hg (N := 2) ?hd (cs := #[.int .u8 x.f0, .int .i64 x.f1.f0, .int .i64 x.f1.f1, .int .i64 x.f1.f2, .int .i64 x.f1.f3, .int .i64 x.f2, .slice B x.f3.length cb]) (t := 26) ?hr ?_; (case hd => rfl); (case hg => rfl); (case hr => first | (go_simp; done) | (go_simp; rfl)); intro b2 hg Zg hbox hb; have ng := ae.mk hbox; have HB := ae.mk hb; have K3 := ae.mk (aN HK.out hb); have d0 := (af K3.out 0).trans rfl; have c0 := (af ng.out 0).trans rfl; have c1 := (af ng.out 1).trans rfl; have c2 := (af ng.out 2).trans rfl; have c3 := (af ng.out 3).trans rfl; have c4 := (af ng.out 4).trans rfl; have c5 := (af ng.out 5).trans rfl; have c6 := (af ng.out 6).trans rfl; clear hb hbox hg)
   | fail)
  clear c0 c1 c2 c3 c4 c5 c6 d0
  refine (H.out _ HB.out).mono ?_
  rintro e w' ⟨rfl, hR⟩
  have HR := ae.mk hR
  clear hR
  go_wp2
  go_ret
  exact ⟨rfl, HR.out⟩
def qQ.T5 : Bool × List (List Nat × List Nat) := (true, [([], []), ([], []), ([1], [1]), ([2], [2]), ([3], [3]), ([], []), ([4, 5], [4, 5]), ([0, 0, 1, 2, 3, 4, 5, 6], [0]), ([7, 0, 1, 2, 3, 4, 5, 6], [7]), ([8, 6, 6, 0, 1, 2, 3, 4, 5, 6], [6, 8])])
def qQ.B5 : List Nat := [0, 0, 2, 6, 14, 0, 62, 127, 255, 511]
theorem qQ.PO : iY .any (opsOf Try.f197 5) = qQ.T5 := by kernel_rfl
theorem qQ.Ie : jA qQ.T5.2 qQ.B5 = true := by kernel_rfl
theorem abS (w0 : World) (gw : Nat) (hgw : w0.heap.size ≤ gw) : ∀ (N : Nat) (c : ai), sz c ≤ N → N ≤ 20000 → ∀ (A : Option Addr) (cc : Nat), Kd.C k26 w0 A c.f3.length c.f3 → c.f3.length ≤ cc → ∀ (j : Nat) (W : World), j + dO c.f3 ≤ 1000000 → qj w0 gw j W →
  Calls Try.prog 197 #[.pointer (some ⟨gw, 0, none⟩), .agg #[.int .u8 c.f0, .int .i64 c.f1.f0, .int .i64 c.f1.f1, .int .i64 c.f1.f2, .int .i64 c.f1.f3, .int .i64 c.f2, .slice A c.f3.length cc]] W fun e w' => e = .returned (.bool (mf c)) ∧ qj w0 gw (j + dO c.f3) w' ∧ Fr gw W w' := by
 intro N
 induction N with
 | zero => intro c h; rw [bP] at h; omega
 | succ N ih =>
  intro c hc hN A cc hr hlc j W hj hI
  have hsz := bP c
  have hlen := jY c.f3
  have YU : ∀ (b2 j1 : Nat) (W1 : World), b2 ≠ gw → W1.heap[b2]? = some (.cells #[.pointer (some ⟨gw, 0, none⟩)] 180 (0, 0)) → qj w0 gw j1 W1 → j1 ≤ j + c.f3.length →
    Calls Try.prog 174 #[.slice A c.f3.length cc, .func (.func 207) #[] #[.pointer (some ⟨b2, 0, none⟩)]] W1 fun e w' => e = .returned (.bool (!(c.f3.all mf))) ∧ qj w0 gw (j + dO c.f3) w' ∧ Fr gw W1 w' := by
   intro b2 j1 W1 hne hk hi hj1
   have hcon := Qz (fun rest w' => (∃ i, qj w0 gw i w' ∧ i + dO rest ≤ (j + dO c.f3) + rest.length) ∧ Fr gw W1 w') (fun x => !mf x) 207 #[.pointer (some ⟨b2, 0, none⟩)] (qL Try.func207 (by decide +kernel) (by kernel_rfl)) c.f3 A cc w0 hr
    (fun s w' h => by obtain ⟨⟨i, h1, _⟩, _⟩ := h; exact h1.1)
    (fun s w' n h => by obtain ⟨⟨i, h1, h2⟩, h3⟩ := h; exact ⟨⟨i, h1.below (aV (Below.refl _ _) n), h2⟩, h3.trans (Fr.below (aV (Below.refl _ _) n))⟩)
    (fun x rest w' B cb hx hp h hCx hlx => by
     obtain ⟨⟨i, h1, h2⟩, h3⟩ := h
     obtain ⟨pre, hp⟩ := hp
     have e1 : dO c.f3 = dO pre + (sz x + dO rest) := by rw [← hp, jX, bJ]
     have e2 := bP x
     have e3 := jY rest
     have e4 := jY pre
     rw [bJ, List.length_cons] at h2
     refine (adt x B cb b2 gw (mf x) (fun w'' => qj w0 gw (i + dO x.f3) w'' ∧ Fr gw W1 w'') w' (h3 b2 _ 180 hne (by decide) hk) (fun W2 hb2 => ?_)).mono ?_
     ·refine (ih x (by omega) (by omega) B cb hCx hlx i W2 (by omega) (h1.below hb2)).mono ?_
      rintro e w'' ⟨he, hi2, hf⟩
      exact ⟨he, hi2, h3.trans ((Fr.below hb2).trans hf)⟩
     ·rintro e w'' ⟨he, hi2, hf⟩
      refine ⟨he, ⟨⟨i + dO x.f3, hi2, ?_⟩, hf⟩⟩
      split
      ·rw [nK]; show _ ≤ _ + 0; omega
      ·omega)
    W1 ⟨⟨j1, hi, by omega⟩, Fr.refl gw W1⟩ hr.2.1
   refine hcon.mono ?_
   rintro e w' ⟨he, ⟨i, h1, h2⟩, h3⟩
   rw [nK] at h2
   refine ⟨?_, h1.mono (by simpa using h2), h3⟩
   rw [he, List.not_all_eq_any_not]
  have hL : ∀ W1, Below w0.heap.size w0 W1 → Calls Try.prog 206 #[.agg #[.int .u8 c.f0, .int .i64 c.f1.f0, .int .i64 c.f1.f1, .int .i64 c.f1.f2, .int .i64 c.f1.f3, .int .i64 c.f2, .slice A c.f3.length cc]] W1 fun e w' => ∃ Au n cu, e = .returned (.tuple #[.slice Au n cu, .bool (nN c)]) ∧ (nN c = true → ∃ us : List dK, n = us.length ∧ us.length ≤ c.f3.length ∧ k23.R 23 w' W1.heap.size (fun _ => True) (.slice Au us.length cu) us) ∧ Below W1.heap.size W1 w' := fun W1 hb => XY c (by omega) W1.heap.size (fun _ => True) A cc W1 (Kd.yR hlc (Kd.sG (Kd.KX sW (Kd.eY hr hb)) (fun _ _ => trivial)))
  rw [tJ]
  obtain ⟨hB, n, v, ls, hK, hV, hls⟩ := hI
  obtain ⟨Av, cv, ev⟩ := Kd.jw hV
  subst ev
  have HB := ae.mk hB
  have KW := ae.mk hK
  have RV := ae.mk hV
  have FR := ae.mk (Fr.refl gw W)
  have HGW := ae.mk hgw
  have RJ := ae.mk YU
  have HL := ae.mk hL
  have Qj := ae.mk hls
  have HJ := ae.mk hj
  have HN := ae.mk hlen
  clear hB hK hV YU hL hls hj hlen hsz ih hr hlc hc hN
  obtain ⟨ck, ⟨cx, cy, cw, ch⟩, aQ, l⟩ := c
  simp only [] at RJ HL HJ HN ⊢
  generalize nN ⟨ck, ⟨cx, cy, cw, ch⟩, aQ, l⟩ = q at HL ⊢
  generalize l.all mf = p at RJ ⊢
  cases q with
  | false =>
   rw [Bool.false_and]
   go_enter Try.func197, Try.ntmps197
   go_wp2_with (first
    | ((with_reducible refine au (N := 2) rfl ?_); refine aG ?hg (N := 2) ?hd (cs := #[.pointer (some ⟨gw, 0, none⟩)]) (t := 180) ?hr ?_; (case hd => rfl); (case hg => rfl); (case hr => first | (go_simp; done) | (go_simp; rfl)); intro b2 hg Zg hbox hb; have ng := ae.mk hbox; have YH := ae.mk (show b2 ≠ gw by rw [hg]; exact Nat.ne_of_gt (fU KW.out)); have dm := ae.mk (ak HB.out hb); have qC := ae.mk (aN KW.out hb); have oO := ae.mk (Kd.mi RV.out hb); have oN := ae.mk (FR.out.trans (Fr.below hb)); clear HB KW RV FR; have HB := dm; have KW := qC; have RV := oO; have FR := oN; clear dm qC oO oN; clear hb hbox hg)
    | ((with_reducible refine au (N := 3) rfl ?_); refine aG ?hg (N := 3) ?hd (cs := #[.int .u8 ck, .int .i64 cx, .int .i64 cy, .int .i64 cw, .int .i64 ch, .int .i64 aQ, .slice A l.length cc]) (t := 26) ?hr ?_; (case hd => rfl); (case hg => rfl); (case hr => first | (go_simp; done) | (go_simp; rfl)); intro b3 hg WQ hbox hb; have df := ae.mk hbox; have NE3 := ae.mk (show b3 ≠ gw by rw [hg]; exact Nat.ne_of_gt (fU KW.out)); have dm := ae.mk (ak HB.out hb); have qC := ae.mk (aN KW.out hb); have oO := ae.mk (Kd.mi RV.out hb); have oN := ae.mk (FR.out.trans (Fr.below hb)); have pO := ae.mk (aN ng.out hb); clear HB KW RV FR ng; have HB := dm; have KW := qC; have RV := oO; have FR := oN; have ng := pO; clear dm qC oO oN pO; have c0 := (af df.out 0).trans rfl; have c1 := (af df.out 1).trans rfl; have c2 := (af df.out 2).trans rfl; have c3 := (af df.out 3).trans rfl; have c4 := (af df.out 4).trans rfl; have c5 := (af df.out 5).trans rfl; have c6 := (af df.out 6).trans rfl; clear hb hbox hg)
    | fail)
   clear c0 c1 c2 c3 c4 c5 c6
   refine (HL.out _ HB.out).mono ?_
   rintro e w1 ⟨Au, nu, cu, rfl, _, hb⟩
   have dm := ae.mk (ak HB.out hb); have qC := ae.mk (aN KW.out hb); have oO := ae.mk (Kd.mi RV.out hb); have oN := ae.mk (FR.out.trans (Fr.below hb)); have pO := ae.mk (aN ng.out hb); have wU := ae.mk (aN df.out hb); clear HB KW RV FR ng df; have HB := dm; have KW := qC; have RV := oO; have FR := oN; have ng := pO; have df := wU; clear dm qC oO oN pO wU
   clear hb
   go_wp2
   go_ret
   exact ⟨rfl, ⟨HB.out, n, _, ls, KW.out, RV.out, by have := Qj.out; omega⟩, FR.out⟩
  | true =>
   rw [Bool.true_and]
   go_enter Try.func197, Try.ntmps197
   go_wp2_with (first
    | ((with_reducible refine au (N := 2) rfl ?_); refine aG ?hg (N := 2) ?hd (cs := #[.pointer (some ⟨gw, 0, none⟩)]) (t := 180) ?hr ?_; (case hd => rfl); (case hg => rfl); (case hr => first | (go_simp; done) | (go_simp; rfl)); intro b2 hg Zg hbox hb; have ng := ae.mk hbox; have YH := ae.mk (show b2 ≠ gw by rw [hg]; exact Nat.ne_of_gt (fU KW.out)); have dm := ae.mk (ak HB.out hb); have qC := ae.mk (aN KW.out hb); have oO := ae.mk (Kd.mi RV.out hb); have oN := ae.mk (FR.out.trans (Fr.below hb)); clear HB KW RV FR; have HB := dm; have KW := qC; have RV := oO; have FR := oN; clear dm qC oO oN; clear hb hbox hg)
    | ((with_reducible refine au (N := 3) rfl ?_); refine aG ?hg (N := 3) ?hd (cs := #[.int .u8 ck, .int .i64 cx, .int .i64 cy, .int .i64 cw, .int .i64 ch, .int .i64 aQ, .slice A l.length cc]) (t := 26) ?hr ?_; (case hd => rfl); (case hg => rfl); (case hr => first | (go_simp; done) | (go_simp; rfl)); intro b3 hg WQ hbox hb; have df := ae.mk hbox; have NE3 := ae.mk (show b3 ≠ gw by rw [hg]; exact Nat.ne_of_gt (fU KW.out)); have dm := ae.mk (ak HB.out hb); have qC := ae.mk (aN KW.out hb); have oO := ae.mk (Kd.mi RV.out hb); have oN := ae.mk (FR.out.trans (Fr.below hb)); have pO := ae.mk (aN ng.out hb); clear HB KW RV FR ng; have HB := dm; have KW := qC; have RV := oO; have FR := oN; have ng := pO; clear dm qC oO oN pO; have c0 := (af df.out 0).trans rfl; have c1 := (af df.out 1).trans rfl; have c2 := (af df.out 2).trans rfl; have c3 := (af df.out 3).trans rfl; have c4 := (af df.out 4).trans rfl; have c5 := (af df.out 5).trans rfl; have c6 := (af df.out 6).trans rfl; clear hb hbox hg)
    | fail)
   clear c0 c1 c2 c3 c4 c5 c6
   refine (HL.out _ HB.out).mono ?_
   rintro e w1 ⟨Au, nu, cu, rfl, hu, hb⟩
   obtain ⟨us, eu, hul, hu2⟩ := hu trivial
   subst eu
   have kF := ae.mk hul
   have HU := ae.mk (Kd.rM hu2 HB.out.size)
   clear hul hu hu2
   have dm := ae.mk (ak HB.out hb); have qC := ae.mk (aN KW.out hb); have oO := ae.mk (Kd.mi RV.out hb); have oN := ae.mk (FR.out.trans (Fr.below hb)); have pO := ae.mk (aN ng.out hb); have wU := ae.mk (aN df.out hb); clear HB KW RV FR ng df; have HB := dm; have KW := qC; have RV := oO; have FR := oN; have ng := pO; have df := wU; clear dm qC oO oN pO wU
   clear hb
   have d0 := (af ng.out 0).trans rfl
   have e0 := (af KW.out 0).trans rfl
   have e1 := (af KW.out 1).trans rfl
   go_wp2_with (first
    | ((with_reducible refine mO (.store 3 (.tmp 20) (.tmp 18)) rfl ?_); go_loud (refine gQ (w0 := w0) rfl rfl 3 (.tmp 20) (.tmp 18) rfl (g := gw) (j := 0) (base := w0.heap.size) #[.int .i64 (wrap64 (n + 1)), .slice Av ls.length cv] (u := .int .i64 (wrap64 (n + 1))) (bu := [.int .i64 (wrap64 (n + 1))]) ?sA ?sX rfl ?sT ?s1 KW.out ?sJ rfl HB.out HB.out.size HGW.out ?_; (case sA => rfl); (case sX => rfl); (case sT => rfl); (case s1 => (simp [Value.oneCell'])); (case sJ => (first | decide | simp)); intro ws hbk hbb hgg; have oO := ae.mk (Kd.Gt RV.out rfl hgg (fun k_ hk => hk ▸ Kd.Be RV.out KW.out (by decide))); have Pz := ae.mk (Kd.Gt HU.out rfl hgg (fun k_ hk => hk ▸ Kd.Be HU.out KW.out (by decide))); have oN := ae.mk (FR.out.trans (Fr.store hgg)); have pO := ae.mk (bT ng.out hgg (fun e_ => absurd (Option.some.inj e_) YH.out)); have wU := ae.mk (bT df.out hgg (fun e_ => absurd (Option.some.inj e_) NE3.out)); clear RV HU FR ng df; have RV := oO; have HU := Pz; have FR := oN; have ng := pO; have df := wU; clear oO Pz oN pO wU; clear KW HB d0 e0 e1; have KW := ae.mk hbk; have HB := ae.mk hbb; clear hbk hbb hgg))
    | fail)
   have hb : Below ws.heap.size ws ws.drew := bz (Below.refl _ _)
   have dm := ae.mk (ak HB.out hb); have qC := ae.mk (aN KW.out hb); have oO := ae.mk (Kd.mi RV.out hb); have oN := ae.mk (FR.out.trans (Fr.below hb)); have pO := ae.mk (aN ng.out hb); have wU := ae.mk (aN df.out hb); have Pz := ae.mk (Kd.mi HU.out hb); clear HB KW RV FR ng df HU; have HB := dm; have KW := qC; have RV := oO; have FR := oN; have ng := pO; have df := wU; have HU := Pz; clear dm qC oO oN pO wU Pz
   clear hb
   refine kX (n := 10) (S := fun w' => Below w0.heap.size w0 w' ∧ w'.heap[b2]? = some (.cells #[.pointer (some ⟨gw, 0, none⟩)] 180 (0, 0)) ∧ w'.heap[gw]? = some (.cells #[.int .i64 (wrap64 (n + 1)), .slice Av ls.length cv] 182 (0, 0))) (ds := [9]) (bA 10 0) (by kernel_rfl) rfl rfl ⟨HB.out, ng.out, KW.out⟩ (fun hHeld => ?_); refine ik qQ.PO qQ.Ie (fun az fZ => ?_)
   generalize ws.drew = wd at HB KW RV FR ng df HU hHeld ⊢
   refine eQ 0 21 (bA 10 1) az fZ hHeld ?_ (hv := by intro w' hs_; have c := (af hs_.2.1 0).trans rfl; go_simp; with_reducible rfl)
   refine eQ 1 22 (bA 10 3) az fZ hHeld ?_ (hv := by intro w' hs_; have c := (af hs_.2.1 0).trans rfl; go_simp; with_reducible rfl)
   refine aJ 2 23 (bA 10 7) az ?_
   refine aJ 3 24 (bA 10 15) az ?_
   refine eQ 4 25 (bA 10 31) az fZ hHeld ?_ (hv := by intro w' hs_; have c := (af hs_.2.2 1).trans rfl; go_simp; with_reducible rfl)
   refine aJ 5 26 (bA 10 63) az ?_
   refine kW 6 (some 27) (bA 10 127) az (fun K hK => ?_)
   refine Kd.DJ k23 (w0 := w0) w0.heap.size (by rfl) (.tmp 25) (.tmp 26) 42 23 (.agg #[(.int .i64 0), (.int .i64 0), (.int .i64 0), (.int .i64 0)]) 32 rfl Try.underlying42 info23 rfl (by decide) (by omega) (.slice Av ls.length cv) ls us Au us.length cu (fun _ => True) (fun _ => False) rfl rfl RV.out (Kd.gy HU.out).2.2 (fun _ _ h => h) (fun _ h => h.elim) (fun _ _ => trivial) HB.out HB.out.size (by have h1 := Qj.out; have h2 := kF.out; have h3 := HJ.out; have h4 := HN.out; omega) ?_
   intro v1 wk ho hb hg hat
   have q1 := ae.mk (FR.out.trans (Fr.append RV.out hg))
   have q2 := ae.mk (bT ng.out hg (Kd.Be RV.out ng.out (by decide)))
   have q3 := ae.mk (bT df.out hg (Kd.Be RV.out df.out (by decide)))
   have q4 := ae.mk (bT KW.out hg (Kd.Be RV.out KW.out (by decide)))
   clear FR ng df KW HB RV HU
   have FR := q1
   have ng := q2
   have df := q3
   have KW := q4
   have HB := ae.mk hb
   have RV := ae.mk ho
   clear q1 q2 q3 q4 hb ho hg hat
   obtain ⟨A1, c1, e1⟩ := Kd.jw RV.out
   subst e1
   refine hK.out _ _ ⟨HB.out, ng.out, KW.out⟩ (fun hHeld => ?_)
   clear hK K
   refine fJ 27 ?_
   refine aJ 7 28 (bA 10 255) az ?_
   refine aJ 8 29 (bA 10 511) az ?_
   refine uZ 9 none (bA 10 1023) az (fun K hK => ?_)
   obtain ⟨w9, Es⟩ : ∃ w9, w9 = wk.setCells gw 1 [.slice A1 (ls ++ us).length c1] := ⟨_, rfl⟩
   have hst := qK (j := 1) (cs' := #[.int .i64 (wrap64 (n + 1)), .slice A1 (ls ++ us).length c1]) (bu := [.slice A1 (ls ++ us).length c1]) KW.out (by first | decide | simp) rfl
   rw [← Es] at hst
   refine I9 (w1 := w9) (by rfl) rfl ?_ ?_
   ·rw [Es]; exact Dn 42 (.tmp 29) (.tmp 27) rfl (cs := #[.int .i64 (wrap64 (n + 1)), .slice Av ls.length cv]) (t0 := 182) (bu := [.slice A1 (ls ++ us).length c1]) rfl rfl rfl (by kernel_rfl) (by simp [Value.oneCell']) KW.out (by first | decide | simp)
   have M_ := ae.mk (grown_below HB.out hst.2 HGW.out HB.out.size)
   have RV9 := ae.mk (Kd.Gt RV.out rfl hst.2 (fun k_ hk => hk ▸ Kd.Be RV.out KW.out (by decide)))
   have FR9 := ae.mk (FR.out.trans (Fr.store hst.2))
   have K29 := ae.mk (bT ng.out hst.2 (fun e_ => absurd (Option.some.inj e_) YH.out))
   have K39 := ae.mk (bT df.out hst.2 (fun e_ => absurd (Option.some.inj e_) NE3.out))
   have KW9 := ae.mk hst.1
   clear hst
   refine hK.out _ _ ?_
   clear hK K Es
   refine nz (jK az.out (by kernel_rfl)) ?_
   have c6 := (af K39.out 6).trans rfl
   cases p
   all_goals
    go_wp2_with fail
    refine (RJ.out b2 (j + us.length) _ YH.out K29.out ⟨M_.out, _, _, _, KW9.out, RV9.out, by have := Qj.out; rw [List.length_append]; omega⟩ (by have := kF.out; omega)).mono ?_
    rintro e w2 ⟨rfl, hi, hf⟩
    have HI := ae.mk hi
    have HF := ae.mk (FR9.out.trans hf)
    clear hi hf
    go_wp2
    go_ret
    exact ⟨rfl, HI.out, HF.out⟩
theorem aeQ : (Try.prog.info? 9).map (fun i => (i.zero, i.size, i.bytes)) = some (some (.string ⟨#[]⟩), 1, 16) := by kernel_rfl
theorem V5 (e at_ : Int) (he : e ≠ 0) (w : World) : Calls Try.prog 196 #[.int .i64 e, .int .i64 at_] w fun x w' => (∃ t v, x = .returned (.iface t v)) ∧ Below w.heap.size w w' := by
 have hb : (e == 0) = false := beq_eq_false_iff_ne.mpr he
 clear he
 go_enter Try.func196, Try.ntmps196
 go_wp2
 go_ret
 exact ⟨⟨_, _, rfl⟩, aX (Below.refl _ _) _⟩
theorem Xr (ad : Addr) (c0 : Nat) (l0 : List ByteArray) (hl : l0.length ≤ 1000) (w : World) (hr0 : Kd.C Kd.string w (some ad) l0.length l0) (hc0 : l0.length ≤ c0) :
  Calls Try.prog 205 #[.slice (some ad) l0.length c0] w fun e w' => ∃ A n c, e = .returned (.slice A n c) ∧ Below w.heap.size w w' := by
 have heq : ∀ W : World, (binOp .eql 190 (.slice (some ad) l0.length c0) (.slice none 0 0)).run Try.prog W = .ok (.bool false) W := fun W => Lib.run_eql_slice_nil W 190 9 (some ad) l0.length c0 0 0 Try.underlying190
 have HR := ae.mk hr0
 have HL := ae.mk hl
 clear hl hr0
 go_enter Try.func205, Try.ntmps205
 go_wp2_with (first | ((with_reducible refine au (N := 5) rfl ?_); refine Kd.xP Kd.string w.heap.size 9 ?hg (N := 5) ?hd (xs := ([] : List ByteArray)) (inner := []) (ok := fun _ => True) (fG := fun _ => True) ?hr ?hp (fun _ hk => hk) trivial (Below.refl _ _) (Nat.le_refl _) (by simp) ?_; (case hd => rfl); (case hg => rfl); (case hr => (go_simp; done)); (case hp => exact bF.none _ _); intro v5 w5 ho hb qA kT; clear qA kT; have HO := ae.mk ho; have HB := ae.mk hb; clear ho hb; obtain ⟨Ao, co, eo⟩ := Kd.jw HO.out; subst eo) | ((with_reducible refine oL (b := .append) (xs := #[.tmp 5, .tmp 6]) rfl ?_); at_builtin; refine Kd.rE (Rr := Kd.string.K w) Kd.string (w0 := w) w.heap.size rfl (.tmp 5) (.tmp 6) 190 9 (.string ⟨#[]⟩) 16 rfl Try.underlying190 aeQ rfl (by decide) (by omega) (.slice Ao ([] : List ByteArray).length co) ([] : List ByteArray) l0 _ _ _ (fun _ => True) (fun _ => False) rfl rfl HO.out ?aR (fun _ _ h => h) (fun _ h => h.elim) (fun _ _ => trivial) HB.out HB.out.size ?aL ?_; (case aR => exact Kd.eY HR.out HB.out); (case aL => have := HL.out; simp; omega); intro v7 w7 ho hb qA ahX; have HO7 := ae.mk ho; have HB7 := ae.mk hb; clear ho hb qA ahX))
 obtain ⟨A7, c7, e7⟩ := Kd.jw HO7.out
 subst e7
 go_ret
 exact ⟨_, _, _, rfl, HB7.out⟩
theorem YX (tv : TypeId) (v : Value) (ad : Addr) (c0 : Nat) (x : ByteArray) (w : World) (hr0 : Kd.C Kd.string w (some ad) 1 [x]) (hc0 : 1 ≤ c0) :
  Calls Try.prog 195 #[.iface tv v, .slice (some ad) 1 c0] w fun e w' => (∃ t u, e = .returned (.iface t u)) ∧ Below w.heap.size w w' := by
 have HCl := ae.mk (Xr ad c0 [x] (by simp) w hr0 hc0)
 clear hr0
 go_enter Try.func195, Try.ntmps195
 go_wp2_with fail
 refine HCl.out.mono ?_
 rintro e w' ⟨A, n, c, rfl, hb⟩
 have HB := ae.mk hb
 clear hb
 go_wp2
 go_ret
 exact ⟨⟨_, _, rfl⟩, aX HB.out _⟩
section
variable {σ : Type} (step : σ → ai → Bool × σ)
mutual
def rU : ai → σ → Bool × σ
 | ⟨a, b, d, l⟩, s => if (step s ⟨a, b, d, l⟩).1 = true then r_ l (step s ⟨a, b, d, l⟩).2 else (false, (step s ⟨a, b, d, l⟩).2)
def r_ : List ai → σ → Bool × σ
 | [], s => (true, s)
 | k :: ks, s => if (rU k s).1 = true then r_ ks (rU k s).2 else (false, (rU k s).2)
end
theorem Qs (c : ai) (s : σ) : rU step c s = if (step s c).1 = true then r_ step c.f3 (step s c).2 else (false, (step s c).2) := by cases c; simp [rU]
theorem EC (s : σ) : r_ step [] s = (true, s) := by simp [r_]
theorem IW (k : ai) (ks : List ai) (s : σ) : r_ step (k :: ks) s = if (rU step k s).1 = true then r_ step ks (rU step k s).2 else (false, (rU step k s).2) := by simp [r_]
theorem Wv : ∀ (l : List ai) (s : σ), sD (fun s k => (!(rU step k s).1, (rU step k s).2)) s l = (!(r_ step l s).1, (r_ step l s).2) := by
 intro l
 induction l with
 | nil => intro s; rw [EC]; rfl
 | cons k ks ih =>
  intro s
  rw [IW]
  simp only [sD]
  cases h : (rU step k s).1 with
  | true => simp [ih]
  | false => simp
def uA : List ai → σ → Bool × σ
 | [], s => (true, s)
 | k :: ks, s => if (step s k).1 = true then uA ks (step s k).2 else (false, (step s k).2)
theorem Yk : ∀ (a b : List ai) (s : σ), uA step (a ++ b) s = if (uA step a s).1 = true then uA step b (uA step a s).2 else (false, (uA step a s).2) := by
 intro a
 induction a with
 | nil => intro b s; simp [uA]
 | cons k ks ih =>
  intro b s
  simp only [List.cons_append, uA]
  by_cases h : (step s k).1 = true
  ·simp [h, ih]
  ·simp [h]
theorem Xc : ∀ (N : Nat), (∀ c : ai, sz c ≤ N → ∀ s, rU step c s = uA step (fK c) s) ∧ (∀ l : List ai, dO l ≤ N → ∀ s, r_ step l s = uA step (allL l) s) := by
 intro N
 induction N with
 | zero =>
  refine ⟨fun c h => ?_, fun l h => ?_⟩
  ·rw [bP] at h; omega
  ·cases l with
   | nil => intro s; rw [EC, lh]; rfl
   | cons x xs => rw [bJ, bP] at h; omega
 | succ N ih =>
  have hC : ∀ c : ai, sz c ≤ N + 1 → ∀ s, rU step c s = uA step (fK c) s := by
   intro c h s
   rw [bP] at h
   rw [Qs, lC]
   simp only [uA]
   rw [ih.2 c.f3 (by omega)]
  refine ⟨hC, fun l => ?_⟩
  induction l with
  | nil => intro _ s; rw [EC, lh]; rfl
  | cons x xs ihl =>
   intro h s
   rw [bJ] at h
   rw [IW, iK, Yk, hC x (by omega), ihl (by omega)]
end
theorem aeP {σ : Type} (Inv : σ → World → Prop) (step : σ → ai → Bool × σ) (g : Nat) (lb : Array Value) (eg : ∀ args w, (callFunc g args).run Try.prog w = .ok (.enter g args) w) (l : List ai) (A : Option Addr) (c : Nat)
  (w0 : World) (hR : Kd.C k26 w0 A l.length l) (hW : ∀ s W, Inv s W → Below w0.heap.size w0 W) (hD : ∀ s W n, Inv s W → Inv s (W.drewN n))
  (hcall : ∀ s W (x : ai) (B : Option Addr) (cb : Nat), x ∈ l → Inv s W → Kd.C k26 w0 B x.f3.length x.f3 → x.f3.length ≤ cb → Calls Try.prog g (#[.agg #[.int .u8 x.f0, .int .i64 x.f1.f0, .int .i64 x.f1.f1, .int .i64 x.f1.f2, .int .i64 x.f1.f3, .int .i64 x.f2, .slice B x.f3.length cb]] ++ lb) W fun e w' => e = .returned (.bool (step s x).1) ∧ Inv (step s x).2 w')
  (s : σ) (w : World) (hI : Inv s w) (hl : l.length ≤ 9223372036854775807) :
  Calls Try.prog 192 #[.slice A l.length c, .func (.func g) #[] lb] w fun e w' => e = .returned (.int .i64 (lG step 0 s l).1) ∧ Inv (lG step 0 s l).2 w' := by
 have HR := ae.mk hR
 have HW := ae.mk hW
 have HI := ae.mk hI
 have vZ := ae.mk hcall
 clear hR hW hcall hD hI
 go_enter Try.func192, Try.ntmps192
 go_wp2
 go_loopg [5, 8] l.length (fun gg _ v8 wr => ∃ (kk : Nat) (t : σ), kk ≤ l.length ∧ l.length - kk ≤ gg ∧ v8 = .int .i64 kk ∧ ae (Inv t wr) ∧ ae (lG step 0 s l = lG step kk t (l.drop kk)))
 case atStart => exact ⟨0, s, Nat.zero_le _, by omega, rfl, HI, ⟨by simp⟩⟩
 case round =>
  clear HI
  obtain ⟨kk, t, hkk, hg, rfl, HI, HS⟩ := hrel
  by_cases hlt : kk < l.length
  ·have hltz : (kk : Int) < (l.length : Int) := by omega
   obtain ⟨ad, B, cb, rfl, hc0, hc1, hc2, hc3, hc4, hc5, hc6, hlb, hgb⟩ := pG HR.out (kk : Int) (by omega) (by omega)
   have hbw := HW.out t wr HI.out
   replace hc0 := (hbw.cell (World.block_lt_of_cell? w0 _ hc0)).trans hc0
   replace hc1 := (hbw.cell (World.block_lt_of_cell? w0 _ hc1)).trans hc1
   replace hc2 := (hbw.cell (World.block_lt_of_cell? w0 _ hc2)).trans hc2
   replace hc3 := (hbw.cell (World.block_lt_of_cell? w0 _ hc3)).trans hc3
   replace hc4 := (hbw.cell (World.block_lt_of_cell? w0 _ hc4)).trans hc4
   replace hc5 := (hbw.cell (World.block_lt_of_cell? w0 _ hc5)).trans hc5
   replace hc6 := (hbw.cell (World.block_lt_of_cell? w0 _ hc6)).trans hc6
   clear hbw
   have HX : ae (lG step kk t (l.drop kk) = if (step t (aj l (kk : Int))).1 = true then ((kk : Int), (step t (aj l (kk : Int))).2) else lG step ((kk + 1 : Nat) : Int) (step t (aj l (kk : Int))).2 (l.drop (kk + 1))) := ⟨Ri step z26 l kk hlt t⟩
   have hmem : (aj l (kk : Int)) ∈ l := Di z26 l kk hlt
   have hcall := vZ.out t wr _ B cb hmem HI.out hgb hlb
   clear hmem hgb hlb
   simp only [Int.toNat_natCast] at hc0 hc1 hc2 hc3 hc4 hc5 hc6
   generalize aj l (kk : Int) = x at hc0 hc1 hc2 hc3 hc4 hc5 hc6 HX hcall
   have HC := ae.mk hcall
   clear hcall
   cases hq : (step t x).1 with
   | true =>
    have h := HC.out
    rw [hq] at h
    have HH := ae.mk h
    have HQ := ae.mk hq
    clear hq HC h
    go_wp2_with fail
    refine HH.out.mono ?_
    rintro e w' ⟨rfl, hb'⟩
    have HB := ae.mk hb'
    clear hb'
    go_wp2
    go_ret
    rw [HS.out, HX.out, if_pos HQ.out]
    exact ⟨rfl, HB.out⟩
   | false =>
    have h := HC.out
    rw [hq] at h
    have HH := ae.mk h
    have HQ := ae.mk hq
    clear hq HC h
    go_wp2_with fail
    refine HH.out.mono ?_
    rintro e w' ⟨rfl, hb'⟩
    have HB := ae.mk hb'
    clear hb'
    go_wp2
    go_roundg (l.length - (kk + 1))
    case measure => omega
    case rel =>
     refine ⟨kk + 1, (step t x).2, by omega, by omega, by go_num, HB, ⟨?_⟩⟩
     rw [HS.out, HX.out, if_neg (by rw [HQ.out]; simp)]
  ·have hltz : ¬ (kk : Int) < (l.length : Int) := by omega
   go_wp2
   go_ret
   rw [HS.out, List.drop_eq_nil_of_le (by omega)]
   exact ⟨rfl, HI.out⟩
theorem UQ {σ : Type} (Inv : σ → World → Prop) (step : σ → ai → Bool × σ) (g : Nat) (lb : Array Value) (eg : ∀ args w, (callFunc g args).run Try.prog w = .ok (.enter g args) w) (l : List ai) (A : Option Addr) (c : Nat)
  (w0 : World) (hR : Kd.C k26 w0 A l.length l) (hW : ∀ s W, Inv s W → Below w0.heap.size w0 W) (hD : ∀ s W n, Inv s W → Inv s (W.drewN n))
  (hcall : ∀ s W (x : ai) (B : Option Addr) (cb : Nat), x ∈ l → Inv s W → Kd.C k26 w0 B x.f3.length x.f3 → x.f3.length ≤ cb → Calls Try.prog g (#[.agg #[.int .u8 x.f0, .int .i64 x.f1.f0, .int .i64 x.f1.f1, .int .i64 x.f1.f2, .int .i64 x.f1.f3, .int .i64 x.f2, .slice B x.f3.length cb]] ++ lb) W fun e w' => e = .returned (.bool (step s x).1) ∧ Inv (step s x).2 w')
  (s : σ) (w : World) (hI : Inv s w) (hl : l.length ≤ 9223372036854775807) :
  Calls Try.prog 174 #[.slice A l.length c, .func (.func g) #[] lb] w fun e w' => e = .returned (.bool (sD step s l).1) ∧ Inv (sD step s l).2 w' := by
 have hi := aeP Inv step g lb eg l A c w0 hR hW hD hcall s w hI hl
 rw [PK]
 clear hR hW hD hcall hI
 generalize lG step 0 s l = r at hi
 have HI := ae.mk hi
 clear hi
 go_enter Try.func174, Try.ntmps174
 go_wp2_with fail
 refine HI.out.mono ?_
 rintro e w' ⟨rfl, hb'⟩
 have HB := ae.mk hb'
 clear hb'
 go_wp2
 go_ret
 exact ⟨rfl, HB.out⟩
theorem Q8 (l : List ai) (A : Option Addr) (c : Nat) (g : Nat) (lb : Array Value) (Q : World → Prop) (b : Bool) (w : World)
  (h : Calls Try.prog 174 #[.slice A l.length c, .func (.func g) #[] lb] w fun e w' => e = .returned (.bool b) ∧ Q w') (hD : ∀ W n, Q W → Q (W.drewN n)) :
  Calls Try.prog 142 #[.slice A l.length c, .func (.func g) #[] lb] w fun e w' => e = .returned (.bool (!b)) ∧ Q w' := by
 have H := ae.mk h
 clear h hD
 cases b
 all_goals
  go_enter Try.func142, Try.ntmps142
  go_wp2_with fail
  refine H.out.mono ?_
  rintro e w' ⟨rfl, hb⟩
  have HB := ae.mk hb
  clear hb
  go_wp2
  go_ret
  exact ⟨rfl, HB.out⟩
structure Kp (S : Nat → Prop) (W W' : World) : Prop where
 size : W.heap.size ≤ W'.heap.size
 blk : ∀ k, k < W.heap.size → ¬ S k → W'.heap[k]? = W.heap[k]?
theorem Kp.refl (S : Nat → Prop) (W : World) : Kp S W W := ⟨Nat.le_refl _, fun _ _ _ => rfl⟩
theorem Kp.trans {S : Nat → Prop} {W W1 W2 : World} (h : Kp S W W1) (k : Kp S W1 W2) : Kp S W W2 := ⟨Nat.le_trans h.size k.size, fun i hi hs => (k.blk i (Nat.lt_of_lt_of_le hi h.size) hs).trans (h.blk i hi hs)⟩
theorem Kp.below {S : Nat → Prop} {W W1 : World} (h : Below W.heap.size W W1) : Kp S W W1 := ⟨h.size, fun i hi _ => h.block i hi⟩
theorem Kp.at {S : Nat → Prop} {W W1 : World} {g : Nat} {o : Obj} (h : Kp S W W1) (hb : W.heap[g]? = some o) (hs : ¬ S g) : W1.heap[g]? = some o := (h.blk g (fU hb) hs).trans hb
theorem ads (x : ai) (B : Option Addr) (cb g : Nat) (lb : Array Value) (b3 : Nat) (r : Bool) (R : World → Prop) (W : World) (hk : W.heap[b3]? = some (.cells #[.func (.func g) #[] lb] 27 (0, 0)))
  (h : ∀ W1, Below W.heap.size W W1 → Calls Try.prog 175 #[.agg #[.int .u8 x.f0, .int .i64 x.f1.f0, .int .i64 x.f1.f1, .int .i64 x.f1.f2, .int .i64 x.f1.f3, .int .i64 x.f2, .slice B x.f3.length cb], .func (.func g) #[] lb] W1 fun e w' => e = .returned (.bool r) ∧ R w') :
  Calls Try.prog 193 (#[.agg #[.int .u8 x.f0, .int .i64 x.f1.f0, .int .i64 x.f1.f1, .int .i64 x.f1.f2, .int .i64 x.f1.f3, .int .i64 x.f2, .slice B x.f3.length cb]] ++ #[.pointer (some ⟨b3, 0, none⟩)]) W fun e w' => e = .returned (.bool (!r)) ∧ R w' := by
 have HK := ae.mk hk
 have H := ae.mk h
 clear hk h
 simp only [List.append_toArray, List.cons_append, List.nil_append]
 cases r
 all_goals
  go_enter Try.func193, Try.ntmps193
  go_wp2_with (((with_reducible refine au (N := 2) rfl ?_); refine aG ?hg (N := 2) ?hd (cs := #[.int .u8 x.f0, .int .i64 x.f1.f0, .int .i64 x.f1.f1, .int .i64 x.f1.f2, .int .i64 x.f1.f3, .int .i64 x.f2, .slice B x.f3.length cb]) (t := 26) ?hr ?_; (case hd => rfl); (case hg => rfl); (case hr => (go_simp; done)); intro b2 hg w2 hbox hb; have HB := ae.mk hb; have K2 := ae.mk hbox; have K3 := ae.mk (aN HK.out hb); clear hb hbox hg; have c0 := (af K2.out 0).trans rfl; have c1 := (af K2.out 1).trans rfl; have c2 := (af K2.out 2).trans rfl; have c3 := (af K2.out 3).trans rfl; have c4 := (af K2.out 4).trans rfl; have c5 := (af K2.out 5).trans rfl; have c6 := (af K2.out 6).trans rfl; have d0 := (af K3.out 0).trans rfl))
  clear c0 c1 c2 c3 c4 c5 c6 d0
  refine (H.out _ HB.out).mono ?_
  rintro e w' ⟨rfl, hR⟩
  have HR := ae.mk hR
  clear hR
  go_wp2
  go_ret
  exact ⟨rfl, HR.out⟩
theorem acW {σ : Type} (S : Nat → Prop) (Inv : σ → World → Prop) (step : σ → ai → Bool × σ) (g : Nat) (lb : Array Value) (eg : ∀ args w, (callFunc g args).run Try.prog w = .ok (.enter g args) w) (w0 : World)
  (hW : ∀ s W, Inv s W → Below w0.heap.size w0 W) (hB : ∀ s W W', Inv s W → Below W.heap.size W W' → Inv s W') (hS : ∀ s W, Inv s W → ∀ k, S k → k < W.heap.size)
  (hcall : ∀ s W (x : ai) (B : Option Addr) (cb : Nat), Inv s W → Kd.C k26 w0 B x.f3.length x.f3 → x.f3.length ≤ cb → Calls Try.prog g (#[.agg #[.int .u8 x.f0, .int .i64 x.f1.f0, .int .i64 x.f1.f1, .int .i64 x.f1.f2, .int .i64 x.f1.f3, .int .i64 x.f2, .slice B x.f3.length cb]] ++ lb) W fun e w' => e = .returned (.bool (step s x).1) ∧ Inv (step s x).2 w' ∧ Kp S W w') :
  ∀ (N : Nat) (c : ai), sz c ≤ N → ∀ (A : Option Addr) (cc : Nat), Kd.C k26 w0 A c.f3.length c.f3 → c.f3.length ≤ cc → ∀ s W, Inv s W →
   Calls Try.prog 175 #[.agg #[.int .u8 c.f0, .int .i64 c.f1.f0, .int .i64 c.f1.f1, .int .i64 c.f1.f2, .int .i64 c.f1.f3, .int .i64 c.f2, .slice A c.f3.length cc], .func (.func g) #[] lb] W fun e w' => e = .returned (.bool (rU step c s).1) ∧ Inv (rU step c s).2 w' ∧ Kp S W w' := by
 intro N
 induction N with
 | zero => intro c h; rw [bP] at h; omega
 | succ N ih =>
  intro c hc A cc hr hlc s W hI
  have hsz := bP c
  have YV : ∀ (b3 : Nat) (s1 : σ) (W1 : World), Inv s1 W1 → W1.heap[b3]? = some (.cells #[.func (.func g) #[] lb] 27 (0, 0)) → ¬ S b3 →
    Calls Try.prog 142 #[.slice A c.f3.length cc, .func (.func 193) #[] #[.pointer (some ⟨b3, 0, none⟩)]] W1 fun e w' => e = .returned (.bool (r_ step c.f3 s1).1) ∧ Inv (r_ step c.f3 s1).2 w' ∧ Kp S W1 w' := by
   intro b3 s1 W1 hI1 hk3 hs3
   have hcon := UQ (fun t w' => Inv t w' ∧ Kp S W1 w') (fun t k => (!(rU step k t).1, (rU step k t).2)) 193 #[.pointer (some ⟨b3, 0, none⟩)] (qL Try.func193 (by decide +kernel) (by kernel_rfl)) c.f3 A cc w0 hr (fun t w' h => hW t w' h.1)
    (fun t w' n h => ⟨hB t w' _ h.1 (aV (Below.refl _ _) n), h.2.trans (Kp.below (aV (Below.refl _ _) n))⟩)
    (fun t w' x B cb hx h hCx hlx => by
     refine ads x B cb g lb b3 _ _ w' (h.2.at hk3 hs3) (fun W2 hb2 => ?_)
     refine (ih x ?_ B cb hCx hlx t W2 (hB t w' W2 h.1 hb2)).mono fun e w'' ⟨he, hi, hk⟩ => ⟨he, hi, (h.2.trans (Kp.below hb2)).trans hk⟩
     have : sz x ≤ dO c.f3 := by
      obtain ⟨p, q, e⟩ := List.append_of_mem hx
      rw [e, jX, bJ]; omega
     omega) s1 W1 ⟨hI1, Kp.refl S W1⟩ hr.2.1
   rw [Wv] at hcon
   have := Q8 c.f3 A cc 193 _ _ _ W1 hcon (fun w' n h => ⟨hB _ w' _ h.1 (aV (Below.refl _ _) n), h.2.trans (Kp.below (aV (Below.refl _ _) n))⟩)
   rw [Bool.not_not] at this
   exact this
  have adQ : ∀ k, S k → k < W.heap.size := hS s W hI
  have hE := Qs step c s
  have hcl := fun W1 (h : Inv s W1) => hcall s W1 c A cc h hr hlc
  rcases hst : step s c with ⟨q, s1⟩
  rw [hst] at hE hcl
  simp only [] at hE hcl
  rw [hE]
  have HN := ae.mk fun b3 W1 => YV b3 s1 W1
  have HI := ae.mk hI
  have vZ := ae.mk hcl
  have Yy := ae.mk hB
  have HS := ae.mk hS
  have HS0 := ae.mk adQ
  have HK := ae.mk (Kp.refl S W)
  clear YV hI hcall hB hS ih hr hlc hsz hc hW hE hcl hst adQ
  obtain ⟨ck, ⟨cx, cy, cw, ch⟩, aQ, l⟩ := c
  simp only [] at HN vZ ⊢
  generalize r_ step l s1 = ns at HN ⊢
  obtain ⟨n1, n2⟩ := ns
  cases q with
  | false =>
   simp only [Bool.false_eq_true, if_false]
   clear HN
   go_enter Try.func175, Try.ntmps175
   go_wp2_with (first | ((with_reducible refine au (N := 2) rfl ?_); refine aG ?hg (N := 2) ?hd (cs := #[.int .u8 ck, .int .i64 cx, .int .i64 cy, .int .i64 cw, .int .i64 ch, .int .i64 aQ, .slice A l.length cc]) (t := 26) ?hr ?_; (case hd => rfl); (case hg => rfl); (case hr => (go_simp; done)); intro b2 hg Zg hbox hb; have K2 := ae.mk hbox; have HS2 := ae.mk (show ¬ b2 < W.heap.size by rw [hg]; exact Nat.lt_irrefl _); have ed := ae.mk (Yy.out _ _ _ HI.out hb); have fB := ae.mk (HK.out.trans (Kp.below hb)); clear HI HK; have HI := ed; have HK := fB; clear ed fB; clear hb hbox hg) | ((with_reducible refine au (N := 3) rfl ?_); refine aG ?hg (N := 3) ?hd (cs := #[.func (.func g) #[] lb]) (t := 27) ?hr ?_; (case hd => rfl); (case hg => rfl); (case hr => (go_simp; done)); intro b3 hg WQ hbox hb; have K3 := ae.mk hbox; have iL := ae.mk (aN K2.out hb); have NS := ae.mk (fun h => Nat.lt_irrefl _ (Nat.lt_of_lt_of_le (hg ▸ HS.out _ _ HI.out b3 h) (Nat.le_refl _)) : ¬ S b3); have NS2 := ae.mk (fun h => HS2.out (HS0.out b2 h) : ¬ S b2); clear K2; have K2 := iL; clear iL; have ed := ae.mk (Yy.out _ _ _ HI.out hb); have fB := ae.mk (HK.out.trans (Kp.below hb)); clear HI HK; have HI := ed; have HK := fB; clear ed fB; clear hb hbox hg; have c0 := (af K2.out 0).trans rfl; have c1 := (af K2.out 1).trans rfl; have c2 := (af K2.out 2).trans rfl; have c3 := (af K2.out 3).trans rfl; have c4 := (af K2.out 4).trans rfl; have c5 := (af K2.out 5).trans rfl; have c6 := (af K2.out 6).trans rfl; have d0 := (af K3.out 0).trans rfl))
   clear c0 c1 c2 c3 c4 c5 c6 d0
   refine (vZ.out _ HI.out).mono ?_
   rintro e w' ⟨rfl, hi, hk⟩
   have HI' := ae.mk hi
   have HK' := ae.mk (HK.out.trans hk)
   clear hi hk
   go_wp2
   go_ret
   exact ⟨rfl, HI'.out, HK'.out⟩
  | true =>
   simp only [if_true]
   cases n1
   all_goals
    go_enter Try.func175, Try.ntmps175
    go_wp2_with (first | ((with_reducible refine au (N := 2) rfl ?_); refine aG ?hg (N := 2) ?hd (cs := #[.int .u8 ck, .int .i64 cx, .int .i64 cy, .int .i64 cw, .int .i64 ch, .int .i64 aQ, .slice A l.length cc]) (t := 26) ?hr ?_; (case hd => rfl); (case hg => rfl); (case hr => (go_simp; done)); intro b2 hg Zg hbox hb; have K2 := ae.mk hbox; have HS2 := ae.mk (show ¬ b2 < W.heap.size by rw [hg]; exact Nat.lt_irrefl _); have ed := ae.mk (Yy.out _ _ _ HI.out hb); have fB := ae.mk (HK.out.trans (Kp.below hb)); clear HI HK; have HI := ed; have HK := fB; clear ed fB; clear hb hbox hg) | ((with_reducible refine au (N := 3) rfl ?_); refine aG ?hg (N := 3) ?hd (cs := #[.func (.func g) #[] lb]) (t := 27) ?hr ?_; (case hd => rfl); (case hg => rfl); (case hr => (go_simp; done)); intro b3 hg WQ hbox hb; have K3 := ae.mk hbox; have iL := ae.mk (aN K2.out hb); have NS := ae.mk (fun h => Nat.lt_irrefl _ (Nat.lt_of_lt_of_le (hg ▸ HS.out _ _ HI.out b3 h) (Nat.le_refl _)) : ¬ S b3); have NS2 := ae.mk (fun h => HS2.out (HS0.out b2 h) : ¬ S b2); clear K2; have K2 := iL; clear iL; have ed := ae.mk (Yy.out _ _ _ HI.out hb); have fB := ae.mk (HK.out.trans (Kp.below hb)); clear HI HK; have HI := ed; have HK := fB; clear ed fB; clear hb hbox hg; have c0 := (af K2.out 0).trans rfl; have c1 := (af K2.out 1).trans rfl; have c2 := (af K2.out 2).trans rfl; have c3 := (af K2.out 3).trans rfl; have c4 := (af K2.out 4).trans rfl; have c5 := (af K2.out 5).trans rfl; have c6 := (af K2.out 6).trans rfl; have d0 := (af K3.out 0).trans rfl))
    clear c0 c1 c2 c3 c4 c5 c6 d0
    refine (vZ.out _ HI.out).mono ?_
    rintro e w' ⟨rfl, hi, hk⟩
    have HI' := ae.mk hi
    have HK' := ae.mk (HK.out.trans hk)
    have K3' := ae.mk (hk.at K3.out NS.out)
    have K2' := ae.mk (hk.at K2.out NS2.out)
    clear hi hk
    have c6 : w'.cell? ⟨b2, 6, none⟩ = some (.slice A l.length cc) := (af K2'.out 6).trans rfl
    go_wp2_with fail
    clear c6
    refine (HN.out b3 w' HI'.out K3'.out NS.out).mono ?_
    rintro e w'' ⟨rfl, hi, hk⟩
    have HI2 := ae.mk hi
    have HK2 := ae.mk (HK'.out.trans hk)
    clear hi hk
    go_wp2
    go_ret
    exact ⟨rfl, HI2.out, HK2.out⟩
def wR (x : ai) : Bool := if x.f0 = 1 then decide (x.f3.length = 0) && (decide (0 ≤ x.f2) && decide (x.f2 ≤ 2147483647)) else if x.f0 = 2 ∨ x.f0 = 3 then decide (2 ≤ x.f3.length) && decide (x.f2 = 0) else false
theorem Ah (x : ai) : mP x = (wR x && lq x.f1) := by
 unfold mP wR
 by_cases h1 : x.f0 = 1
 ·simp [h1, Bool.and_comm, Bool.and_assoc]
 ·by_cases h2 : x.f0 = 2
  ·simp [h2, Bool.and_comm]
  ·by_cases h3 : x.f0 = 3
   ·simp [h3, Bool.and_comm]
   ·have : ¬ (1 ≤ x.f0 ∧ x.f0 ≤ 3) := by omega
    simp [h1, h2, h3, this]
def jm (s : Int × List Int) (x : ai) : Bool × (Int × List Int) :=
 if 20000 < wrap64 (s.1 + 1) then (false, (wrap64 (s.1 + 1), s.2))
 else if mP x = false then (false, (wrap64 (s.1 + 1), s.2))
 else if x.f0 = 1 then (if x.f2 ∈ s.2 then (false, (wrap64 (s.1 + 1), s.2)) else (true, (wrap64 (s.1 + 1), x.f2 :: s.2)))
 else (true, (wrap64 (s.1 + 1), s.2))
def lv (l : List ai) : List ai := l.filter fun x => decide (x.f0 = 1)
theorem VX : ∀ (rest pre : List ai), (pre ++ rest).length ≤ 1048576 → pre.length ≤ 20000 → dL (lv pre) = true →
  (uA jm rest ((pre.length : Int), ((lv pre).map (·.f2)).reverse)).1 = (decide (pre.length + rest.length ≤ 20000) && (rest.all mP && dL (lv (pre ++ rest)))) := by
 intro rest
 induction rest with
 | nil =>
  intro pre _ h2 h3
  simp [uA, h3]
  exact h2
 | cons x xs ih =>
  intro pre h1 h2 h3
  have hlen : (pre ++ x :: xs).length = pre.length + xs.length + 1 := by simp; omega
  have hw : wrap64 ((pre.length : Int) + 1) = ((pre.length + 1 : Nat) : Int) := (wq (by omega) (by omega)).trans (by omega)
  have hsp : pre ++ x :: xs = (pre ++ [x]) ++ xs := by simp
  simp only [uA]
  unfold jm
  simp only [hw]
  by_cases c1 : (20000 : Int) < ((pre.length + 1 : Nat) : Int)
  ·rw [if_pos c1]
   simp
   intro h
   omega
  ·rw [if_neg c1]
   cases c2 : mP x with
   | false => simp [c2]
   | true =>
    simp only [Bool.true_eq_false, if_false, List.all_cons, c2, Bool.true_and]
    have hl1 : (pre ++ [x]).length = pre.length + 1 := by simp
    have hcnt : decide (pre.length + (x :: xs).length ≤ 20000) = decide ((pre ++ [x]).length + xs.length ≤ 20000) := by
     rw [hl1, List.length_cons, decide_eq_decide]; omega
    rw [hcnt]
    by_cases c3 : x.f0 = 1
    ·rw [if_pos c3]
     have hlv : lv (pre ++ [x]) = lv pre ++ [x] := by simp [lv, c3]
     have hmem : x.f2 ∈ ((lv pre).map (·.f2)).reverse ↔ o8 (lv pre) x = false := by
      simp [o8]
      constructor
      ·rintro ⟨y, hy, e⟩; exact ⟨y, hy, e.symm⟩
      ·rintro ⟨y, hy, e⟩; exact ⟨y, hy, e.symm⟩
     by_cases c4 : x.f2 ∈ ((lv pre).map (·.f2)).reverse
     ·rw [if_pos c4]
      have hd : dL (lv (pre ++ x :: xs)) = false := by
       rw [hsp]
       unfold lv
       rw [List.filter_append]
       apply yV
       have : List.filter (fun x => decide (x.f0 = 1)) (pre ++ [x]) = lv pre ++ [x] := hlv
       rw [this, rG, hmem.1 c4, Bool.and_false]
      simp [hd]
     ·rw [if_neg c4]
      have ha : o8 (lv pre) x = true := by
       cases h : o8 (lv pre) x with
       | true => rfl
       | false => exact absurd (hmem.2 h) c4
      have e := ih (pre ++ [x]) (by rw [← hsp]; exact h1) (by rw [hl1]; omega) (by rw [hlv, rG, h3, ha]; rfl)
      rw [hlv, List.map_append, List.reverse_append, hl1, ← hsp] at e
      simp only [if_true]
      rw [hl1]
      exact e
    ·rw [if_neg c3]
     have hlv : lv (pre ++ [x]) = lv pre := by simp [lv, c3]
     have e := ih (pre ++ [x]) (by rw [← hsp]; exact h1) (by rw [hl1]; omega) (by rw [hlv]; exact h3)
     rw [hlv, hl1, ← hsp] at e
     simp only [if_true]
     rw [hl1]
     exact e
theorem Xb (c : ai) (h : sz c ≤ 1048576) : (rU jm c (0, [])).1 = lH c := by
 rw [(Xc jm (sz c)).1 c (Nat.le_refl _)]
 have e := VX (fK c) [] (by rw [List.nil_append]; exact h) (by simp) rfl
 have e2 : (uA jm (fK c) (0, [])).1 = (decide (0 + (fK c).length ≤ 20000) && ((fK c).all mP && dL (lv ([] ++ fK c)))) := e
 rw [e2, Nat.zero_add, List.nil_append]
 rfl
theorem X4 : ∀ (N : Nat) (l : List Int), l.Nodup → (∀ i ∈ l, 0 ≤ i ∧ i < (N : Int)) → l.length ≤ N := by
 intro N
 induction N with
 | zero =>
  intro l _ h
  cases l with
  | nil => simp
  | cons x xs => have := h x (by simp); omega
 | succ N ih =>
  intro l hn h
  have h1 := ih (l.filter fun i => decide (i ≠ (N : Int))) (hn.filter _) (fun i hi => by
   have h2 := List.mem_filter.1 hi
   have h3 := h i h2.1
   have h4 := of_decide_eq_true h2.2
   omega)
  have h5 : ∀ (m : List Int), m.Nodup → m.length ≤ (m.filter fun i => decide (i ≠ (N : Int))).length + 1 := by
   intro m
   induction m with
   | nil => intro _; simp
   | cons y ys ihm =>
    intro hm
    rw [List.nodup_cons] at hm
    by_cases hy : y = (N : Int)
    ·have : ys.filter (fun i => decide (i ≠ (N : Int))) = ys := by
      rw [List.filter_eq_self]
      intro i hi
      exact decide_eq_true (fun e => hm.1 (by rw [hy, ← e]; exact hi))
     rw [List.filter_cons_of_neg (by simp [hy]), this, List.length_cons]
     exact Nat.le_refl _
    ·rw [List.filter_cons_of_pos (by simpa using hy), List.length_cons, List.length_cons]
     have := ihm hm.2
     omega
  have := h5 l hn
  omega
def Hf (ids : List Int) : DataW Unit := ids.foldr (fun i D => D.put (.int .i64 i) (.lit (.bool true))) (.map [])
theorem Yl : ∀ ids : List Int, Maps.IsMap (Hf ids) := by
 intro ids
 induction ids with
 | nil => exact Maps.isMap_empty
 | cons x xs ih => exact Maps.IsMap.put ih _ _
theorem Rl (i : Int) : ∀ ids : List Int, (Hf ids).atKey (.int .i64 i) (.lit (.bool false)) = .lit (.bool (decide (i ∈ ids))) := by
 intro ids
 induction ids with
 | nil => rfl
 | cons x xs ih =>
  show (DataW.put (Hf xs) (.int .i64 x) (.lit (.bool true))).atKey (.int .i64 i) (.lit (.bool false)) = _
  by_cases h : i = x
  ·subst h
   rw [Maps.atKey_put_same (Yl xs) (by simp [WideAt.IsKeyLit])]
   simp
  ·rw [Maps.atKey_put_other (by intro e; injection e with _ e; exact h e), ih]
   simp [h]
structure mV (w0 : World) (bn bm B : Nat) (s : Int × List Int) (W : World) : Prop where
 hn : W.heap[bn]? = some (.cells #[.int .i64 s.1] 3 (0, 0))
 hm : W.heap[bm]? = some (.cells #[.map (some B)] 161 (0, 0))
 map : W.ownsMap (H := Unit) Try.prog 3 (plainElem Try.prog 4) B s.2.length (Hf s.2)
 below : Below w0.heap.size w0 W
 gn : w0.heap.size ≤ bn
 gB : w0.heap.size ≤ B
 nd : s.2.Nodup
 rg : ∀ i ∈ s.2, 0 ≤ i ∧ i ≤ 2147483647
theorem below_grown {W W' : World} (h : Below W.heap.size W W') : W.grownBy W' none := ⟨h.os, h.tape, h.output, h.size, fun k hk _ => h.block k hk⟩
theorem mV.step {w0 W W' : World} {bn bm B : Nat} {s : Int × List Int} (h : mV w0 bn bm B s W) (hb : Below W.heap.size W W') : mV w0 bn bm B s W' :=
 ⟨aN h.hn hb, aN h.hm hb, h.map.kept (below_grown hb) (by simp), ak h.below hb, h.gn, h.gB, h.nd, h.rg⟩
theorem mV.Y2 {w0 W : World} {bn bm B : Nat} {s : Int × List Int} (h : mV w0 bn bm B s W) : bn ≠ B ∧ bm ≠ B ∧ bm ≠ bn := by
 obtain ⟨es, cl, hB, _⟩ := h.map
 refine ⟨fun e => ?_, fun e => ?_, uC h.hm h.hn (by decide)⟩
 ·have := h.hn; rw [e, hB] at this; cases this
 ·have := h.hm; rw [e, hB] at this; cases this
def v_ (bn B : Nat) (k : Nat) : Prop := k = bn ∨ k = B
section
variable {P : Program} {ops : Array Oper} {rest : List Oper} {o : Oper} {a : Act} {Q : Exit → Act → World → Prop}
theorem F7 (w : World) (hg : o.guard = none) (m x : Operand) (t : TypeId) (hop : o.op = Op.lookup t m x false)
  (k e : TypeId) (K : Maps.Keyed P k) (ht : P.underlying t = some (.map k e)) (he : P.underlying e = some .bool) (hz : (zeroValue e).run P w = .ok (.bool false) w) (b n : Nat) (D : DataW Unit)
  (hm : a.eval m = .map (some b)) (hown : w.ownsMap P k (plainElem P e) b n D) (key : Value) (kl : Lit) (hx : a.eval x = key) (hkey : keyOf P k key = some kl) (r : Bool) (hr : D.atKey kl (.lit (.bool false)) = .lit (.bool r))
  (hK : wpList P ops Q rest (a.put o.dst (.bool r)) w) : wpList P ops Q (o :: rest) a w := by
 refine wpList_plain hg fun K' hK' => ?_
 obtain ⟨v, ps, hrun, hv⟩ := hown.lookup K ht hz (plainElem_bool he false) hkey
 have hv2 : v = .bool r := by
  rw [hr] at hv
  unfold plainElem at hv
  rw [he] at hv
  cases v with
  | bool q =>
   simp only [Option.some.injEq, Prod.mk.injEq, DataW.lit.injEq, Lit.bool.injEq] at hv
   rw [hv.1]
  | _ => cases hv
 subst hv2
 unfold Oper.wp
 simp [execOp, hop, hm, hx, hrun, Result.andThen]
 exact hK' _ _ hK
end
theorem BN (x : ai) (B : Option Addr) (cb : Nat) (w : World) : Calls Try.prog 177 #[.agg #[.int .u8 x.f0, .int .i64 x.f1.f0, .int .i64 x.f1.f1, .int .i64 x.f1.f2, .int .i64 x.f1.f3, .int .i64 x.f2, .slice B x.f3.length cb]] w fun e w' => e = .returned (.bool (wR x)) ∧ Below w.heap.size w w' := by
 unfold wR
 by_cases k1 : x.f0 = 1
 ·rw [if_pos k1]
  have k1b : (x.f0 == 1) = true := beq_iff_eq.mpr k1
  clear k1
  by_cases l0 : x.f3.length = 0
  ·rw [decide_eq_true l0, Bool.true_and]
   have l1 : ((x.f3.length : Int) == 0) = true := by simp [l0]
   have l2 : (x.f3.length == 0) = true := by simp [l0]
   clear l0
   by_cases i0 : 0 ≤ x.f2
   ·rw [decide_eq_true i0, Bool.true_and]
    have VL : decide (0 ≤ x.f2) = true := decide_eq_true i0
    by_cases i1 : x.f2 ≤ 2147483647
    ·rw [decide_eq_true i1]
     have i1b : decide (x.f2 ≤ 2147483647) = true := decide_eq_true i1
     go_enter Try.func177, Try.ntmps177
     go_wp2_with (((with_reducible refine au (N := 1) rfl ?_); refine aG ?hg (N := 1) ?hd (cs := #[.int .u8 x.f0, .int .i64 x.f1.f0, .int .i64 x.f1.f1, .int .i64 x.f1.f2, .int .i64 x.f1.f3, .int .i64 x.f2, .slice B x.f3.length cb]) (t := 26) ?hr ?_; (case hd => rfl); (case hg => rfl); (case hr => (go_simp; done)); intro b1 hg w1 hbox hb; have HB := ae.mk hb; have K1 := ae.mk hbox; clear hb hbox hg; have c0 := (af K1.out 0).trans rfl; have c1 := (af K1.out 1).trans rfl; have c2 := (af K1.out 2).trans rfl; have c3 := (af K1.out 3).trans rfl; have c4 := (af K1.out 4).trans rfl; have c5 := (af K1.out 5).trans rfl; have c6 := (af K1.out 6).trans rfl))
     go_ret
     exact ⟨rfl, HB.out⟩
    ·rw [decide_eq_false i1]
     have i1b : decide (x.f2 ≤ 2147483647) = false := decide_eq_false i1
     go_enter Try.func177, Try.ntmps177
     go_wp2_with (((with_reducible refine au (N := 1) rfl ?_); refine aG ?hg (N := 1) ?hd (cs := #[.int .u8 x.f0, .int .i64 x.f1.f0, .int .i64 x.f1.f1, .int .i64 x.f1.f2, .int .i64 x.f1.f3, .int .i64 x.f2, .slice B x.f3.length cb]) (t := 26) ?hr ?_; (case hd => rfl); (case hg => rfl); (case hr => (go_simp; done)); intro b1 hg w1 hbox hb; have HB := ae.mk hb; have K1 := ae.mk hbox; clear hb hbox hg; have c0 := (af K1.out 0).trans rfl; have c1 := (af K1.out 1).trans rfl; have c2 := (af K1.out 2).trans rfl; have c3 := (af K1.out 3).trans rfl; have c4 := (af K1.out 4).trans rfl; have c5 := (af K1.out 5).trans rfl; have c6 := (af K1.out 6).trans rfl))
     go_ret
     exact ⟨rfl, HB.out⟩
   ·rw [decide_eq_false i0, Bool.false_and]
    have VL : decide (0 ≤ x.f2) = false := decide_eq_false i0
    go_enter Try.func177, Try.ntmps177
    go_wp2_with (((with_reducible refine au (N := 1) rfl ?_); refine aG ?hg (N := 1) ?hd (cs := #[.int .u8 x.f0, .int .i64 x.f1.f0, .int .i64 x.f1.f1, .int .i64 x.f1.f2, .int .i64 x.f1.f3, .int .i64 x.f2, .slice B x.f3.length cb]) (t := 26) ?hr ?_; (case hd => rfl); (case hg => rfl); (case hr => (go_simp; done)); intro b1 hg w1 hbox hb; have HB := ae.mk hb; have K1 := ae.mk hbox; clear hb hbox hg; have c0 := (af K1.out 0).trans rfl; have c1 := (af K1.out 1).trans rfl; have c2 := (af K1.out 2).trans rfl; have c3 := (af K1.out 3).trans rfl; have c4 := (af K1.out 4).trans rfl; have c5 := (af K1.out 5).trans rfl; have c6 := (af K1.out 6).trans rfl))
    go_ret
    exact ⟨rfl, HB.out⟩
  ·rw [decide_eq_false l0, Bool.false_and]
   have l1 : ((x.f3.length : Int) == 0) = false := by simp; intro h; exact l0 (by simp [h])
   have l2 : (x.f3.length == 0) = false := by simpa using l0
   clear l0
   go_enter Try.func177, Try.ntmps177
   go_wp2_with (((with_reducible refine au (N := 1) rfl ?_); refine aG ?hg (N := 1) ?hd (cs := #[.int .u8 x.f0, .int .i64 x.f1.f0, .int .i64 x.f1.f1, .int .i64 x.f1.f2, .int .i64 x.f1.f3, .int .i64 x.f2, .slice B x.f3.length cb]) (t := 26) ?hr ?_; (case hd => rfl); (case hg => rfl); (case hr => (go_simp; done)); intro b1 hg w1 hbox hb; have HB := ae.mk hb; have K1 := ae.mk hbox; clear hb hbox hg; have c0 := (af K1.out 0).trans rfl; have c1 := (af K1.out 1).trans rfl; have c2 := (af K1.out 2).trans rfl; have c3 := (af K1.out 3).trans rfl; have c4 := (af K1.out 4).trans rfl; have c5 := (af K1.out 5).trans rfl; have c6 := (af K1.out 6).trans rfl))
   go_ret
   exact ⟨rfl, HB.out⟩
 ·rw [if_neg k1]
  have k1b : (x.f0 == 1) = false := beq_eq_false_iff_ne.mpr k1
  by_cases k2 : x.f0 = 2
  ·rw [if_pos (.inl k2)]
   have k2b : (x.f0 == 2) = true := beq_iff_eq.mpr k2
   clear k2 k1
   by_cases l0 : 2 ≤ x.f3.length
   ·rw [decide_eq_true l0, Bool.true_and]
    have l1 : (2 : Int) ≤ (x.f3.length : Int) := by omega
    by_cases i0 : x.f2 = 0
    ·rw [decide_eq_true i0]
     have VL : (x.f2 == 0) = true := beq_iff_eq.mpr i0
     clear i0
     go_enter Try.func177, Try.ntmps177
     go_wp2_with (((with_reducible refine au (N := 1) rfl ?_); refine aG ?hg (N := 1) ?hd (cs := #[.int .u8 x.f0, .int .i64 x.f1.f0, .int .i64 x.f1.f1, .int .i64 x.f1.f2, .int .i64 x.f1.f3, .int .i64 x.f2, .slice B x.f3.length cb]) (t := 26) ?hr ?_; (case hd => rfl); (case hg => rfl); (case hr => (go_simp; done)); intro b1 hg w1 hbox hb; have HB := ae.mk hb; have K1 := ae.mk hbox; clear hb hbox hg; have c0 := (af K1.out 0).trans rfl; have c1 := (af K1.out 1).trans rfl; have c2 := (af K1.out 2).trans rfl; have c3 := (af K1.out 3).trans rfl; have c4 := (af K1.out 4).trans rfl; have c5 := (af K1.out 5).trans rfl; have c6 := (af K1.out 6).trans rfl))
     go_ret
     exact ⟨rfl, HB.out⟩
    ·rw [decide_eq_false i0]
     have VL : (x.f2 == 0) = false := beq_eq_false_iff_ne.mpr i0
     clear i0
     go_enter Try.func177, Try.ntmps177
     go_wp2_with (((with_reducible refine au (N := 1) rfl ?_); refine aG ?hg (N := 1) ?hd (cs := #[.int .u8 x.f0, .int .i64 x.f1.f0, .int .i64 x.f1.f1, .int .i64 x.f1.f2, .int .i64 x.f1.f3, .int .i64 x.f2, .slice B x.f3.length cb]) (t := 26) ?hr ?_; (case hd => rfl); (case hg => rfl); (case hr => (go_simp; done)); intro b1 hg w1 hbox hb; have HB := ae.mk hb; have K1 := ae.mk hbox; clear hb hbox hg; have c0 := (af K1.out 0).trans rfl; have c1 := (af K1.out 1).trans rfl; have c2 := (af K1.out 2).trans rfl; have c3 := (af K1.out 3).trans rfl; have c4 := (af K1.out 4).trans rfl; have c5 := (af K1.out 5).trans rfl; have c6 := (af K1.out 6).trans rfl))
     go_ret
     exact ⟨rfl, HB.out⟩
   ·rw [decide_eq_false l0, Bool.false_and]
    have l1 : ¬ (2 : Int) ≤ (x.f3.length : Int) := by omega
    go_enter Try.func177, Try.ntmps177
    go_wp2_with (((with_reducible refine au (N := 1) rfl ?_); refine aG ?hg (N := 1) ?hd (cs := #[.int .u8 x.f0, .int .i64 x.f1.f0, .int .i64 x.f1.f1, .int .i64 x.f1.f2, .int .i64 x.f1.f3, .int .i64 x.f2, .slice B x.f3.length cb]) (t := 26) ?hr ?_; (case hd => rfl); (case hg => rfl); (case hr => (go_simp; done)); intro b1 hg w1 hbox hb; have HB := ae.mk hb; have K1 := ae.mk hbox; clear hb hbox hg; have c0 := (af K1.out 0).trans rfl; have c1 := (af K1.out 1).trans rfl; have c2 := (af K1.out 2).trans rfl; have c3 := (af K1.out 3).trans rfl; have c4 := (af K1.out 4).trans rfl; have c5 := (af K1.out 5).trans rfl; have c6 := (af K1.out 6).trans rfl))
    go_ret
    exact ⟨rfl, HB.out⟩
  ·by_cases k3 : x.f0 = 3
   ·rw [if_pos (.inr k3)]
    have k2b : (x.f0 == 2) = false := beq_eq_false_iff_ne.mpr k2
    have k3b : (x.f0 == 3) = true := beq_iff_eq.mpr k3
    clear k3 k2 k1
    by_cases l0 : 2 ≤ x.f3.length
    ·rw [decide_eq_true l0, Bool.true_and]
     have l1 : (2 : Int) ≤ (x.f3.length : Int) := by omega
     by_cases i0 : x.f2 = 0
     ·rw [decide_eq_true i0]
      have VL : (x.f2 == 0) = true := beq_iff_eq.mpr i0
      clear i0
      go_enter Try.func177, Try.ntmps177
      go_wp2_with (((with_reducible refine au (N := 1) rfl ?_); refine aG ?hg (N := 1) ?hd (cs := #[.int .u8 x.f0, .int .i64 x.f1.f0, .int .i64 x.f1.f1, .int .i64 x.f1.f2, .int .i64 x.f1.f3, .int .i64 x.f2, .slice B x.f3.length cb]) (t := 26) ?hr ?_; (case hd => rfl); (case hg => rfl); (case hr => (go_simp; done)); intro b1 hg w1 hbox hb; have HB := ae.mk hb; have K1 := ae.mk hbox; clear hb hbox hg; have c0 := (af K1.out 0).trans rfl; have c1 := (af K1.out 1).trans rfl; have c2 := (af K1.out 2).trans rfl; have c3 := (af K1.out 3).trans rfl; have c4 := (af K1.out 4).trans rfl; have c5 := (af K1.out 5).trans rfl; have c6 := (af K1.out 6).trans rfl))
      go_ret
      exact ⟨rfl, HB.out⟩
     ·rw [decide_eq_false i0]
      have VL : (x.f2 == 0) = false := beq_eq_false_iff_ne.mpr i0
      clear i0
      go_enter Try.func177, Try.ntmps177
      go_wp2_with (((with_reducible refine au (N := 1) rfl ?_); refine aG ?hg (N := 1) ?hd (cs := #[.int .u8 x.f0, .int .i64 x.f1.f0, .int .i64 x.f1.f1, .int .i64 x.f1.f2, .int .i64 x.f1.f3, .int .i64 x.f2, .slice B x.f3.length cb]) (t := 26) ?hr ?_; (case hd => rfl); (case hg => rfl); (case hr => (go_simp; done)); intro b1 hg w1 hbox hb; have HB := ae.mk hb; have K1 := ae.mk hbox; clear hb hbox hg; have c0 := (af K1.out 0).trans rfl; have c1 := (af K1.out 1).trans rfl; have c2 := (af K1.out 2).trans rfl; have c3 := (af K1.out 3).trans rfl; have c4 := (af K1.out 4).trans rfl; have c5 := (af K1.out 5).trans rfl; have c6 := (af K1.out 6).trans rfl))
      go_ret
      exact ⟨rfl, HB.out⟩
    ·rw [decide_eq_false l0, Bool.false_and]
     have l1 : ¬ (2 : Int) ≤ (x.f3.length : Int) := by omega
     go_enter Try.func177, Try.ntmps177
     go_wp2_with (((with_reducible refine au (N := 1) rfl ?_); refine aG ?hg (N := 1) ?hd (cs := #[.int .u8 x.f0, .int .i64 x.f1.f0, .int .i64 x.f1.f1, .int .i64 x.f1.f2, .int .i64 x.f1.f3, .int .i64 x.f2, .slice B x.f3.length cb]) (t := 26) ?hr ?_; (case hd => rfl); (case hg => rfl); (case hr => (go_simp; done)); intro b1 hg w1 hbox hb; have HB := ae.mk hb; have K1 := ae.mk hbox; clear hb hbox hg; have c0 := (af K1.out 0).trans rfl; have c1 := (af K1.out 1).trans rfl; have c2 := (af K1.out 2).trans rfl; have c3 := (af K1.out 3).trans rfl; have c4 := (af K1.out 4).trans rfl; have c5 := (af K1.out 5).trans rfl; have c6 := (af K1.out 6).trans rfl))
     go_ret
     exact ⟨rfl, HB.out⟩
   ·rw [if_neg (fun h => h.elim k2 k3)]
    have k2b : (x.f0 == 2) = false := beq_eq_false_iff_ne.mpr k2
    have k3b : (x.f0 == 3) = false := beq_eq_false_iff_ne.mpr k3
    go_enter Try.func177, Try.ntmps177
    go_wp2_with (((with_reducible refine au (N := 1) rfl ?_); refine aG ?hg (N := 1) ?hd (cs := #[.int .u8 x.f0, .int .i64 x.f1.f0, .int .i64 x.f1.f1, .int .i64 x.f1.f2, .int .i64 x.f1.f3, .int .i64 x.f2, .slice B x.f3.length cb]) (t := 26) ?hr ?_; (case hd => rfl); (case hg => rfl); (case hr => (go_simp; done)); intro b1 hg w1 hbox hb; have HB := ae.mk hb; have K1 := ae.mk hbox; clear hb hbox hg; have c0 := (af K1.out 0).trans rfl; have c1 := (af K1.out 1).trans rfl; have c2 := (af K1.out 2).trans rfl; have c3 := (af K1.out 3).trans rfl; have c4 := (af K1.out 4).trans rfl; have c5 := (af K1.out 5).trans rfl; have c6 := (af K1.out 6).trans rfl))
    go_ret
    exact ⟨rfl, HB.out⟩
theorem aeN {σ : Type} (Inv : σ → World → Prop) (step : σ → dK → Bool × σ) (g : Nat) (lb : Array Value) (eg : ∀ args w, (callFunc g args).run Try.prog w = .ok (.enter g args) w) (l : List dK) (A : Option Addr) (c : Nat)
  (hR : ∀ s W, Inv s W → Kd.C k23 W A l.length l) (hD : ∀ s W n, Inv s W → Inv s (W.drewN n))
  (hcall : ∀ s W (x : dK), x ∈ l → Inv s W → Calls Try.prog g (#[.agg #[.int .i64 x.f0, .int .i64 x.f1, .int .i64 x.f2, .int .i64 x.f3]] ++ lb) W fun e w' => e = .returned (.bool (step s x).1) ∧ Inv (step s x).2 w')
  (s : σ) (w : World) (hI : Inv s w) (hl : l.length ≤ 9223372036854775807) :
  Calls Try.prog 173 #[.slice A l.length c, .func (.func g) #[] lb] w fun e w' => e = .returned (.int .i64 (lG step 0 s l).1) ∧ Inv (lG step 0 s l).2 w' := by
 have HR := ae.mk hR
 have HI := ae.mk hI
 have vZ := ae.mk hcall
 clear hR hcall hD hI
 go_enter Try.func173, Try.ntmps173
 go_wp2
 go_loopg [5, 8] l.length (fun gg _ v8 wr => ∃ (kk : Nat) (t : σ), kk ≤ l.length ∧ l.length - kk ≤ gg ∧ v8 = .int .i64 kk ∧ ae (Inv t wr) ∧ ae (lG step 0 s l = lG step kk t (l.drop kk)))
 case atStart => exact ⟨0, s, Nat.zero_le _, by omega, rfl, HI, ⟨by simp⟩⟩
 case round =>
  clear HI
  obtain ⟨kk, t, hkk, hg, rfl, HI, HS⟩ := hrel
  by_cases hlt : kk < l.length
  ·have hltz : (kk : Int) < (l.length : Int) := by omega
   obtain ⟨ad, rfl, hc0, hc1, hc2, hc3⟩ := N9 (HR.out t wr HI.out) (kk : Int) (by omega) (by omega)
   have HX : ae (lG step kk t (l.drop kk) = if (step t (qE l (kk : Int))).1 = true then ((kk : Int), (step t (qE l (kk : Int))).2) else lG step ((kk + 1 : Nat) : Int) (step t (qE l (kk : Int))).2 (l.drop (kk + 1))) := ⟨Ri step z23 l kk hlt t⟩
   have hmem : (qE l (kk : Int)) ∈ l := Di z23 l kk hlt
   have hcall := vZ.out t wr _ hmem HI.out
   clear hmem
   simp only [Int.toNat_natCast] at hc0 hc1 hc2 hc3
   generalize qE l (kk : Int) = x at hc0 hc1 hc2 hc3 HX hcall
   have HC := ae.mk hcall
   clear hcall
   cases hq : (step t x).1 with
   | true =>
    have h := HC.out
    rw [hq] at h
    have HH := ae.mk h
    have HQ := ae.mk hq
    clear hq HC h
    go_wp2_with fail
    refine HH.out.mono ?_
    rintro e w' ⟨rfl, hb'⟩
    have HB := ae.mk hb'
    clear hb'
    go_wp2
    go_ret
    rw [HS.out, HX.out, if_pos HQ.out]
    exact ⟨rfl, HB.out⟩
   | false =>
    have h := HC.out
    rw [hq] at h
    have HH := ae.mk h
    have HQ := ae.mk hq
    clear hq HC h
    go_wp2_with fail
    refine HH.out.mono ?_
    rintro e w' ⟨rfl, hb'⟩
    have HB := ae.mk hb'
    clear hb'
    go_wp2
    go_roundg (l.length - (kk + 1))
    case measure => omega
    case rel =>
     refine ⟨kk + 1, (step t x).2, by omega, by omega, by go_num, HB, ⟨?_⟩⟩
     rw [HS.out, HX.out, if_neg (by rw [HQ.out]; simp)]
  ·have hltz : ¬ (kk : Int) < (l.length : Int) := by omega
   go_wp2
   go_ret
   rw [HS.out, List.drop_eq_nil_of_le (by omega)]
   exact ⟨rfl, HI.out⟩
theorem adv {σ : Type} (Inv : σ → World → Prop) (step : σ → dK → Bool × σ) (g : Nat) (lb : Array Value) (eg : ∀ args w, (callFunc g args).run Try.prog w = .ok (.enter g args) w) (l : List dK) (A : Option Addr) (c : Nat)
  (hR : ∀ s W, Inv s W → Kd.C k23 W A l.length l) (hD : ∀ s W n, Inv s W → Inv s (W.drewN n))
  (hcall : ∀ s W (x : dK), x ∈ l → Inv s W → Calls Try.prog g (#[.agg #[.int .i64 x.f0, .int .i64 x.f1, .int .i64 x.f2, .int .i64 x.f3]] ++ lb) W fun e w' => e = .returned (.bool (step s x).1) ∧ Inv (step s x).2 w')
  (s : σ) (w : World) (hI : Inv s w) (hl : l.length ≤ 9223372036854775807) :
  Calls Try.prog 134 #[.slice A l.length c, .func (.func g) #[] lb] w fun e w' => e = .returned (.bool (sD step s l).1) ∧ Inv (sD step s l).2 w' := by
 have hi := aeN Inv step g lb eg l A c hR hD hcall s w hI hl
 rw [PK]
 clear hR hD hcall hI
 generalize lG step 0 s l = r at hi
 have HI := ae.mk hi
 clear hi
 go_enter Try.func134, Try.ntmps134
 go_wp2_with fail
 refine HI.out.mono ?_
 rintro e w' ⟨rfl, hb'⟩
 have HB := ae.mk hb'
 clear hb'
 go_wp2
 go_ret
 exact ⟨rfl, HB.out⟩
theorem may1 (x : dK) (w : World) : Calls Try.prog 138 #[.agg #[.int .i64 x.f0, .int .i64 x.f1, .int .i64 x.f2, .int .i64 x.f3]] w fun e w' => e = .returned (.bool (!lq x)) ∧ Below w.heap.size w w' := by
 have hc := fun W => xI.calls x.f0 x.f1 x.f2 x.f3 (lq x) W (Pg _ _ _ _)
 have HC := ae.mk hc
 clear hc
 cases hm : lq x with
 | true =>
  rw [hm] at HC
  clear hm
  go_enter Try.func138, Try.ntmps138
  go_wp2_with fail
  refine (HC.out _).mono ?_
  rintro e w' ⟨rfl, hb⟩
  have HB := ae.mk hb
  clear hb
  go_wp2
  go_ret
  exact ⟨rfl, wG (aX (Below.refl _ _) _) (by simp) HB.out⟩
 | false =>
  rw [hm] at HC
  clear hm
  go_enter Try.func138, Try.ntmps138
  go_wp2_with fail
  refine (HC.out _).mono ?_
  rintro e w' ⟨rfl, hb⟩
  have HB := ae.mk hb
  clear hb
  go_wp2
  go_ret
  exact ⟨rfl, wG (aX (Below.refl _ _) _) (by simp) HB.out⟩
def lZ.f (l0 : List (dK)) : Option Bool := some (l0.all lq)
theorem lZ.calls (A0 : Option Addr) (c0 : Nat) (l0 : List (dK)) (r : Bool) (w : World) (hr0 : Kd.C k23 w A0 l0.length l0) (ahG : l0.length ≤ c0) (h : lZ.f l0 = some r) :
  Calls Try.prog 68 #[.slice A0 l0.length c0] w fun e w' => e = .returned (.bool r) ∧ Below w.heap.size w w' := by
 have hcon := adv (fun (_ : Unit) W => Below w.heap.size w W) (fun _ x => (!lq x, ())) 138 #[] (qL Try.func138 (by decide +kernel) (by kernel_rfl)) l0 A0 c0 (fun _ W hW => Kd.eY hr0 hW) (fun _ W n hW => aV hW n)
  (fun _ W x _ hW => by
   rw [show (#[Value.agg #[.int .i64 x.f0, .int .i64 x.f1, .int .i64 x.f2, .int .i64 x.f3]] ++ #[] : Array Value) = #[.agg #[.int .i64 x.f0, .int .i64 x.f1, .int .i64 x.f2, .int .i64 x.f3]] by simp]
   exact (may1 x W).mono fun e w' ⟨he, hb⟩ => ⟨he, wG hW hW.size hb⟩) () w (Below.refl _ _) hr0.2.1
 rw [LX] at hcon
 have e1 : r = !(l0.any fun x => !lq x) := by
  injection h with h
  rw [← h]
  clear h hcon hr0 ahG
  induction l0 with
  | nil => rfl
  | cons x xs ih => simp only [List.all_cons, List.any_cons, ih, Bool.not_or, Bool.not_not]
 subst e1
 generalize (l0.any fun x => !lq x) = b at hcon
 have HC := ae.mk hcon
 clear hcon h hr0
 go_enter Try.func68, Try.ntmps68
 go_wp2_with fail
 refine HC.out.mono ?_
 rintro e w' ⟨rfl, hb⟩
 have HB := ae.mk hb
 clear hb
 go_wp2
 go_ret
 exact ⟨rfl, HB.out⟩
theorem Kp.grown {S : Nat → Prop} {W W1 : World} {g : Nat} (h : W.grownBy W1 (some g)) (hs : S g) : Kp S W W1 := ⟨h.size, fun k hk hn => h.block k hk (fun e => hn (by injection e with e; rw [e]; exact hs))⟩
theorem mV.count {w0 W W1 : World} {bn bm B : Nat} {s : Int × List Int} {n : Int} (h : mV w0 bn bm B s W) (hk : W1.heap[bn]? = some (.cells #[.int .i64 n] 3 (0, 0))) (hb : Below w0.heap.size w0 W1) (hg : W.grownBy W1 (some bn)) : mV w0 bn bm B (n, s.2) W1 :=
 ⟨hk, bT h.hm hg (fun e => h.Y2.2.2 (Option.some.inj e)), h.map.kept hg (fun e => h.Y2.1 (Option.some.inj e).symm), hb, h.gn, h.gB, h.nd, h.rg⟩
theorem mV.met {w0 W W1 : World} {bn bm B : Nat} {s : Int × List Int} {i : Int} (h : mV w0 bn bm B s W) (hm : W1.ownsMap (H := Unit) Try.prog 3 (plainElem Try.prog 4) B (s.2.length + 1) ((Hf s.2).put (.int .i64 i) (.lit (.bool true)))) (hg : W.grownBy W1 (some B)) (hi : i ∉ s.2) (h0 : 0 ≤ i) (h1 : i ≤ 2147483647) : mV w0 bn bm B (s.1, i :: s.2) W1 :=
 ⟨bT h.hn hg (fun e => h.Y2.1 (Option.some.inj e)), bT h.hm hg (fun e => h.Y2.2.1 (Option.some.inj e)), hm, grown_below h.below hg h.gB h.below.size, h.gn, h.gB, List.nodup_cons.2 ⟨hi, h.nd⟩, fun j hj => by
  rcases List.mem_cons.1 hj with rfl | hj
  ·exact ⟨h0, h1⟩
  ·exact h.rg j hj⟩
theorem Zj (w : World) : (zeroValue 4).run Try.prog w = .ok (.bool false) w := by kernel_rfl
theorem ags (w0 : World) (bn bm B : Nat) (s : Int × List Int) (W : World) (x : ai) (A : Option Addr) (cb : Nat) (hI : mV w0 bn bm B s W) (h1 : 20000 < wrap64 (s.1 + 1)) :
  Calls Try.prog 176 (#[.agg #[.int .u8 x.f0, .int .i64 x.f1.f0, .int .i64 x.f1.f1, .int .i64 x.f1.f2, .int .i64 x.f1.f3, .int .i64 x.f2, .slice A x.f3.length cb]] ++ #[.pointer (some ⟨bn, 0, none⟩), .pointer (some ⟨bm, 0, none⟩)]) W fun e w' => e = .returned (.bool (jm s x).1) ∧ mV w0 bn bm B (jm s x).2 w' ∧ Kp (v_ bn B) W w' := by
 rw [show jm s x = (false, (wrap64 (s.1 + 1), s.2)) from by unfold jm; rw [if_pos h1]]
 have HI := ae.mk hI
 have HK := ae.mk (Kp.refl (v_ bn B) W)
 clear hI
 simp only [List.append_toArray, List.cons_append, List.nil_append]
 go_enter Try.func176, Try.ntmps176
 go_wp2_with (first | ((with_reducible refine au (N := 3) rfl ?_); refine aG ?hg (N := 3) ?hd (cs := #[.int .u8 x.f0, .int .i64 x.f1.f0, .int .i64 x.f1.f1, .int .i64 x.f1.f2, .int .i64 x.f1.f3, .int .i64 x.f2, .slice A x.f3.length cb]) (t := 26) ?hr ?_; (case hd => rfl); (case hg => rfl); (case hr => (go_simp; done)); intro b3 hg w3 hbox hb; have K3 := ae.mk hbox; have ed := ae.mk (HI.out.step hb); have fB := ae.mk (HK.out.trans (Kp.below hb)); clear HI HK; have HI := ed; have HK := fB; clear ed fB; clear hb hbox hg; have cn := (af HI.out.hn 0).trans rfl) | ((with_reducible refine mO (.store 3 (.tmp 1) (.tmp 6)) rfl ?_); go_loud (clear cn; refine gQ (w0 := w0) rfl rfl 3 (.tmp 1) (.tmp 6) rfl (g := bn) (j := 0) (base := w0.heap.size) #[.int .i64 (wrap64 (s.1 + 1))] (u := .int .i64 (wrap64 (s.1 + 1))) (bu := [.int .i64 (wrap64 (s.1 + 1))]) ?sA ?sX rfl ?sT ?s1 HI.out.hn ?sJ rfl HI.out.below HI.out.below.size HI.out.gn ?_; (case sA => rfl); (case sX => rfl); (case sT => rfl); (case s1 => (simp [Value.oneCell'])); (case sJ => (simp)); intro ws hbk hbb hgg; have ed := ae.mk (HI.out.count hbk hbb hgg); have fB := ae.mk (HK.out.trans (Kp.grown hgg (Or.inl rfl))); have iL := ae.mk (bT K3.out hgg (fun e_ => uC K3.out HI.out.hn (by decide) (Option.some.inj e_))); clear HI HK K3 hbk hbb hgg; have HI := ed; have HK := fB; have K3 := iL; clear ed fB iL; have cn := (af HI.out.hn 0).trans rfl; have c0 := (af K3.out 0).trans rfl; have c1 := (af K3.out 1).trans rfl; have c2 := (af K3.out 2).trans rfl; have c3 := (af K3.out 3).trans rfl; have c4 := (af K3.out 4).trans rfl; have c5 := (af K3.out 5).trans rfl; have c6 := (af K3.out 6).trans rfl)))
 go_ret
 exact ⟨rfl, HI.out, HK.out⟩
theorem agt (w0 : World) (bn bm B : Nat) (s : Int × List Int) (W : World) (x : ai) (A : Option Addr) (cb : Nat) (hI : mV w0 bn bm B s W) (h1 : ¬ 20000 < wrap64 (s.1 + 1)) (h2 : wR x = false) :
  Calls Try.prog 176 (#[.agg #[.int .u8 x.f0, .int .i64 x.f1.f0, .int .i64 x.f1.f1, .int .i64 x.f1.f2, .int .i64 x.f1.f3, .int .i64 x.f2, .slice A x.f3.length cb]] ++ #[.pointer (some ⟨bn, 0, none⟩), .pointer (some ⟨bm, 0, none⟩)]) W fun e w' => e = .returned (.bool (jm s x).1) ∧ mV w0 bn bm B (jm s x).2 w' ∧ Kp (v_ bn B) W w' := by
 rw [show jm s x = (false, (wrap64 (s.1 + 1), s.2)) from by unfold jm; rw [if_neg h1, Ah, h2]; simp]
 have HN := ae.mk fun W => BN x A cb W
 rw [h2] at HN
 clear h2
 have HI := ae.mk hI
 have HK := ae.mk (Kp.refl (v_ bn B) W)
 clear hI
 simp only [List.append_toArray, List.cons_append, List.nil_append]
 go_enter Try.func176, Try.ntmps176
 go_wp2_with (first | ((with_reducible refine au (N := 3) rfl ?_); refine aG ?hg (N := 3) ?hd (cs := #[.int .u8 x.f0, .int .i64 x.f1.f0, .int .i64 x.f1.f1, .int .i64 x.f1.f2, .int .i64 x.f1.f3, .int .i64 x.f2, .slice A x.f3.length cb]) (t := 26) ?hr ?_; (case hd => rfl); (case hg => rfl); (case hr => (go_simp; done)); intro b3 hg w3 hbox hb; have K3 := ae.mk hbox; have ed := ae.mk (HI.out.step hb); have fB := ae.mk (HK.out.trans (Kp.below hb)); clear HI HK; have HI := ed; have HK := fB; clear ed fB; clear hb hbox hg; have cn := (af HI.out.hn 0).trans rfl) | ((with_reducible refine mO (.store 3 (.tmp 1) (.tmp 6)) rfl ?_); go_loud (clear cn; refine gQ (w0 := w0) rfl rfl 3 (.tmp 1) (.tmp 6) rfl (g := bn) (j := 0) (base := w0.heap.size) #[.int .i64 (wrap64 (s.1 + 1))] (u := .int .i64 (wrap64 (s.1 + 1))) (bu := [.int .i64 (wrap64 (s.1 + 1))]) ?sA ?sX rfl ?sT ?s1 HI.out.hn ?sJ rfl HI.out.below HI.out.below.size HI.out.gn ?_; (case sA => rfl); (case sX => rfl); (case sT => rfl); (case s1 => (simp [Value.oneCell'])); (case sJ => (simp)); intro ws hbk hbb hgg; have ed := ae.mk (HI.out.count hbk hbb hgg); have fB := ae.mk (HK.out.trans (Kp.grown hgg (Or.inl rfl))); have iL := ae.mk (bT K3.out hgg (fun e_ => uC K3.out HI.out.hn (by decide) (Option.some.inj e_))); clear HI HK K3 hbk hbb hgg; have HI := ed; have HK := fB; have K3 := iL; clear ed fB iL; have cn := (af HI.out.hn 0).trans rfl; have c0 := (af K3.out 0).trans rfl; have c1 := (af K3.out 1).trans rfl; have c2 := (af K3.out 2).trans rfl; have c3 := (af K3.out 3).trans rfl; have c4 := (af K3.out 4).trans rfl; have c5 := (af K3.out 5).trans rfl; have c6 := (af K3.out 6).trans rfl)))
 clear cn
 clear c0 c1 c2 c3 c4 c5 c6
 refine (HN.out _).mono ?_
 rintro e wk ⟨rfl, hb⟩
 have iL := ae.mk (aN K3.out hb)
 clear K3
 have K3 := iL
 clear iL
 have ed := ae.mk (HI.out.step hb); have fB := ae.mk (HK.out.trans (Kp.below hb)); clear HI HK; have HI := ed; have HK := fB; clear ed fB
 clear hb
 go_wp2
 go_ret
 exact ⟨rfl, HI.out, HK.out⟩
theorem agu (w0 : World) (bn bm B : Nat) (s : Int × List Int) (W : World) (x : ai) (A : Option Addr) (cb : Nat) (hI : mV w0 bn bm B s W) (h1 : ¬ 20000 < wrap64 (s.1 + 1)) (h2 : wR x = true) (h3 : lq x.f1 = false) :
  Calls Try.prog 176 (#[.agg #[.int .u8 x.f0, .int .i64 x.f1.f0, .int .i64 x.f1.f1, .int .i64 x.f1.f2, .int .i64 x.f1.f3, .int .i64 x.f2, .slice A x.f3.length cb]] ++ #[.pointer (some ⟨bn, 0, none⟩), .pointer (some ⟨bm, 0, none⟩)]) W fun e w' => e = .returned (.bool (jm s x).1) ∧ mV w0 bn bm B (jm s x).2 w' ∧ Kp (v_ bn B) W w' := by
 rw [show jm s x = (false, (wrap64 (s.1 + 1), s.2)) from by unfold jm; rw [if_neg h1, Ah, h2, h3]; simp]
 have HN := ae.mk fun W => BN x A cb W
 rw [h2] at HN
 clear h2
 have M1 := ae.mk (show lZ.f [x.f1] = some false by simp [lZ.f, h3])
 clear h3
 have HI := ae.mk hI
 have HK := ae.mk (Kp.refl (v_ bn B) W)
 clear hI
 simp only [List.append_toArray, List.cons_append, List.nil_append]
 go_enter Try.func176, Try.ntmps176
 go_wp2_with (first | ((with_reducible refine au (N := 3) rfl ?_); refine aG ?hg (N := 3) ?hd (cs := #[.int .u8 x.f0, .int .i64 x.f1.f0, .int .i64 x.f1.f1, .int .i64 x.f1.f2, .int .i64 x.f1.f3, .int .i64 x.f2, .slice A x.f3.length cb]) (t := 26) ?hr ?_; (case hd => rfl); (case hg => rfl); (case hr => (go_simp; done)); intro b3 hg w3 hbox hb; have K3 := ae.mk hbox; have ed := ae.mk (HI.out.step hb); have fB := ae.mk (HK.out.trans (Kp.below hb)); clear HI HK; have HI := ed; have HK := fB; clear ed fB; clear hb hbox hg; have cn := (af HI.out.hn 0).trans rfl) | ((with_reducible refine mO (.store 3 (.tmp 1) (.tmp 6)) rfl ?_); go_loud (clear cn; refine gQ (w0 := w0) rfl rfl 3 (.tmp 1) (.tmp 6) rfl (g := bn) (j := 0) (base := w0.heap.size) #[.int .i64 (wrap64 (s.1 + 1))] (u := .int .i64 (wrap64 (s.1 + 1))) (bu := [.int .i64 (wrap64 (s.1 + 1))]) ?sA ?sX rfl ?sT ?s1 HI.out.hn ?sJ rfl HI.out.below HI.out.below.size HI.out.gn ?_; (case sA => rfl); (case sX => rfl); (case sT => rfl); (case s1 => (simp [Value.oneCell'])); (case sJ => (simp)); intro ws hbk hbb hgg; have ed := ae.mk (HI.out.count hbk hbb hgg); have fB := ae.mk (HK.out.trans (Kp.grown hgg (Or.inl rfl))); have iL := ae.mk (bT K3.out hgg (fun e_ => uC K3.out HI.out.hn (by decide) (Option.some.inj e_))); clear HI HK K3 hbk hbb hgg; have HI := ed; have HK := fB; have K3 := iL; clear ed fB iL; have cn := (af HI.out.hn 0).trans rfl; have c0 := (af K3.out 0).trans rfl; have c1 := (af K3.out 1).trans rfl; have c2 := (af K3.out 2).trans rfl; have c3 := (af K3.out 3).trans rfl; have c4 := (af K3.out 4).trans rfl; have c5 := (af K3.out 5).trans rfl; have c6 := (af K3.out 6).trans rfl)))
 clear cn
 clear c0 c1 c2 c3 c4 c5 c6
 refine (HN.out _).mono ?_
 rintro e wk ⟨rfl, hb⟩
 have iL := ae.mk (aN K3.out hb)
 clear K3
 have K3 := iL
 clear iL
 have ed := ae.mk (HI.out.step hb); have fB := ae.mk (HK.out.trans (Kp.below hb)); clear HI HK; have HI := ed; have HK := fB; clear ed fB
 clear hb
 have c0 := (af K3.out 0).trans rfl
 have c1 := (af K3.out 1).trans rfl
 have c2 := (af K3.out 2).trans rfl
 have c3 := (af K3.out 3).trans rfl
 have c4 := (af K3.out 4).trans rfl
 have c5 := (af K3.out 5).trans rfl
 have c6 := (af K3.out 6).trans rfl
 go_wp2_with (((with_reducible refine au (N := 17) rfl ?_); (try (refine dM (by rfl) ?_; dsimp only)); refine Kd.xP k23 _ 23 ?hg (N := 17) ?hd (xs := ([x.f1] : List dK)) (inner := [.int .i64 x.f1.f0, .int .i64 x.f1.f1, .int .i64 x.f1.f2, .int .i64 x.f1.f3]) (ok := fun _ => True) (fG := fun _ => True) ?hr ?hp (fun _ hk => hk) trivial (Below.refl _ _) (Nat.le_refl _) (by simp) ?_; (case hd => rfl); (case hg => rfl); (case hr => (go_simp; done)); (case hp => exact (bF.c4 (show Kd.M k23 _ _ _ x.f1 [.int .i64 x.f1.f0, .int .i64 x.f1.f1, .int .i64 x.f1.f2, .int .i64 x.f1.f3] from rO _ _ _ x.f1) (bF.none _ _))); intro vr wr ho hb qA kT; clear qA kT; obtain ⟨Ar, cr, er⟩ := Kd.jw ho; subst er; have iL := ae.mk (aN K3.out hb); clear K3; have K3 := iL; clear iL; have ed := ae.mk (HI.out.step hb); have fB := ae.mk (HK.out.trans (Kp.below hb)); clear HI HK; have HI := ed; have HK := fB; clear ed fB; have HR := ae.mk (Kd.gy ho).2.2; have LR := ae.mk (Kd.gy ho).2.1; clear ho hb))
 clear c0 c1 c2 c3 c4 c5 c6
 refine (lZ.calls Ar cr [x.f1] false _ HR.out LR.out M1.out).mono ?_
 rintro e wk ⟨rfl, hb⟩
 have iL := ae.mk (aN K3.out hb)
 clear K3
 have K3 := iL
 clear iL
 have ed := ae.mk (HI.out.step hb); have fB := ae.mk (HK.out.trans (Kp.below hb)); clear HI HK; have HI := ed; have HK := fB; clear ed fB
 clear hb
 go_wp2
 go_ret
 exact ⟨rfl, HI.out, HK.out⟩
theorem agv (w0 : World) (bn bm B : Nat) (s : Int × List Int) (W : World) (x : ai) (A : Option Addr) (cb : Nat) (hI : mV w0 bn bm B s W) (h1 : ¬ 20000 < wrap64 (s.1 + 1)) (h2 : wR x = true) (h3 : lq x.f1 = true) (h4 : x.f0 ≠ 1) :
  Calls Try.prog 176 (#[.agg #[.int .u8 x.f0, .int .i64 x.f1.f0, .int .i64 x.f1.f1, .int .i64 x.f1.f2, .int .i64 x.f1.f3, .int .i64 x.f2, .slice A x.f3.length cb]] ++ #[.pointer (some ⟨bn, 0, none⟩), .pointer (some ⟨bm, 0, none⟩)]) W fun e w' => e = .returned (.bool (jm s x).1) ∧ mV w0 bn bm B (jm s x).2 w' ∧ Kp (v_ bn B) W w' := by
 rw [show jm s x = (true, (wrap64 (s.1 + 1), s.2)) from by unfold jm; rw [if_neg h1, Ah, h2, h3, if_neg (by simp), if_neg h4]]
 have HN := ae.mk fun W => BN x A cb W
 rw [h2] at HN
 clear h2
 have M1 := ae.mk (show lZ.f [x.f1] = some true by simp [lZ.f, h3])
 clear h3
 have IE : (x.f0 == 1) = false := beq_eq_false_iff_ne.mpr h4
 clear h4
 have HI := ae.mk hI
 have HK := ae.mk (Kp.refl (v_ bn B) W)
 clear hI
 simp only [List.append_toArray, List.cons_append, List.nil_append]
 go_enter Try.func176, Try.ntmps176
 go_wp2_with (first | ((with_reducible refine au (N := 3) rfl ?_); refine aG ?hg (N := 3) ?hd (cs := #[.int .u8 x.f0, .int .i64 x.f1.f0, .int .i64 x.f1.f1, .int .i64 x.f1.f2, .int .i64 x.f1.f3, .int .i64 x.f2, .slice A x.f3.length cb]) (t := 26) ?hr ?_; (case hd => rfl); (case hg => rfl); (case hr => (go_simp; done)); intro b3 hg w3 hbox hb; have K3 := ae.mk hbox; have ed := ae.mk (HI.out.step hb); have fB := ae.mk (HK.out.trans (Kp.below hb)); clear HI HK; have HI := ed; have HK := fB; clear ed fB; clear hb hbox hg; have cn := (af HI.out.hn 0).trans rfl) | ((with_reducible refine mO (.store 3 (.tmp 1) (.tmp 6)) rfl ?_); go_loud (clear cn; refine gQ (w0 := w0) rfl rfl 3 (.tmp 1) (.tmp 6) rfl (g := bn) (j := 0) (base := w0.heap.size) #[.int .i64 (wrap64 (s.1 + 1))] (u := .int .i64 (wrap64 (s.1 + 1))) (bu := [.int .i64 (wrap64 (s.1 + 1))]) ?sA ?sX rfl ?sT ?s1 HI.out.hn ?sJ rfl HI.out.below HI.out.below.size HI.out.gn ?_; (case sA => rfl); (case sX => rfl); (case sT => rfl); (case s1 => (simp [Value.oneCell'])); (case sJ => (simp)); intro ws hbk hbb hgg; have ed := ae.mk (HI.out.count hbk hbb hgg); have fB := ae.mk (HK.out.trans (Kp.grown hgg (Or.inl rfl))); have iL := ae.mk (bT K3.out hgg (fun e_ => uC K3.out HI.out.hn (by decide) (Option.some.inj e_))); clear HI HK K3 hbk hbb hgg; have HI := ed; have HK := fB; have K3 := iL; clear ed fB iL; have cn := (af HI.out.hn 0).trans rfl; have c0 := (af K3.out 0).trans rfl; have c1 := (af K3.out 1).trans rfl; have c2 := (af K3.out 2).trans rfl; have c3 := (af K3.out 3).trans rfl; have c4 := (af K3.out 4).trans rfl; have c5 := (af K3.out 5).trans rfl; have c6 := (af K3.out 6).trans rfl)))
 clear cn
 clear c0 c1 c2 c3 c4 c5 c6
 refine (HN.out _).mono ?_
 rintro e wk ⟨rfl, hb⟩
 have iL := ae.mk (aN K3.out hb)
 clear K3
 have K3 := iL
 clear iL
 have ed := ae.mk (HI.out.step hb); have fB := ae.mk (HK.out.trans (Kp.below hb)); clear HI HK; have HI := ed; have HK := fB; clear ed fB
 clear hb
 have c0 := (af K3.out 0).trans rfl
 have c1 := (af K3.out 1).trans rfl
 have c2 := (af K3.out 2).trans rfl
 have c3 := (af K3.out 3).trans rfl
 have c4 := (af K3.out 4).trans rfl
 have c5 := (af K3.out 5).trans rfl
 have c6 := (af K3.out 6).trans rfl
 go_wp2_with (((with_reducible refine au (N := 17) rfl ?_); (try (refine dM (by rfl) ?_; dsimp only)); refine Kd.xP k23 _ 23 ?hg (N := 17) ?hd (xs := ([x.f1] : List dK)) (inner := [.int .i64 x.f1.f0, .int .i64 x.f1.f1, .int .i64 x.f1.f2, .int .i64 x.f1.f3]) (ok := fun _ => True) (fG := fun _ => True) ?hr ?hp (fun _ hk => hk) trivial (Below.refl _ _) (Nat.le_refl _) (by simp) ?_; (case hd => rfl); (case hg => rfl); (case hr => (go_simp; done)); (case hp => exact (bF.c4 (show Kd.M k23 _ _ _ x.f1 [.int .i64 x.f1.f0, .int .i64 x.f1.f1, .int .i64 x.f1.f2, .int .i64 x.f1.f3] from rO _ _ _ x.f1) (bF.none _ _))); intro vr wr ho hb qA kT; clear qA kT; obtain ⟨Ar, cr, er⟩ := Kd.jw ho; subst er; have iL := ae.mk (aN K3.out hb); clear K3; have K3 := iL; clear iL; have ed := ae.mk (HI.out.step hb); have fB := ae.mk (HK.out.trans (Kp.below hb)); clear HI HK; have HI := ed; have HK := fB; clear ed fB; have HR := ae.mk (Kd.gy ho).2.2; have LR := ae.mk (Kd.gy ho).2.1; clear ho hb))
 clear c0 c1 c2 c3 c4 c5 c6
 refine (lZ.calls Ar cr [x.f1] true _ HR.out LR.out M1.out).mono ?_
 rintro e wk ⟨rfl, hb⟩
 have iL := ae.mk (aN K3.out hb)
 clear K3
 have K3 := iL
 clear iL
 have ed := ae.mk (HI.out.step hb); have fB := ae.mk (HK.out.trans (Kp.below hb)); clear HI HK; have HI := ed; have HK := fB; clear ed fB
 clear hb
 have c0 := (af K3.out 0).trans rfl
 have c1 := (af K3.out 1).trans rfl
 have c2 := (af K3.out 2).trans rfl
 have c3 := (af K3.out 3).trans rfl
 have c4 := (af K3.out 4).trans rfl
 have c5 := (af K3.out 5).trans rfl
 have c6 := (af K3.out 6).trans rfl
 go_wp2
 go_ret
 exact ⟨rfl, HI.out, HK.out⟩
theorem agw (w0 : World) (bn bm B : Nat) (s : Int × List Int) (W : World) (x : ai) (A : Option Addr) (cb : Nat) (hI : mV w0 bn bm B s W) (h1 : ¬ 20000 < wrap64 (s.1 + 1)) (h2 : wR x = true) (h3 : lq x.f1 = true) (h4 : x.f0 = 1) (h5 : 0 ≤ x.f2) (h6 : x.f2 ≤ 2147483647) (h7 : x.f2 ∈ s.2) :
  Calls Try.prog 176 (#[.agg #[.int .u8 x.f0, .int .i64 x.f1.f0, .int .i64 x.f1.f1, .int .i64 x.f1.f2, .int .i64 x.f1.f3, .int .i64 x.f2, .slice A x.f3.length cb]] ++ #[.pointer (some ⟨bn, 0, none⟩), .pointer (some ⟨bm, 0, none⟩)]) W fun e w' => e = .returned (.bool (jm s x).1) ∧ mV w0 bn bm B (jm s x).2 w' ∧ Kp (v_ bn B) W w' := by
 rw [show jm s x = (false, (wrap64 (s.1 + 1), s.2)) from by unfold jm; rw [if_neg h1, Ah, h2, h3, if_neg (by simp), if_pos h4, if_pos h7]]
 have HN := ae.mk fun W => BN x A cb W
 rw [h2] at HN
 clear h2
 have M1 := ae.mk (show lZ.f [x.f1] = some true by simp [lZ.f, h3])
 clear h3
 have LK : ae ((Hf s.2).atKey (.int .i64 x.f2) (.lit (.bool false)) = .lit (.bool true)) := ⟨by rw [Rl, decide_eq_true h7]⟩
 clear h7
 have WF : ae ((Lit.int .i64 x.f2).wf = true) := ⟨WalkArith.wf_i64 (by omega)⟩
 have IE : (x.f0 == 1) = true := beq_iff_eq.mpr h4
 clear h4 h5 h6
 have HI := ae.mk hI
 have HK := ae.mk (Kp.refl (v_ bn B) W)
 clear hI
 simp only [List.append_toArray, List.cons_append, List.nil_append]
 go_enter Try.func176, Try.ntmps176
 go_wp2_with (first | ((with_reducible refine au (N := 3) rfl ?_); refine aG ?hg (N := 3) ?hd (cs := #[.int .u8 x.f0, .int .i64 x.f1.f0, .int .i64 x.f1.f1, .int .i64 x.f1.f2, .int .i64 x.f1.f3, .int .i64 x.f2, .slice A x.f3.length cb]) (t := 26) ?hr ?_; (case hd => rfl); (case hg => rfl); (case hr => (go_simp; done)); intro b3 hg w3 hbox hb; have K3 := ae.mk hbox; have ed := ae.mk (HI.out.step hb); have fB := ae.mk (HK.out.trans (Kp.below hb)); clear HI HK; have HI := ed; have HK := fB; clear ed fB; clear hb hbox hg; have cn := (af HI.out.hn 0).trans rfl) | ((with_reducible refine mO (.store 3 (.tmp 1) (.tmp 6)) rfl ?_); go_loud (clear cn; refine gQ (w0 := w0) rfl rfl 3 (.tmp 1) (.tmp 6) rfl (g := bn) (j := 0) (base := w0.heap.size) #[.int .i64 (wrap64 (s.1 + 1))] (u := .int .i64 (wrap64 (s.1 + 1))) (bu := [.int .i64 (wrap64 (s.1 + 1))]) ?sA ?sX rfl ?sT ?s1 HI.out.hn ?sJ rfl HI.out.below HI.out.below.size HI.out.gn ?_; (case sA => rfl); (case sX => rfl); (case sT => rfl); (case s1 => (simp [Value.oneCell'])); (case sJ => (simp)); intro ws hbk hbb hgg; have ed := ae.mk (HI.out.count hbk hbb hgg); have fB := ae.mk (HK.out.trans (Kp.grown hgg (Or.inl rfl))); have iL := ae.mk (bT K3.out hgg (fun e_ => uC K3.out HI.out.hn (by decide) (Option.some.inj e_))); clear HI HK K3 hbk hbb hgg; have HI := ed; have HK := fB; have K3 := iL; clear ed fB iL; have cn := (af HI.out.hn 0).trans rfl; have c0 := (af K3.out 0).trans rfl; have c1 := (af K3.out 1).trans rfl; have c2 := (af K3.out 2).trans rfl; have c3 := (af K3.out 3).trans rfl; have c4 := (af K3.out 4).trans rfl; have c5 := (af K3.out 5).trans rfl; have c6 := (af K3.out 6).trans rfl)))
 clear cn
 clear c0 c1 c2 c3 c4 c5 c6
 refine (HN.out _).mono ?_
 rintro e wk ⟨rfl, hb⟩
 have iL := ae.mk (aN K3.out hb)
 clear K3
 have K3 := iL
 clear iL
 have ed := ae.mk (HI.out.step hb); have fB := ae.mk (HK.out.trans (Kp.below hb)); clear HI HK; have HI := ed; have HK := fB; clear ed fB
 clear hb
 have c0 := (af K3.out 0).trans rfl
 have c1 := (af K3.out 1).trans rfl
 have c2 := (af K3.out 2).trans rfl
 have c3 := (af K3.out 3).trans rfl
 have c4 := (af K3.out 4).trans rfl
 have c5 := (af K3.out 5).trans rfl
 have c6 := (af K3.out 6).trans rfl
 go_wp2_with (((with_reducible refine au (N := 17) rfl ?_); (try (refine dM (by rfl) ?_; dsimp only)); refine Kd.xP k23 _ 23 ?hg (N := 17) ?hd (xs := ([x.f1] : List dK)) (inner := [.int .i64 x.f1.f0, .int .i64 x.f1.f1, .int .i64 x.f1.f2, .int .i64 x.f1.f3]) (ok := fun _ => True) (fG := fun _ => True) ?hr ?hp (fun _ hk => hk) trivial (Below.refl _ _) (Nat.le_refl _) (by simp) ?_; (case hd => rfl); (case hg => rfl); (case hr => (go_simp; done)); (case hp => exact (bF.c4 (show Kd.M k23 _ _ _ x.f1 [.int .i64 x.f1.f0, .int .i64 x.f1.f1, .int .i64 x.f1.f2, .int .i64 x.f1.f3] from rO _ _ _ x.f1) (bF.none _ _))); intro vr wr ho hb qA kT; clear qA kT; obtain ⟨Ar, cr, er⟩ := Kd.jw ho; subst er; have iL := ae.mk (aN K3.out hb); clear K3; have K3 := iL; clear iL; have ed := ae.mk (HI.out.step hb); have fB := ae.mk (HK.out.trans (Kp.below hb)); clear HI HK; have HI := ed; have HK := fB; clear ed fB; have HR := ae.mk (Kd.gy ho).2.2; have LR := ae.mk (Kd.gy ho).2.1; clear ho hb))
 clear c0 c1 c2 c3 c4 c5 c6
 refine (lZ.calls Ar cr [x.f1] true _ HR.out LR.out M1.out).mono ?_
 rintro e wk ⟨rfl, hb⟩
 have iL := ae.mk (aN K3.out hb)
 clear K3
 have K3 := iL
 clear iL
 have ed := ae.mk (HI.out.step hb); have fB := ae.mk (HK.out.trans (Kp.below hb)); clear HI HK; have HI := ed; have HK := fB; clear ed fB
 clear hb
 have c0 := (af K3.out 0).trans rfl
 have c1 := (af K3.out 1).trans rfl
 have c2 := (af K3.out 2).trans rfl
 have c3 := (af K3.out 3).trans rfl
 have c4 := (af K3.out 4).trans rfl
 have c5 := (af K3.out 5).trans rfl
 have c6 := (af K3.out 6).trans rfl
 have cm := (af HI.out.hm 0).trans rfl
 go_wp2_with (((with_reducible refine au (N := 29) rfl ?_); (try (refine dM (by rfl) ?_; dsimp only)); refine F7 _ rfl _ _ 161 rfl 3 4 (Maps.int_keyed Try.underlying3) Try.underlying161 Try.underlying4 (Zj _) B _ _ rfl HI.out.map _ (.int .i64 x.f2) rfl (Maps.keyOf_int_mk Try.underlying3 WF.out) true LK.out ?_))
 go_ret
 exact ⟨rfl, HI.out, HK.out⟩
theorem agx (w0 : World) (bn bm B : Nat) (s : Int × List Int) (W : World) (x : ai) (A : Option Addr) (cb : Nat) (hI : mV w0 bn bm B s W) (h1 : ¬ 20000 < wrap64 (s.1 + 1)) (h2 : wR x = true) (h3 : lq x.f1 = true) (h4 : x.f0 = 1) (h5 : 0 ≤ x.f2) (h6 : x.f2 ≤ 2147483647) (h7 : x.f2 ∉ s.2) :
  Calls Try.prog 176 (#[.agg #[.int .u8 x.f0, .int .i64 x.f1.f0, .int .i64 x.f1.f1, .int .i64 x.f1.f2, .int .i64 x.f1.f3, .int .i64 x.f2, .slice A x.f3.length cb]] ++ #[.pointer (some ⟨bn, 0, none⟩), .pointer (some ⟨bm, 0, none⟩)]) W fun e w' => e = .returned (.bool (jm s x).1) ∧ mV w0 bn bm B (jm s x).2 w' ∧ Kp (v_ bn B) W w' := by
 rw [show jm s x = (true, (wrap64 (s.1 + 1), x.f2 :: s.2)) from by unfold jm; rw [if_neg h1, Ah, h2, h3, if_neg (by simp), if_pos h4, if_neg h7]]
 have HN := ae.mk fun W => BN x A cb W
 rw [h2] at HN
 clear h2
 have M1 := ae.mk (show lZ.f [x.f1] = some true by simp [lZ.f, h3])
 clear h3
 have LK : ae ((Hf s.2).atKey (.int .i64 x.f2) (.lit (.bool false)) = .lit (.bool false)) := ⟨by rw [Rl, decide_eq_false h7]⟩
 have NM := ae.mk h7
 clear h7
 have AL : ae (s.2.length < maxLen) := ⟨by have h8 := X4 2147483648 s.2 hI.nd (fun i hi => by have := hI.rg i hi; omega); unfold maxLen; omega⟩
 have I0 := ae.mk h5
 have I1 := ae.mk h6
 have WF : ae ((Lit.int .i64 x.f2).wf = true) := ⟨WalkArith.wf_i64 (by omega)⟩
 have IE : (x.f0 == 1) = true := beq_iff_eq.mpr h4
 clear h4 h5 h6
 have HI := ae.mk hI
 have HK := ae.mk (Kp.refl (v_ bn B) W)
 clear hI
 simp only [List.append_toArray, List.cons_append, List.nil_append]
 go_enter Try.func176, Try.ntmps176
 go_wp2_with (first | ((with_reducible refine au (N := 3) rfl ?_); refine aG ?hg (N := 3) ?hd (cs := #[.int .u8 x.f0, .int .i64 x.f1.f0, .int .i64 x.f1.f1, .int .i64 x.f1.f2, .int .i64 x.f1.f3, .int .i64 x.f2, .slice A x.f3.length cb]) (t := 26) ?hr ?_; (case hd => rfl); (case hg => rfl); (case hr => (go_simp; done)); intro b3 hg w3 hbox hb; have K3 := ae.mk hbox; have ed := ae.mk (HI.out.step hb); have fB := ae.mk (HK.out.trans (Kp.below hb)); clear HI HK; have HI := ed; have HK := fB; clear ed fB; clear hb hbox hg; have cn := (af HI.out.hn 0).trans rfl) | ((with_reducible refine mO (.store 3 (.tmp 1) (.tmp 6)) rfl ?_); go_loud (clear cn; refine gQ (w0 := w0) rfl rfl 3 (.tmp 1) (.tmp 6) rfl (g := bn) (j := 0) (base := w0.heap.size) #[.int .i64 (wrap64 (s.1 + 1))] (u := .int .i64 (wrap64 (s.1 + 1))) (bu := [.int .i64 (wrap64 (s.1 + 1))]) ?sA ?sX rfl ?sT ?s1 HI.out.hn ?sJ rfl HI.out.below HI.out.below.size HI.out.gn ?_; (case sA => rfl); (case sX => rfl); (case sT => rfl); (case s1 => (simp [Value.oneCell'])); (case sJ => (simp)); intro ws hbk hbb hgg; have ed := ae.mk (HI.out.count hbk hbb hgg); have fB := ae.mk (HK.out.trans (Kp.grown hgg (Or.inl rfl))); have iL := ae.mk (bT K3.out hgg (fun e_ => uC K3.out HI.out.hn (by decide) (Option.some.inj e_))); clear HI HK K3 hbk hbb hgg; have HI := ed; have HK := fB; have K3 := iL; clear ed fB iL; have cn := (af HI.out.hn 0).trans rfl; have c0 := (af K3.out 0).trans rfl; have c1 := (af K3.out 1).trans rfl; have c2 := (af K3.out 2).trans rfl; have c3 := (af K3.out 3).trans rfl; have c4 := (af K3.out 4).trans rfl; have c5 := (af K3.out 5).trans rfl; have c6 := (af K3.out 6).trans rfl)))
 clear cn
 clear c0 c1 c2 c3 c4 c5 c6
 refine (HN.out _).mono ?_
 rintro e wk ⟨rfl, hb⟩
 have iL := ae.mk (aN K3.out hb)
 clear K3
 have K3 := iL
 clear iL
 have ed := ae.mk (HI.out.step hb); have fB := ae.mk (HK.out.trans (Kp.below hb)); clear HI HK; have HI := ed; have HK := fB; clear ed fB
 clear hb
 have c0 := (af K3.out 0).trans rfl
 have c1 := (af K3.out 1).trans rfl
 have c2 := (af K3.out 2).trans rfl
 have c3 := (af K3.out 3).trans rfl
 have c4 := (af K3.out 4).trans rfl
 have c5 := (af K3.out 5).trans rfl
 have c6 := (af K3.out 6).trans rfl
 go_wp2_with (((with_reducible refine au (N := 17) rfl ?_); (try (refine dM (by rfl) ?_; dsimp only)); refine Kd.xP k23 _ 23 ?hg (N := 17) ?hd (xs := ([x.f1] : List dK)) (inner := [.int .i64 x.f1.f0, .int .i64 x.f1.f1, .int .i64 x.f1.f2, .int .i64 x.f1.f3]) (ok := fun _ => True) (fG := fun _ => True) ?hr ?hp (fun _ hk => hk) trivial (Below.refl _ _) (Nat.le_refl _) (by simp) ?_; (case hd => rfl); (case hg => rfl); (case hr => (go_simp; done)); (case hp => exact (bF.c4 (show Kd.M k23 _ _ _ x.f1 [.int .i64 x.f1.f0, .int .i64 x.f1.f1, .int .i64 x.f1.f2, .int .i64 x.f1.f3] from rO _ _ _ x.f1) (bF.none _ _))); intro vr wr ho hb qA kT; clear qA kT; obtain ⟨Ar, cr, er⟩ := Kd.jw ho; subst er; have iL := ae.mk (aN K3.out hb); clear K3; have K3 := iL; clear iL; have ed := ae.mk (HI.out.step hb); have fB := ae.mk (HK.out.trans (Kp.below hb)); clear HI HK; have HI := ed; have HK := fB; clear ed fB; have HR := ae.mk (Kd.gy ho).2.2; have LR := ae.mk (Kd.gy ho).2.1; clear ho hb))
 clear c0 c1 c2 c3 c4 c5 c6
 refine (lZ.calls Ar cr [x.f1] true _ HR.out LR.out M1.out).mono ?_
 rintro e wk ⟨rfl, hb⟩
 have iL := ae.mk (aN K3.out hb)
 clear K3
 have K3 := iL
 clear iL
 have ed := ae.mk (HI.out.step hb); have fB := ae.mk (HK.out.trans (Kp.below hb)); clear HI HK; have HI := ed; have HK := fB; clear ed fB
 clear hb
 have c0 := (af K3.out 0).trans rfl
 have c1 := (af K3.out 1).trans rfl
 have c2 := (af K3.out 2).trans rfl
 have c3 := (af K3.out 3).trans rfl
 have c4 := (af K3.out 4).trans rfl
 have c5 := (af K3.out 5).trans rfl
 have c6 := (af K3.out 6).trans rfl
 have cm := (af HI.out.hm 0).trans rfl
 go_wp2_with (first | ((with_reducible refine au (N := 29) rfl ?_); (try (refine dM (by rfl) ?_; dsimp only)); refine F7 _ rfl _ _ 161 rfl 3 4 (Maps.int_keyed Try.underlying3) Try.underlying161 Try.underlying4 (Zj _) B _ _ rfl HI.out.map _ (.int .i64 x.f2) rfl (Maps.keyOf_int_mk Try.underlying3 WF.out) false LK.out ?_) | (at_mapUpdate; refine wpList_mapUpdate_own _ rfl _ _ _ 161 rfl 3 4 (Maps.int_keyed Try.underlying3) Try.underlying161 _ B _ _ rfl HI.out.map AL.out _ _ (.int .i64 x.f2) rfl rfl (Maps.keyOf_int_mk Try.underlying3 WF.out) (.lit (.bool true)) [] (plainElem_bool Try.underlying4 true) ?_; intro wu hown1 hgrow1; have ed := ae.mk (HI.out.met hown1 hgrow1 NM.out I0.out I1.out); have fB := ae.mk (HK.out.trans (Kp.grown hgrow1 (Or.inr rfl))); clear HI HK hown1 hgrow1; have HI := ed; have HK := fB; clear ed fB))
 go_ret
 exact ⟨rfl, HI.out, HK.out⟩
theorem aeX (w0 : World) (bn bm B : Nat) (s : Int × List Int) (W : World) (x : ai) (A : Option Addr) (cb : Nat) (hI : mV w0 bn bm B s W) :
  Calls Try.prog 176 (#[.agg #[.int .u8 x.f0, .int .i64 x.f1.f0, .int .i64 x.f1.f1, .int .i64 x.f1.f2, .int .i64 x.f1.f3, .int .i64 x.f2, .slice A x.f3.length cb]] ++ #[.pointer (some ⟨bn, 0, none⟩), .pointer (some ⟨bm, 0, none⟩)]) W fun e w' => e = .returned (.bool (jm s x).1) ∧ mV w0 bn bm B (jm s x).2 w' ∧ Kp (v_ bn B) W w' := by
 by_cases h1 : 20000 < wrap64 (s.1 + 1)
 ·exact ags w0 bn bm B s W x A cb hI h1
 ·cases h2 : wR x with
  | false => exact agt w0 bn bm B s W x A cb hI h1 h2
  | true =>
   cases h3 : lq x.f1 with
   | false => exact agu w0 bn bm B s W x A cb hI h1 h2 h3
   | true =>
    by_cases h4 : x.f0 = 1
    ·have h8 := h2
     unfold wR at h8
     rw [if_pos h4] at h8
     simp only [Bool.and_eq_true, decide_eq_true_eq] at h8
     by_cases h7 : x.f2 ∈ s.2
     ·exact agw w0 bn bm B s W x A cb hI h1 h2 h3 h4 h8.2.1 h8.2.2 h7
     ·exact agx w0 bn bm B s W x A cb hI h1 h2 h3 h4 h8.2.1 h8.2.2 h7
    ·exact agv w0 bn bm B s W x A cb hI h1 h2 h3 h4
section
variable {P : Program} {ops : Array Oper} {rest : List Oper} {o : Oper} {a : Act} {Q : Exit → Act → World → Prop}
theorem VY {W : World} (hgd : o.guard = none) {N : Tmp} (_hd : o.dst = some N) (t k e : TypeId) (ho : o.op = .makeMap t none)
  (h : ∀ g, g = W.heap.size → ∀ w1, Below W.heap.size W w1 → w1.ownsMap (H := Unit) P k (plainElem P e) g 0 (.map []) → wpList P ops Q rest (a.put o.dst (.map (some g))) w1) : wpList P ops Q (o :: rest) a W := by
 refine Kd.AX hgd (w1 := W.alloc (.map #[] 0)) (v := .map (some W.heap.size)) ?_ (h _ rfl _ (aX (Below.refl _ _) _) (World.ownsMap_made W P k _))
 unfold execOp
 simp [ho, run_makeMap, Result.andThen]
end
theorem aeW (c : ai) (A : Option Addr) (cc : Nat) (W : World) (hz : sz c ≤ 1048576) (hr : Kd.C k26 W A c.f3.length c.f3) (hc : c.f3.length ≤ cc) : Calls Try.prog 144 #[.agg #[.int .u8 c.f0, .int .i64 c.f1.f0, .int .i64 c.f1.f1, .int .i64 c.f1.f2, .int .i64 c.f1.f3, .int .i64 c.f2, .slice A c.f3.length cc]] W fun e w' => e = .returned (.bool (lH c)) ∧ Below W.heap.size W w' := by
 have WU := ae.mk fun (bn bm B : Nat) (W1 : World) (hI : mV W bn bm B (0, []) W1) => acW (v_ bn B) (mV W bn bm B) jm 176 #[.pointer (some ⟨bn, 0, none⟩), .pointer (some ⟨bm, 0, none⟩)] (qL Try.func176 (by decide +kernel) (by kernel_rfl)) W (fun s w h => h.below) (fun s w w' h hb => h.step hb)
  (fun s w h k hk => hk.elim (fun e => e ▸ fU h.hn) (fun e => e ▸ h.map.lt)) (fun s w x B' cb h _ _ => aeX W bn bm B s w x B' cb h) (sz c) c (Nat.le_refl _) A cc hr hc (0, []) W1 hI
 rw [Xb c hz] at WU
 have HB := ae.mk (Below.refl W.heap.size W)
 clear hr hc hz
 generalize lH c = r at WU ⊢
 go_enter Try.func144, Try.ntmps144
 go_wp2_with (first | ((with_reducible refine au (N := 1) rfl ?_); refine aG ?hg (N := 1) ?hd (cs := #[.int .u8 c.f0, .int .i64 c.f1.f0, .int .i64 c.f1.f1, .int .i64 c.f1.f2, .int .i64 c.f1.f3, .int .i64 c.f2, .slice A c.f3.length cc]) (t := 26) ?hr ?_; (case hd => rfl); (case hg => rfl); (case hr => (go_simp; done)); intro b1 hg Zf hbox hb; have dW := ae.mk hbox; have dm := ae.mk (ak HB.out hb); clear HB; have HB := dm; clear dm; clear hb hbox hg) | ((with_reducible refine au (N := 5) rfl ?_); refine VY rfl (N := 5) rfl 161 3 4 rfl ?_; intro B hg wB hb hM; have GB := ae.mk (show W.heap.size ≤ B by rw [hg]; exact HB.out.size); have HM := ae.mk hM; have dm := ae.mk (ak HB.out hb); have gK := ae.mk (aN dW.out hb); clear HB dW; have HB := dm; have dW := gK; clear dm gK; clear hb hM hg) | ((with_reducible refine au (N := 3) rfl ?_); refine aG ?hg (N := 3) ?hd (cs := #[.map none]) (t := 161) ?hr ?_; (case hd => rfl); (case hg => rfl); (case hr => (go_simp; done)); intro bm hg wbm hbox hb; have Bz := ae.mk hbox; have Gbm := ae.mk (show W.heap.size ≤ bm by rw [hg]; exact HB.out.size); have dm := ae.mk (ak HB.out hb); have gK := ae.mk (aN dW.out hb); have Aj := ae.mk (HM.out.kept (below_grown hb) (by simp)); clear HB dW HM; have HB := dm; have dW := gK; have HM := Aj; clear dm gK Aj; clear hb hbox hg) | ((with_reducible refine mO (.store 161 (.tmp 3) (.tmp 5)) rfl ?_); go_loud (refine gQ (w0 := W) rfl rfl 161 (.tmp 3) (.tmp 5) rfl (g := bm) (j := 0) (base := W.heap.size) #[.map (some B)] (u := .map (some B)) (bu := [.map (some B)]) ?sA ?sX rfl ?sT ?s1 Bz.out ?sJ rfl HB.out HB.out.size Gbm.out ?_; (case sA => rfl); (case sX => rfl); (case sT => rfl); (case s1 => (simp [Value.oneCell'])); (case sJ => (simp)); intro alO hbk hbb hgg; have NB : ae (B ≠ bm) := ⟨fun e => by have hq := Bz.out; obtain ⟨es, cl, hB, _⟩ := HM.out; rw [← e, hB] at hq; cases hq⟩; have gK := ae.mk (bT dW.out hgg (fun e_ => uC dW.out Bz.out (by decide) (Option.some.inj e_))); have Aj := ae.mk (HM.out.kept hgg (fun e_ => NB.out (Option.some.inj e_))); clear dW HM; have dW := gK; have HM := Aj; clear gK Aj; clear Bz HB; have Bz := ae.mk hbk; have HB := ae.mk hbb; clear hbk hbb hgg)) | ((with_reducible refine au (N := 4) rfl ?_); refine aG ?hg (N := 4) ?hd (cs := #[.int .i64 0]) (t := 3) ?hr ?_; (case hd => rfl); (case hg => rfl); (case hr => (go_simp; done)); intro bn hg wbn hbox hb; have ND := ae.mk hbox; have Gbn := ae.mk (show W.heap.size ≤ bn by rw [hg]; exact HB.out.size); have dm := ae.mk (ak HB.out hb); have gK := ae.mk (aN dW.out hb); have IZ := ae.mk (aN Bz.out hb); have Aj := ae.mk (HM.out.kept (below_grown hb) (by simp)); clear HB dW Bz HM; have HB := dm; have dW := gK; have Bz := IZ; have HM := Aj; clear dm gK IZ Aj; clear hb hbox hg) | ((with_reducible refine mO (.store 3 (.tmp 4) (.const (.int .i64 0))) rfl ?_); go_loud (refine gQ (w0 := W) rfl rfl 3 (.tmp 4) (.const (.int .i64 0)) rfl (g := bn) (j := 0) (base := W.heap.size) #[.int .i64 0] (u := .int .i64 0) (bu := [.int .i64 0]) ?sA ?sX rfl ?sT ?s1 ND.out ?sJ rfl HB.out HB.out.size Gbn.out ?_; (case sA => rfl); (case sX => rfl); (case sT => rfl); (case s1 => (simp [Value.oneCell'])); (case sJ => (decide)); intro alP hbk hbb hgg; have NN : ae (B ≠ bn) := ⟨fun e => by have hq := ND.out; obtain ⟨es, cl, hB, _⟩ := HM.out; rw [← e, hB] at hq; cases hq⟩; have gK := ae.mk (bT dW.out hgg (fun e_ => uC dW.out ND.out (by decide) (Option.some.inj e_))); have IZ := ae.mk (bT Bz.out hgg (fun e_ => uC Bz.out ND.out (by decide) (Option.some.inj e_))); have Aj := ae.mk (HM.out.kept hgg (fun e_ => NN.out (Option.some.inj e_))); clear dW Bz HM; have dW := gK; have Bz := IZ; have HM := Aj; clear gK IZ Aj; clear ND HB; have ND := ae.mk hbk; have HB := ae.mk hbb; clear hbk hbb hgg; have c0 := (af dW.out 0).trans rfl; have c1 := (af dW.out 1).trans rfl; have c2 := (af dW.out 2).trans rfl; have c3 := (af dW.out 3).trans rfl; have c4 := (af dW.out 4).trans rfl; have c5 := (af dW.out 5).trans rfl; have c6 := (af dW.out 6).trans rfl)))
 clear c0 c1 c2 c3 c4 c5 c6
 refine (WU.out bn bm B _ ⟨ND.out, Bz.out, HM.out, HB.out, Gbn.out, GB.out, List.nodup_nil, fun i hi => absurd hi (by simp)⟩).mono ?_
 rintro e w' ⟨rfl, hi, _⟩
 have HI := ae.mk hi.below
 clear hi
 go_wp2
 go_ret
 exact ⟨rfl, HI.out⟩
theorem aeV (c : ai) (A : Option Addr) (cc : Nat) (W : World) (hz : sz c ≤ 1048576) (hr : Kd.C k26 W A c.f3.length c.f3) (hc : c.f3.length ≤ cc) : Calls Try.prog 143 #[.agg #[.int .u8 c.f0, .int .i64 c.f1.f0, .int .i64 c.f1.f1, .int .i64 c.f1.f2, .int .i64 c.f1.f3, .int .i64 c.f2, .slice A c.f3.length cc]] W fun e w' => e = .returned (.bool (!lH c)) ∧ Below W.heap.size W w' := by
 have H := ae.mk fun (W1 : World) (hb : Below W.heap.size W W1) => aeW c A cc W1 hz (Kd.eY hr hb) hc
 clear hr hc hz
 cases hm : lH c
 all_goals
  rw [hm] at H
  clear hm
  go_enter Try.func143, Try.ntmps143
  go_wp2_with (((with_reducible refine au (N := 1) rfl ?_); refine aG ?hg (N := 1) ?hd (cs := #[.int .u8 c.f0, .int .i64 c.f1.f0, .int .i64 c.f1.f1, .int .i64 c.f1.f2, .int .i64 c.f1.f3, .int .i64 c.f2, .slice A c.f3.length cc]) (t := 26) ?hr ?_; (case hd => rfl); (case hg => rfl); (case hr => (go_simp; done)); intro b1 hg w1 hbox hb; have HB := ae.mk hb; have K1 := ae.mk hbox; clear hb hbox hg; have c0 := (af K1.out 0).trans rfl; have c1 := (af K1.out 1).trans rfl; have c2 := (af K1.out 2).trans rfl; have c3 := (af K1.out 3).trans rfl; have c4 := (af K1.out 4).trans rfl; have c5 := (af K1.out 5).trans rfl; have c6 := (af K1.out 6).trans rfl))
  clear c0 c1 c2 c3 c4 c5 c6
  refine (H.out _ HB.out).mono ?_
  rintro e w' ⟨rfl, hb⟩
  have HB2 := ae.mk (ak HB.out hb)
  clear hb
  go_wp2
  go_ret
  exact ⟨rfl, HB2.out⟩
def sU.f (l0 : List ai) : Option Bool := if l0.all (fun c => decide (sz c ≤ 1048576)) = true then some (l0.all lH) else none
theorem sU.calls (A0 : Option Addr) (c0 : Nat) (l0 : List ai) (r : Bool) (w : World) (hr0 : Kd.C k26 w A0 l0.length l0) (hc0 : l0.length ≤ c0) (h : sU.f l0 = some r) :
  Calls Try.prog 76 #[.slice A0 l0.length c0] w fun e w' => e = .returned (.bool r) ∧ Below w.heap.size w w' := by
 unfold sU.f at h
 split at h
 ·rename_i hz
  injection h with h
  have hcon := UQ (fun (_ : Unit) W => Below w.heap.size w W) (fun _ x => (!lH x, ())) 143 #[] (qL Try.func143 (by decide +kernel) (by kernel_rfl)) l0 A0 c0 w hr0 (fun _ W hW => hW) (fun _ W n hW => aV hW n)
   (fun _ W x B cb hx hW hC hl => by
    rw [show (#[Value.agg #[.int .u8 x.f0, .int .i64 x.f1.f0, .int .i64 x.f1.f1, .int .i64 x.f1.f2, .int .i64 x.f1.f3, .int .i64 x.f2, .slice B x.f3.length cb]] ++ #[] : Array Value) = #[.agg #[.int .u8 x.f0, .int .i64 x.f1.f0, .int .i64 x.f1.f1, .int .i64 x.f1.f2, .int .i64 x.f1.f3, .int .i64 x.f2, .slice B x.f3.length cb]] by simp]
    exact (aeV x B cb W (of_decide_eq_true (List.all_eq_true.1 hz x hx)) (Kd.eY hC hW) hl).mono fun e w' ⟨he, hb⟩ => ⟨he, wG hW hW.size hb⟩) () w (Below.refl _ _) hr0.2.1
  rw [LX] at hcon
  have hnone := Q8 l0 A0 c0 143 #[] _ _ w hcon (fun W n hW => aV hW n)
  have e1 : r = !(l0.any fun x => !lH x) := by
   rw [← h]
   clear h hcon hr0 hc0 hz hnone
   induction l0 with
   | nil => rfl
   | cons x xs ih => simp only [List.all_cons, List.any_cons, ih, Bool.not_or, Bool.not_not]
  subst e1
  generalize (l0.any fun x => !lH x) = b at hnone
  have HC := ae.mk hnone
  clear hcon h hr0 hnone hz
  go_enter Try.func76, Try.ntmps76
  go_wp2_with fail
  refine HC.out.mono ?_
  rintro e w' ⟨rfl, hb⟩
  have HB := ae.mk hb
  clear hb
  go_wp2
  go_ret
  exact ⟨rfl, HB.out⟩
 ·exact absurd h (by simp)
theorem PH {x : ByteArray} {w : World} {A : Option Addr} (h : Kd.C Kd.string w A 1 [x]) : ∃ ad, A = some ad := by
 obtain ⟨ad, h1, _⟩ := h.2.2 (by omega)
 exact ⟨ad, h1⟩
theorem Xp (c : ai) (hz : sz c ≤ 1048576) (A : Option Addr) (cc : Nat) (w : World) (hr : Kd.C k26 w A c.f3.length c.f3) (hc : c.f3.length ≤ cc) :
  Calls Try.prog 180 #[.agg #[.int .u8 c.f0, .int .i64 c.f1.f0, .int .i64 c.f1.f1, .int .i64 c.f1.f2, .int .i64 c.f1.f3, .int .i64 c.f2, .slice A c.f3.length cc]] w fun e w' => (if dF c = true then e = .returned .nilIface else ∃ t u, e = .returned (.iface t u)) ∧ Below w.heap.size w w' := by
 have hM : sU.f [c] = some (lH c) := by
  unfold sU.f
  rw [if_pos (by simp [hz])]
  simp
 have hW : lH c = true → ∀ (gw : Nat) (W : World), w.heap.size ≤ gw → qj w gw 0 W → Calls Try.prog 197 #[.pointer (some ⟨gw, 0, none⟩), .agg #[.int .u8 c.f0, .int .i64 c.f1.f0, .int .i64 c.f1.f1, .int .i64 c.f1.f2, .int .i64 c.f1.f3, .int .i64 c.f2, .slice A c.f3.length cc]] W fun e w' => e = .returned (.bool (mf c)) ∧ qj w gw (0 + dO c.f3) w' ∧ Fr gw W w' := fun hm gw W hg hI => abS w gw hg (sz c) c (Nat.le_refl _) (pJ hm) A cc hr hc 0 W (by have := pJ hm; have := bP c; omega) hI
 unfold dF
 have HR := ae.mk hr
 have HC := ae.mk hc
 have HM := ae.mk hM
 have HW := ae.mk hW
 have HB := ae.mk (Below.refl w.heap.size w)
 clear hr hc hM hW hz
 obtain ⟨ck, ⟨cx, cy, cw, ch⟩, aQ, l⟩ := c
 simp only [] at HR HC HW ⊢
 generalize mf ⟨ck, ⟨cx, cy, cw, ch⟩, aQ, l⟩ = q at HW ⊢
 cases hm : lH (⟨ck, ⟨cx, cy, cw, ch⟩, aQ, l⟩ : ai) with
 | false =>
  rw [hm] at HM
  have HM := HM
  simp only [Bool.false_and, Bool.false_eq_true, if_false]
  clear hm HW
  go_enter Try.func180, Try.ntmps180
  go_wp2_with (first
   | ((with_reducible refine au (N := 1) rfl ?_); refine aG ?hg (N := 1) ?hd (cs := #[.int .u8 ck, .int .i64 cx, .int .i64 cy, .int .i64 cw, .int .i64 ch, .int .i64 aQ, .slice A l.length cc]) (t := 26) ?hr ?_; (case hd => rfl); (case hg => rfl); (case hr => first | (go_simp; done) | (go_simp; rfl)); intro b1 hg Zf hbox hb; have dW := ae.mk hbox; have dm := ae.mk (ak HB.out hb); clear HB; have HB := dm; clear dm; clear hb hbox hg)
   | ((with_reducible refine au (N := 5) rfl ?_); refine aG ?hg (N := 5) ?hd (cs := #[.int .i64 0, .slice none 0 0]) (t := 182) ?hr ?_; (case hd => rfl); (case hg => rfl); (case hr => first | (go_simp; done) | (go_simp; rfl)); intro gw hg wgw hbox hb; have qf := ae.mk hbox; have GG := ae.mk (show w.heap.size ≤ gw by rw [hg]; exact HB.out.size); have dm := ae.mk (ak HB.out hb); have gK := ae.mk (aN dW.out hb); clear HB dW; have HB := dm; have dW := gK; clear dm gK; have c0 := (af dW.out 0).trans rfl; have c1 := (af dW.out 1).trans rfl; have c2 := (af dW.out 2).trans rfl; have c3 := (af dW.out 3).trans rfl; have c4 := (af dW.out 4).trans rfl; have c5 := (af dW.out 5).trans rfl; have c6 := (af dW.out 6).trans rfl; clear hb hbox hg)
   | ((with_reducible refine au (N := 8) rfl ?_); refine Kd.zk k26 _ 26 ?hg (N' := 8) ?hd (xs := [(⟨ck, ⟨cx, cy, cw, ch⟩, aQ, l⟩ : ai)]) (inner := [.int .u8 ck, .int .i64 cx, .int .i64 cy, .int .i64 cw, .int .i64 ch, .int .i64 aQ, .slice A l.length cc]) (ok := fun _ => True) (fG := fun _ => True) ?hr ?hp (fun _ hk => hk) trivial (Below.refl _ _) (Nat.le_refl _) (by simp) ?_; (case hd => rfl); (case hg => rfl); (case hr => first | (go_simp; done) | (go_simp; rfl)); (case hp => exact (bF.c7 (nH _ _ (⟨ck, ⟨cx, cy, cw, ch⟩, aQ, l⟩ : ai) HC.out (Kd.sG (Kd.KX sW (Kd.eY HR.out HB.out)) (fun _ _ => trivial))) (bF.none _ _))); intro vr wr ho hb qA kT; clear qA kT; obtain ⟨Am, cm, er⟩ := Kd.jJ ho; subst er; have dm := ae.mk (ak HB.out hb); have gK := ae.mk (aN dW.out hb); have pR := ae.mk (aN qf.out hb); clear HB dW qf; have HB := dm; have dW := gK; have qf := pR; clear dm gK pR; have Hm := ae.mk (Kd.jO ho).2.2; have Lm := ae.mk (Kd.jO ho).2.1; clear ho hb c0 c1 c2 c3 c4 c5 c6)
   | fail)
  refine (sU.calls Am cm [(⟨ck, ⟨cx, cy, cw, ch⟩, aQ, l⟩ : ai)] false _ Hm.out Lm.out HM.out).mono ?_
  rintro e w1 ⟨rfl, hb⟩
  have dm := ae.mk (ak HB.out hb); have gK := ae.mk (aN dW.out hb); have pR := ae.mk (aN qf.out hb); clear HB dW qf; have HB := dm; have dW := gK; have qf := pR; clear dm gK pR
  clear hb Hm Lm
  go_wp2_with fail
  refine (V5 1 0 (by decide) _).mono ?_
  rintro e w2 ⟨⟨tv, v, rfl⟩, hb⟩
  have dm := ae.mk (ak HB.out hb); clear HB; have HB := dm; clear dm
  clear hb
  go_wp2_with (first
   | ((with_reducible refine au (N := 12) rfl ?_); refine Kd.xP Kd.string _ 9 ?hg (N := 12) ?hd (xs := [(⟨#[108, 97, 121, 111, 117, 116]⟩ : ByteArray)]) (inner := [.string (⟨#[108, 97, 121, 111, 117, 116]⟩ : ByteArray)]) (ok := fun _ => True) (fG := fun _ => True) ?hr ?hp (fun _ hk => hk) trivial (Below.refl _ _) (Nat.le_refl _) (by simp) ?_; (case hd => rfl); (case hg => rfl); (case hr => first | (go_simp; done) | (go_simp; rfl)); (case hp => exact (bF.one (show Kd.M Kd.string _ _ _ (⟨#[108, 97, 121, 111, 117, 116]⟩ : ByteArray) [.string (⟨#[108, 97, 121, 111, 117, 116]⟩ : ByteArray)] from rfl) (bF.none _ _))); intro vs wr ho hb qA kT; clear qA kT; obtain ⟨As, cs_, er⟩ := Kd.jw ho; subst er; have dm := ae.mk (ak HB.out hb); clear HB; have HB := dm; clear dm; have Hs := ae.mk (Kd.gy ho).2.2; have Ls := ae.mk (Kd.gy ho).2.1; clear ho hb)
   | fail)
  obtain ⟨ad, ea⟩ := PH Hs.out
  subst ea
  refine (YX tv v ad cs_ _ _ Hs.out Ls.out).mono ?_
  rintro e w3 ⟨⟨tu, u, rfl⟩, hb⟩
  have dm := ae.mk (ak HB.out hb); clear HB; have HB := dm; clear dm
  clear hb Hs Ls
  go_wp2
  go_ret
  exact ⟨⟨_, _, rfl⟩, HB.out⟩
 | true =>
  rw [hm] at HM
  have HW := ae.mk (HW.out hm)
  simp only [Bool.true_and]
  clear hm
  cases q with
  | true =>
   simp only [if_true]
   go_enter Try.func180, Try.ntmps180
   go_wp2_with (first
    | ((with_reducible refine au (N := 1) rfl ?_); refine aG ?hg (N := 1) ?hd (cs := #[.int .u8 ck, .int .i64 cx, .int .i64 cy, .int .i64 cw, .int .i64 ch, .int .i64 aQ, .slice A l.length cc]) (t := 26) ?hr ?_; (case hd => rfl); (case hg => rfl); (case hr => first | (go_simp; done) | (go_simp; rfl)); intro b1 hg Zf hbox hb; have dW := ae.mk hbox; have dm := ae.mk (ak HB.out hb); clear HB; have HB := dm; clear dm; clear hb hbox hg)
    | ((with_reducible refine au (N := 5) rfl ?_); refine aG ?hg (N := 5) ?hd (cs := #[.int .i64 0, .slice none 0 0]) (t := 182) ?hr ?_; (case hd => rfl); (case hg => rfl); (case hr => first | (go_simp; done) | (go_simp; rfl)); intro gw hg wgw hbox hb; have qf := ae.mk hbox; have GG := ae.mk (show w.heap.size ≤ gw by rw [hg]; exact HB.out.size); have dm := ae.mk (ak HB.out hb); have gK := ae.mk (aN dW.out hb); clear HB dW; have HB := dm; have dW := gK; clear dm gK; have c0 := (af dW.out 0).trans rfl; have c1 := (af dW.out 1).trans rfl; have c2 := (af dW.out 2).trans rfl; have c3 := (af dW.out 3).trans rfl; have c4 := (af dW.out 4).trans rfl; have c5 := (af dW.out 5).trans rfl; have c6 := (af dW.out 6).trans rfl; clear hb hbox hg)
    | ((with_reducible refine au (N := 8) rfl ?_); refine Kd.zk k26 _ 26 ?hg (N' := 8) ?hd (xs := [(⟨ck, ⟨cx, cy, cw, ch⟩, aQ, l⟩ : ai)]) (inner := [.int .u8 ck, .int .i64 cx, .int .i64 cy, .int .i64 cw, .int .i64 ch, .int .i64 aQ, .slice A l.length cc]) (ok := fun _ => True) (fG := fun _ => True) ?hr ?hp (fun _ hk => hk) trivial (Below.refl _ _) (Nat.le_refl _) (by simp) ?_; (case hd => rfl); (case hg => rfl); (case hr => first | (go_simp; done) | (go_simp; rfl)); (case hp => exact (bF.c7 (nH _ _ (⟨ck, ⟨cx, cy, cw, ch⟩, aQ, l⟩ : ai) HC.out (Kd.sG (Kd.KX sW (Kd.eY HR.out HB.out)) (fun _ _ => trivial))) (bF.none _ _))); intro vr wr ho hb qA kT; clear qA kT; obtain ⟨Am, cm, er⟩ := Kd.jJ ho; subst er; have dm := ae.mk (ak HB.out hb); have gK := ae.mk (aN dW.out hb); have pR := ae.mk (aN qf.out hb); clear HB dW qf; have HB := dm; have dW := gK; have qf := pR; clear dm gK pR; have Hm := ae.mk (Kd.jO ho).2.2; have Lm := ae.mk (Kd.jO ho).2.1; clear ho hb c0 c1 c2 c3 c4 c5 c6)
    | fail)
   refine (sU.calls Am cm [(⟨ck, ⟨cx, cy, cw, ch⟩, aQ, l⟩ : ai)] true _ Hm.out Lm.out HM.out).mono ?_
   rintro e w1 ⟨rfl, hb⟩
   have dm := ae.mk (ak HB.out hb); have gK := ae.mk (aN dW.out hb); have pR := ae.mk (aN qf.out hb); clear HB dW qf; have HB := dm; have dW := gK; have qf := pR; clear dm gK pR
   clear hb Hm Lm
   have HI := ae.mk (show qj w gw 0 w1 from ⟨HB.out, 0, .slice none 0 0, [], qf.out, Kd.wC _ _ _ _ _, Nat.le_refl _⟩)
   have c0 := (af dW.out 0).trans rfl
   have c1 := (af dW.out 1).trans rfl
   have c2 := (af dW.out 2).trans rfl
   have c3 := (af dW.out 3).trans rfl
   have c4 := (af dW.out 4).trans rfl
   have c5 := (af dW.out 5).trans rfl
   have c6 := (af dW.out 6).trans rfl
   go_wp2_with fail
   clear c0 c1 c2 c3 c4 c5 c6
   refine (HW.out gw w1 GG.out HI.out).mono ?_
   rintro e w2 ⟨rfl, ⟨hb2, n, v, ls, hk, _, _⟩, _⟩
   clear HB qf HI dW
   have HB := ae.mk hb2
   have qf := ae.mk hk
   clear hb2 hk
   go_wp2
   go_ret
   exact ⟨rfl, HB.out⟩
  | false =>
   simp only [Bool.false_eq_true, if_false]
   go_enter Try.func180, Try.ntmps180
   go_wp2_with (first
    | ((with_reducible refine au (N := 1) rfl ?_); refine aG ?hg (N := 1) ?hd (cs := #[.int .u8 ck, .int .i64 cx, .int .i64 cy, .int .i64 cw, .int .i64 ch, .int .i64 aQ, .slice A l.length cc]) (t := 26) ?hr ?_; (case hd => rfl); (case hg => rfl); (case hr => first | (go_simp; done) | (go_simp; rfl)); intro b1 hg Zf hbox hb; have dW := ae.mk hbox; have dm := ae.mk (ak HB.out hb); clear HB; have HB := dm; clear dm; clear hb hbox hg)
    | ((with_reducible refine au (N := 5) rfl ?_); refine aG ?hg (N := 5) ?hd (cs := #[.int .i64 0, .slice none 0 0]) (t := 182) ?hr ?_; (case hd => rfl); (case hg => rfl); (case hr => first | (go_simp; done) | (go_simp; rfl)); intro gw hg wgw hbox hb; have qf := ae.mk hbox; have GG := ae.mk (show w.heap.size ≤ gw by rw [hg]; exact HB.out.size); have dm := ae.mk (ak HB.out hb); have gK := ae.mk (aN dW.out hb); clear HB dW; have HB := dm; have dW := gK; clear dm gK; have c0 := (af dW.out 0).trans rfl; have c1 := (af dW.out 1).trans rfl; have c2 := (af dW.out 2).trans rfl; have c3 := (af dW.out 3).trans rfl; have c4 := (af dW.out 4).trans rfl; have c5 := (af dW.out 5).trans rfl; have c6 := (af dW.out 6).trans rfl; clear hb hbox hg)
    | ((with_reducible refine au (N := 8) rfl ?_); refine Kd.zk k26 _ 26 ?hg (N' := 8) ?hd (xs := [(⟨ck, ⟨cx, cy, cw, ch⟩, aQ, l⟩ : ai)]) (inner := [.int .u8 ck, .int .i64 cx, .int .i64 cy, .int .i64 cw, .int .i64 ch, .int .i64 aQ, .slice A l.length cc]) (ok := fun _ => True) (fG := fun _ => True) ?hr ?hp (fun _ hk => hk) trivial (Below.refl _ _) (Nat.le_refl _) (by simp) ?_; (case hd => rfl); (case hg => rfl); (case hr => first | (go_simp; done) | (go_simp; rfl)); (case hp => exact (bF.c7 (nH _ _ (⟨ck, ⟨cx, cy, cw, ch⟩, aQ, l⟩ : ai) HC.out (Kd.sG (Kd.KX sW (Kd.eY HR.out HB.out)) (fun _ _ => trivial))) (bF.none _ _))); intro vr wr ho hb qA kT; clear qA kT; obtain ⟨Am, cm, er⟩ := Kd.jJ ho; subst er; have dm := ae.mk (ak HB.out hb); have gK := ae.mk (aN dW.out hb); have pR := ae.mk (aN qf.out hb); clear HB dW qf; have HB := dm; have dW := gK; have qf := pR; clear dm gK pR; have Hm := ae.mk (Kd.jO ho).2.2; have Lm := ae.mk (Kd.jO ho).2.1; clear ho hb c0 c1 c2 c3 c4 c5 c6)
    | fail)
   refine (sU.calls Am cm [(⟨ck, ⟨cx, cy, cw, ch⟩, aQ, l⟩ : ai)] true _ Hm.out Lm.out HM.out).mono ?_
   rintro e w1 ⟨rfl, hb⟩
   have dm := ae.mk (ak HB.out hb); have gK := ae.mk (aN dW.out hb); have pR := ae.mk (aN qf.out hb); clear HB dW qf; have HB := dm; have dW := gK; have qf := pR; clear dm gK pR
   clear hb Hm Lm
   have HI := ae.mk (show qj w gw 0 w1 from ⟨HB.out, 0, .slice none 0 0, [], qf.out, Kd.wC _ _ _ _ _, Nat.le_refl _⟩)
   have c0 := (af dW.out 0).trans rfl
   have c1 := (af dW.out 1).trans rfl
   have c2 := (af dW.out 2).trans rfl
   have c3 := (af dW.out 3).trans rfl
   have c4 := (af dW.out 4).trans rfl
   have c5 := (af dW.out 5).trans rfl
   have c6 := (af dW.out 6).trans rfl
   go_wp2_with fail
   clear c0 c1 c2 c3 c4 c5 c6
   refine (HW.out gw w1 GG.out HI.out).mono ?_
   rintro e w2 ⟨rfl, ⟨hb2, n, v, ls, hk, _, _⟩, _⟩
   clear HB qf HI dW
   have HB := ae.mk hb2
   have qf := ae.mk hk
   clear hb2 hk
   have c0 := (af qf.out 0).trans rfl
   have c1 := (af qf.out 1).trans rfl
   go_wp2_with fail
   clear c0 c1
   refine (V5 5 n (by decide) _).mono ?_
   rintro e w2 ⟨⟨tv, v, rfl⟩, hb⟩
   have dm := ae.mk (ak HB.out hb); clear HB; have HB := dm; clear dm
   clear hb
   go_wp2_with (first
    | ((with_reducible refine au (N := 24) rfl ?_); refine Kd.xP Kd.string _ 9 ?hg (N := 24) ?hd (xs := [(⟨#[108, 97, 121, 111, 117, 116]⟩ : ByteArray)]) (inner := [.string (⟨#[108, 97, 121, 111, 117, 116]⟩ : ByteArray)]) (ok := fun _ => True) (fG := fun _ => True) ?hr ?hp (fun _ hk => hk) trivial (Below.refl _ _) (Nat.le_refl _) (by simp) ?_; (case hd => rfl); (case hg => rfl); (case hr => first | (go_simp; done) | (go_simp; rfl)); (case hp => exact (bF.one (show Kd.M Kd.string _ _ _ (⟨#[108, 97, 121, 111, 117, 116]⟩ : ByteArray) [.string (⟨#[108, 97, 121, 111, 117, 116]⟩ : ByteArray)] from rfl) (bF.none _ _))); intro vs wr ho hb qA kT; clear qA kT; obtain ⟨As, cs_, er⟩ := Kd.jw ho; subst er; have dm := ae.mk (ak HB.out hb); clear HB; have HB := dm; clear dm; have Hs := ae.mk (Kd.gy ho).2.2; have Ls := ae.mk (Kd.gy ho).2.1; clear ho hb)
    | fail)
   obtain ⟨ad, ea⟩ := PH Hs.out
   subst ea
   refine (YX tv v ad cs_ _ _ Hs.out Ls.out).mono ?_
   rintro e w3 ⟨⟨tu, u, rfl⟩, hb⟩
   have dm := ae.mk (ak HB.out hb); clear HB; have HB := dm; clear dm
   clear hb Hs Ls
   go_wp2
   go_ret
   exact ⟨⟨_, _, rfl⟩, HB.out⟩
theorem adr (x : ai) (hz : sz x ≤ 1048576) (B : Option Addr) (cb : Nat) (W : World) (hr : Kd.C k26 W B x.f3.length x.f3) (hl : x.f3.length ≤ cb) :
  Calls Try.prog 179 #[.agg #[.int .u8 x.f0, .int .i64 x.f1.f0, .int .i64 x.f1.f1, .int .i64 x.f1.f2, .int .i64 x.f1.f3, .int .i64 x.f2, .slice B x.f3.length cb]] W fun e w' => e = .returned (.bool (!dF x)) ∧ Below W.heap.size W w' := by
 have HC := ae.mk (fun W1 (hb : Below W.heap.size W W1) => Xp x hz B cb W1 (Kd.eY hr hb) hl)
 have HB := ae.mk (Below.refl W.heap.size W)
 clear hr hl hz
 cases hq : dF x
 all_goals
  simp only [hq, if_pos, Bool.false_eq_true, if_false] at HC
  clear hq
  go_enter Try.func179, Try.ntmps179
  go_wp2_with (first
   | ((with_reducible refine au (N := 1) rfl ?_); refine aG ?hg (N := 1) ?hd (cs := #[.int .u8 x.f0, .int .i64 x.f1.f0, .int .i64 x.f1.f1, .int .i64 x.f1.f2, .int .i64 x.f1.f3, .int .i64 x.f2, .slice B x.f3.length cb]) (t := 26) ?hr ?_; (case hd => rfl); (case hg => rfl); (case hr => first | (go_simp; done) | (go_simp; rfl)); intro b1 hg Zf hbox hb; have dW := ae.mk hbox; have dm := ae.mk (ak HB.out hb); clear HB; have HB := dm; clear dm; have c0 := (af dW.out 0).trans rfl; have c1 := (af dW.out 1).trans rfl; have c2 := (af dW.out 2).trans rfl; have c3 := (af dW.out 3).trans rfl; have c4 := (af dW.out 4).trans rfl; have c5 := (af dW.out 5).trans rfl; have c6 := (af dW.out 6).trans rfl; clear hb hbox hg)
   | fail)
  clear c0 c1 c2 c3 c4 c5 c6
 ·refine (HC.out _ HB.out).mono ?_
  rintro e w2 ⟨⟨t, u, rfl⟩, hb⟩
  have dm := ae.mk (ak HB.out hb); clear HB; have HB := dm; clear dm
  clear hb
  go_wp2
  go_ret
  exact ⟨rfl, HB.out⟩
 ·refine (HC.out _ HB.out).mono ?_
  rintro e w2 ⟨rfl, hb⟩
  have dm := ae.mk (ak HB.out hb); clear HB; have HB := dm; clear dm
  clear hb
  go_wp2
  go_ret
  exact ⟨rfl, HB.out⟩
theorem Yt (l : List ai) (hz : ∀ x, x ∈ l → sz x ≤ 1048576) (A : Option Addr) (c : Nat) (w : World) (hr : Kd.C k26 w A l.length l) (hc : l.length ≤ c) :
  Calls Try.prog 148 #[.slice A l.length c] w fun e w' => e = .returned (.bool (l.all dF)) ∧ Below w.heap.size w w' := by
 have hq := Qz (fun _ W => Below w.heap.size w W) (fun x => !dF x) 179 #[] (qL Try.func179 (by decide +kernel) (by kernel_rfl)) l A c w hr (fun _ _ h => h) (fun _ W n h => ak h (aV (Below.refl _ _) n))
  (fun x rest W B cb hx _ hI hC hlx => by
   refine (adr x (hz x hx) B cb W (Kd.eY hC hI) hlx).mono ?_
   rintro e w' ⟨he, hb⟩
   exact ⟨he, ak hI hb⟩) w (Below.refl _ _) hr.2.1
 have HQ := ae.mk hq
 rw [List.all_eq_not_any_not]
 clear hq hr hc hz
 generalize l.any (fun x => !dF x) = r at HQ ⊢
 cases r
 all_goals
  go_enter Try.func148, Try.ntmps148
  go_wp2_with fail
  refine HQ.out.mono ?_
  rintro e w2 ⟨rfl, hb⟩
  have HB := ae.mk hb
  clear hb
  go_wp2
  go_ret
  exact ⟨rfl, HB.out⟩
noncomputable def TR.f (l0 : List ai) : Option Bool := if l0.all (fun c => decide (sz c ≤ 1048576)) = true then some (l0.all dF) else none
end Go.Proofs.Ytfdmfgaiblfbhaa.P
namespace Go.Proofs.Ytfdmfgaiblfbhaa.P
open Go.RowKit Go.Proofs.ag.aA Go.Proofs.ag.bg Go.Proofs.ag.bG
attribute [local go_sem] jD jQ kM kV jo jq kC kD
noncomputable def uM.j0 : Nat → Int → Bool → Int → Int → Int → Int → Int → Int → List (ai) → Option (Int)
 | 0, _, _, _, _, _, _, _, _, _ => none
 | k + 1, x1, BV, ab6, Ru, Rw, Rx, Ry, ab7, ab8 => if BV = true then (some 0) else ((rq.f Ru Rw Rx Ry x1).bind fun aii => ((P5.f k ab6 Ru Rw Rx Ry ab7 ab8 x1).bind fun aij => (some (wrap64 (aii - aij)))))
noncomputable def uM.f (k : Nat) (ay : Int) (aI : Int) (aC : Int) (aH : Int) (bU : Int) (bV : Int) (aT : List (ai)) (a1 : Int) : Option (Int) := (Ti.f a1).bind fun aif => (if aif = true then ((TR.f (([(⟨ay, (⟨aI, aC, aH, bU⟩ : dK), bV, aT⟩ : ai)] : List (ai)))).bind fun aih => (uM.j0 k a1 (!aih) ay aI aC aH bU bV aT)) else (uM.j0 k a1 true ay aI aC aH bU bV aT))
def uM.T3 : Bool × List (List Nat × List Nat) := (true, [([], []), ([0], [0]), ([], []), ([1, 2], [1, 2]), ([], []), ([], []), ([4, 5, 3], [4, 5]), ([3, 6], [3, 6]), ([7, 6, 0, 1, 2, 3, 4, 5, 6, 7], [7])])
def uM.B3 : List Nat := [0, 1, 0, 7, 0, 0, 63, 127, 255]
def qF.f (ay : Int) (aI : Int) (aC : Int) (aH : Int) (a1 : Int) : Option (Int) := if a1 = 1 then (some aC) else (if a1 = 2 then (some aH) else (some 0))
theorem qF.calls (ay : Int) (aI : Int) (aC : Int) (aH : Int) (a1 : Int) (r : Int) (w : World) (h : qF.f ay aI aC aH a1 = some r) :
  Calls Try.prog 87 #[.agg #[.int .i64 ay, .int .i64 aI, .int .i64 aC, .int .i64 aH], .int .u8 a1] w fun e w' => e = .returned (.int .i64 r) ∧ Below w.heap.size w w' := by
 have SV := Try.underlying23
 have HB := ae.mk (Below.refl w.heap.size w)
 have H : (if a1 = 1 then (some aC) else (if a1 = 2 then (some aH) else (some 0))) = some r := h
 clear h
 by_cases c3 : a1 = 1
 ·rw [if_pos c3] at H
  have vz : (a1 == 1) = true := beq_iff_eq.mpr c3
  have Cm : (a1 != 1) = false := bne_eq_false_iff_eq.mpr c3
  clear c3
  obtain rfl := Option.some.inj H
  go_enter Try.func87, Try.ntmps87
  go_wp2_with (((with_reducible refine au (N := 2) rfl ?_); refine aG ?hg (N := 2) ?hd (cs := #[.int .i64 ay, .int .i64 aI, .int .i64 aC, .int .i64 aH]) (t := 23) ?hr ?_; (case hd => rfl); (case hg => rfl); (case hr => (go_simp; done)); intro xR hg w4 hbox hb; have oQ := ae.mk (hbox); replace HB := ae.mk (ak (by repeat ((with_reducible exact HB.out))) hb); clear hb hbox hg; have ad9 : w4.cell? ⟨xR, 0, none⟩ = some (.int .i64 ay) := (af oQ.out 0).trans rfl; have ad_ : w4.cell? ⟨xR, 1, none⟩ = some (.int .i64 aI) := (af oQ.out 1).trans rfl; have aea : w4.cell? ⟨xR, 2, none⟩ = some (.int .i64 aC) := (af oQ.out 2).trans rfl; have aeb : w4.cell? ⟨xR, 3, none⟩ = some (.int .i64 aH) := (af oQ.out 3).trans rfl; have aeq := ah oQ.out 0; have aer := ah oQ.out 1; have aes := ah oQ.out 2; have aet := ah oQ.out 3))
  go_ret
  exact ⟨by rfl, by repeat ((with_reducible exact HB.out))⟩
 ·rw [if_neg c3] at H
  have vz : (a1 == 1) = false := beq_eq_false_iff_ne.mpr c3
  have Cm : (a1 != 1) = true := bne_iff_ne.mpr c3
  by_cases c6 : a1 = 2
  ·rw [if_pos c6] at H
   have CB : (a1 == 2) = true := beq_iff_eq.mpr c6
   have Oc : (a1 != 2) = false := bne_eq_false_iff_eq.mpr c6
   clear c6
   obtain rfl := Option.some.inj H
   go_enter Try.func87, Try.ntmps87
   go_wp2_with (((with_reducible refine au (N := 2) rfl ?_); refine aG ?hg (N := 2) ?hd (cs := #[.int .i64 ay, .int .i64 aI, .int .i64 aC, .int .i64 aH]) (t := 23) ?hr ?_; (case hd => rfl); (case hg => rfl); (case hr => (go_simp; done)); intro xR hg w7 hbox hb; have oQ := ae.mk (hbox); replace HB := ae.mk (ak (by repeat ((with_reducible exact HB.out))) hb); clear hb hbox hg; have Vm : w7.cell? ⟨xR, 0, none⟩ = some (.int .i64 ay) := (af oQ.out 0).trans rfl; have Vo : w7.cell? ⟨xR, 1, none⟩ = some (.int .i64 aI) := (af oQ.out 1).trans rfl; have Vp : w7.cell? ⟨xR, 2, none⟩ = some (.int .i64 aC) := (af oQ.out 2).trans rfl; have Vq : w7.cell? ⟨xR, 3, none⟩ = some (.int .i64 aH) := (af oQ.out 3).trans rfl; have VF := ah oQ.out 0; have VG := ah oQ.out 1; have VH := ah oQ.out 2; have VI := ah oQ.out 3))
   go_ret
   exact ⟨by rfl, by repeat ((with_reducible exact HB.out))⟩
  ·rw [if_neg c6] at H
   have CB : (a1 == 2) = false := beq_eq_false_iff_ne.mpr c6
   have Oc : (a1 != 2) = true := bne_iff_ne.mpr c6
   obtain rfl := Option.some.inj H
   go_enter Try.func87, Try.ntmps87
   go_wp2_with (((with_reducible refine au (N := 2) rfl ?_); refine aG ?hg (N := 2) ?hd (cs := #[.int .i64 ay, .int .i64 aI, .int .i64 aC, .int .i64 aH]) (t := 23) ?hr ?_; (case hd => rfl); (case hg => rfl); (case hr => (go_simp; done)); intro xR hg w9 hbox hb; have oQ := ae.mk (hbox); replace HB := ae.mk (ak (by repeat ((with_reducible exact HB.out))) hb); clear hb hbox hg))
   go_ret
   exact ⟨by rfl, by repeat ((with_reducible exact HB.out))⟩
end Go.Proofs.Ytfdmfgaiblfbhaa.P
namespace Go.Proofs.Ytfdmfgaiblfbhaa.P
open Go.RowKit Go.Proofs.ag.aA Go.Proofs.ag.bg Go.Proofs.ag.bG
theorem Ev.unique {α : Type} {g : Nat → Option α} {a b : α} (h : Ev g a) (k : Ev g b) : a = b := by
 obtain ⟨n, hn⟩ := h
 obtain ⟨m, hm⟩ := k
 have e := (hn (max n m) (by omega)).symm.trans (hm (max n m) (by omega))
 exact Option.some.inj e
theorem TJ (r : dK) (ax : Int) : qF.f r.f0 r.f1 r.f2 r.f3 ax = some (aK ax r) := by
 unfold qF.f aK
 split
 ·rfl
 ·split <;> rfl
theorem uN {c : ai} (h : lH c = true) : (fK c).all mP = true := by
 unfold lH at h
 simp only [Bool.and_eq_true] at h
 exact h.2.1
theorem nD {c : ai} (h : dF c = true) : lH c = true := by
 unfold dF at h
 simp only [Bool.and_eq_true] at h
 exact h.1
noncomputable def jG (ax : Int) (c : ai) : Int := if (ax = 1 ∨ ax = 2) ∧ dF c = true then wrap64 (aK ax c.f1 - gI ax c) else 0
theorem Rn {l : List ai} {k : ai} (h : k ∈ l) : sz k ≤ dO l := by
 obtain ⟨p, q, e⟩ := List.append_of_mem h
 rw [e, jX, bJ]; omega
noncomputable def Aw (b : Int) (gs : List Int) : List Int × Bool := by
 classical
 exact if h : ∃ r, Ev (fun k => di.f k b gs) r then Classical.choose h else ([], false)
theorem afh (b : Int) (gs : List Int) (hl : gs.length ≤ 100000) (h0 : -2147483647 ≤ b) (h1 : b ≤ 2147483647) : NL b gs (Aw b gs) ∧ Ev (fun k => di.f k b gs) (Aw b gs) := by
 obtain ⟨r, hs, he⟩ := WB b gs hl h0 h1
 have hx : ∃ r, Ev (fun k => di.f k b gs) r := ⟨r, he⟩
 have e : Aw b gs = r := by
  unfold Aw
  rw [dif_pos hx]
  exact Ev.unique (Classical.choose_spec hx) he
 rw [e]
 exact ⟨hs, he⟩
def grow (ax Qy : Int) (r : dK) : dK := ⟨r.f0, r.f1, if ax = 1 then wrap64 (r.f2 + Qy) else r.f2, if ax = 1 then r.f3 else wrap64 (r.f3 + Qy)⟩
noncomputable def Q9 (ax k : Int) (l : List ai) (Qy : Int) (i : Nat) : Int := if (Aw Qy (l.map (jG ax))).2 = true ∧ iH ax k = true then rd (Aw Qy (l.map (jG ax))).1 (i : Int) else Qy
mutual
noncomputable def sO (ax : Int) : ai → Int → ai
 | ⟨k, r, id, l⟩, b => ⟨k, grow ax b r, id, yS ax l (Q9 ax k l b) 0⟩
noncomputable def yS (ax : Int) : List ai → (Nat → Int) → Nat → List ai
 | [], _, _ => []
 | k :: ks, ns, i => sO ax k (ns i) :: yS ax ks ns (i + 1)
end
theorem Fh (ax : Int) (c : ai) (b : Int) : sO ax c b = ⟨c.f0, grow ax b c.f1, c.f2, yS ax c.f3 (Q9 ax c.f0 c.f3 b) 0⟩ := by cases c; simp [sO]
theorem Ci (ax : Int) (ns : Nat → Int) (i : Nat) : yS ax [] ns i = [] := by simp [yS]
theorem K_ (ax : Int) (k : ai) (ks : List ai) (ns : Nat → Int) (i : Nat) : yS ax (k :: ks) ns i = sO ax k (ns i) :: yS ax ks ns (i + 1) := by simp [yS]
def sQ.f (l0 : List (ai)) : Option (List ai) := if l0.length ≤ 1000000 then some l0 else none
theorem sQ.calls (Uz : Nat → Prop) (A0 : Option Addr) (c0 : Nat) (l0 : List (ai)) (r : List ai) (w : World) (hs0 : Kd.V k26 26 w w.heap.size (fun k_ => Uz k_) (.slice A0 l0.length c0) l0) (h : sQ.f l0 = some r) :
  Calls Try.prog 137 #[.slice A0 l0.length c0] w fun e w' => ∃ EU : Value, e = .returned (EU) ∧ Kd.N k26 26 w' w.heap.size (fun k_ => (Uz k_ ∨ w.heap.size ≤ k_)) EU r ∧ Below w.heap.size w w' := by
 unfold sQ.f at h
 split at h
 ·rename_i hl
  injection h with h
  subst h
  have HR := ae.mk (Kd.NP hs0)
  have HL := ae.mk hl
  clear hl
  cases A0 with
  | none =>
   have heq : ∀ W : World, (binOp .eql 24 (.slice none l0.length c0) (.slice none 0 0)).run Try.prog W = .ok (.bool true) W := fun W => Lib.run_eql_slice_nil W 24 26 none l0.length c0 0 0 Try.underlying24
   have e0 : l0 = [] := by
    cases l0 with
    | nil => rfl
    | cons x xs =>
     obtain ⟨ad, h1, _⟩ := (Kd.HY HR.out).2.2 (by simp)
     cases h1
   have E0 := ae.mk e0
   clear hs0 e0
   go_enter Try.func137, Try.ntmps137
   go_wp2
   go_ret
   exact ⟨_, rfl, by rw [E0.out]; exact Kd.ni _ _ _ _ _, Below.refl _ _⟩
  | some ad =>
   have heq : ∀ W : World, (binOp .eql 24 (.slice (some ad) l0.length c0) (.slice none 0 0)).run Try.prog W = .ok (.bool false) W := fun W => Lib.run_eql_slice_nil W 24 26 (some ad) l0.length c0 0 0 Try.underlying24
   clear hs0
   go_enter Try.func137, Try.ntmps137
   go_wp2_with (first | ((with_reducible refine au (N := 5) rfl ?_); refine Kd.zk k26 w.heap.size 26 ?hg (N' := 5) ?hd (xs := ([] : List ai)) (inner := []) (ok := fun k_ => (Uz k_ ∨ w.heap.size ≤ k_)) (fG := fun _ => False) ?hr ?hp (fun _ hk => hk.elim) (.inr (Nat.le_refl _)) (Below.refl _ _) (Nat.le_refl _) (by simp) ?_; (case hd => rfl); (case hg => rfl); (case hr => first | (go_simp; done) | (go_simp; rfl)); (case hp => exact bF.none _ _); intro v5 w5 ho hb qA kT; clear qA; have HO := ae.mk ho; have HB := ae.mk hb; have HF := ae.mk (Kd.sG (Kd.MW (v := v5) HR.out (fun k hk => by obtain ⟨b, h1, h2⟩ := kT; rw [h1] at hk; cases hk; exact h2) hb) (fun k hk => hk)); clear ho hb kT; obtain ⟨Ao, co, eo⟩ := Kd.jJ HO.out; subst eo) | ((with_reducible refine oL (b := .append) (xs := #[.tmp 5, .tmp 6]) rfl ?_); at_builtin; refine Kd.yP k26 (w0 := w) w.heap.size rfl (.tmp 5) (.tmp 6) 24 26 (.agg #[(.int .u8 0), (.int .i64 0), (.int .i64 0), (.int .i64 0), (.int .i64 0), (.int .i64 0), (.slice none 0 0)]) 72 rfl Try.underlying24 info26 rfl (by decide) (by omega) (.slice Ao ([] : List ai).length co) [] l0 _ _ _ (fun k_ => (Uz k_ ∨ w.heap.size ≤ k_)) (fun k_ => Uz k_ ∧ some k_ ≠ (Value.slice Ao ([] : List ai).length co).ownBlock) rfl rfl ?aO ?aR (fun _ h => ⟨.inl h.1, h.2⟩) (fun k hk => .inr (Nat.le_trans (dI HB.out) hk)) ?aB ?aS ?aL ?_; (case aO => exact HO.out); (case aR => exact HF.out); (case aB => exact HB.out); (case aS => exact dI HB.out); (case aL => (have := HL.out; simp only [List.length_nil]; omega)); intro v7 w7 h1 h2 h3_ h4_; clear h3_ h4_; have HO7 := ae.mk h1; have HB7 := ae.mk h2; clear h1 h2 HO HB HF))
   go_wp2
   go_ret
   exact ⟨_, rfl, HO7.out, HB7.out⟩
 ·exact absurd h (by simp)
def vG (a : Int) (k : ai) (x : Int) : Int := if a = 2 then wrap64 (x + wrap64 (k.f1.f2 + 1)) else x
def vH (a : Int) (k : ai) (y : Int) : Int := if a = 2 then y else if a = 3 then wrap64 (y + wrap64 (k.f1.f3 + 1)) else y
mutual
def fH : ai → Int → Int → ai
 | ⟨a, b, d, l⟩, x, y => ⟨a, ⟨x, y, b.f2, b.f3⟩, d, jW a l x y⟩
def jW : Int → List ai → Int → Int → List ai
 | _, [], _, _ => []
 | a, k :: ks, x, y => fH k x y :: jW a ks (vG a k x) (vH a k y)
end
theorem m_ (c : ai) (x y : Int) : fH c x y = ⟨c.f0, ⟨x, y, c.f1.f2, c.f1.f3⟩, c.f2, jW c.f0 c.f3 x y⟩ := by cases c; simp [fH]
theorem l_ (a x y : Int) : jW a [] x y = [] := by simp [jW]
theorem pV (a : Int) (k : ai) (ks : List ai) (x y : Int) : jW a (k :: ks) x y = fH k x y :: jW a ks (vG a k x) (vH a k y) := by simp [jW]
def n_ (a : Int) (l : List ai) (x : Int) : Int := l.foldl (fun x k => vG a k x) x
def oh (a : Int) (l : List ai) (y : Int) : Int := l.foldl (fun y k => vH a k y) y
theorem Bd (a : Int) (k : ai) : ∀ (l : List ai) (x y : Int), jW a (l ++ [k]) x y = jW a l x y ++ [fH k (n_ a l x) (oh a l y)] := by
 intro l
 induction l with
 | nil => intro x y; rw [List.nil_append, pV, l_, l_]; rfl
 | cons z zs ih => intro x y; rw [List.cons_append, pV, pV, ih]; rfl
theorem uj (a : Int) (k : ai) (l : List ai) (x : Int) : n_ a (l ++ [k]) x = vG a k (n_ a l x) := by simp [n_]
theorem uk (a : Int) (k : ai) (l : List ai) (y : Int) : oh a (l ++ [k]) y = vH a k (oh a l y) := by simp [oh]
theorem l9 (a : Int) : ∀ (l : List ai) (x y : Int), (jW a l x y).length = l.length := by
 intro l
 induction l with
 | nil => intro x y; rw [l_]
 | cons z zs ih => intro x y; rw [pV]; simp [ih]
theorem abH (a : Int) (pre : List ai) (k : ai) (rest : List ai) (x y : Int) : (jW a pre x y ++ k :: rest).set pre.length (fH k (n_ a pre x) (oh a pre y)) = jW a (pre ++ [k]) x y ++ rest := by
 rw [Bd, ← l9 a pre x y, List.set_append_right _ _ (Nat.le_refl _), Nat.sub_self, List.set_cons_zero]
 simp
theorem Wy (a : Int) (pre : List ai) (k : ai) (rest : List ai) (x y : Int) : aj (jW a pre x y ++ k :: rest) (pre.length : Int) = k := by
 rw [← l9 a pre x y]
 simp [aj, List.getD_eq_getElem?_getD]
def nS.T6 : Bool × List (List Nat × List Nat) := (true, [([], []), ([0], [0]), ([], []), ([], []), ([], []), ([], []), ([3, 4, 5], [3, 4, 5]), ([1, 2, 0, 1, 2, 3, 4, 5, 6], [1, 2]), ([7, 6, 6, 0, 1, 2, 3, 4, 5, 6], [6, 7])])
def nS.B6 : List Nat := [0, 1, 0, 0, 0, 0, 56, 127, 255]
theorem nS.tab6 : iY .any (opsOf Try.f66 6) = nS.T6 := by kernel_rfl
theorem nS.AU : jA nS.T6.2 nS.B6 = true := by kernel_rfl
theorem agF : ∀ (N : Nat) (c : ai), sz c ≤ N → N ≤ 1000000 → ∀ (P : Nat → Prop) (A : Option Addr) (cc : Nat) (x y : Int) (w : World), Kd.V k26 26 w w.heap.size P (.slice A c.f3.length cc) c.f3 →
  Calls Try.prog 66 #[.agg #[.int .u8 c.f0, .int .i64 c.f1.f0, .int .i64 c.f1.f1, .int .i64 c.f1.f2, .int .i64 c.f1.f3, .int .i64 c.f2, .slice A c.f3.length cc], .int .i64 x, .int .i64 y] w
   fun e w' => ∃ v : Value, e = .returned (.agg #[.int .u8 c.f0, .int .i64 x, .int .i64 y, .int .i64 c.f1.f2, .int .i64 c.f1.f3, .int .i64 c.f2, v]) ∧ Kd.N k26 26 w' w.heap.size (fun k => P k ∨ w.heap.size ≤ k) v (jW c.f0 c.f3 x y) ∧ Below w.heap.size w w' := by
 intro N
 induction N with
 | zero => intro c h; rw [bP] at h; omega
 | succ N ih =>
  intro c hc hN P A cc x y w hs
  have hsz := bP c
  have hlen := jY c.f3
  have IH := ae.mk fun (k : ai) (hk : k ∈ c.f3) => ih k (by
   have : sz k ≤ dO c.f3 := by
    obtain ⟨p, q, e⟩ := List.append_of_mem hk
    rw [e, jX, bJ]; omega
   omega) (by omega)
  have MZ := ae.mk fun (W : World) (P' : Nat → Prop) (hV : Kd.V k26 26 W w.heap.size P' (.slice A c.f3.length cc) c.f3) => sQ.calls P' A cc c.f3 c.f3 W hV (if_pos (by omega))
  have HO := ae.mk hs
  have HL := ae.mk (show c.f3.length ≤ 1000000 by omega)
  have HB := ae.mk (Below.refl w.heap.size w)
  clear ih hs hc hN hsz hlen
  obtain ⟨ck, ⟨cx, cy, cw, ch⟩, aQ, l⟩ := c
  simp only [] at HO HL IH MZ ⊢
  go_enter Try.func66, Try.ntmps66
  go_upto_region 2 with (first | ((with_reducible refine au (N := 3) rfl ?_); refine aG ?hg (N := 3) ?hd (cs := #[.int .u8 ck, .int .i64 cx, .int .i64 cy, .int .i64 cw, .int .i64 ch, .int .i64 aQ, .slice A l.length cc]) (t := 26) ?hr ?_; (case hd => rfl); (case hg => rfl); (case hr => (go_simp; done)); intro b3 hg WQ hbox hb; have Ud := ae.mk (show w.heap.size ≤ b3 by rw [hg]; exact HB.out.size); have lX := ae.mk (ak HB.out hb); have tC := ae.mk (Kd.mY (Kd.pW HO.out b3 (by rw [hg]; exact Nat.le_refl _)) hb); clear HB HO; have HB := lX; have HO := tC; clear lX tC; have df := ae.mk hbox; clear hb hbox hg) | ((with_reducible refine au (N := 6) rfl ?_); refine aG ?hg (N := 6) ?hd (cs := #[.int .u8 0, .int .i64 0, .int .i64 0, .int .i64 0, .int .i64 0, .int .i64 0, .slice none 0 0]) (t := 26) ?hr ?_; (case hd => rfl); (case hg => rfl); (case hr => (go_simp; done)); intro b6 hg wb6 hbox hb; have Gb6 := ae.mk (show w.heap.size ≤ b6 by rw [hg]; exact HB.out.size); have vw := ae.mk (show b3 ≠ b6 by rw [hg]; exact Nat.ne_of_lt (fU df.out)); have lX := ae.mk (ak HB.out hb); have tC := ae.mk (Kd.mY (Kd.pW HO.out b6 (by rw [hg]; exact Nat.le_refl _)) hb); have iR := ae.mk (aN df.out hb); clear HB HO df; have HB := lX; have HO := tC; have df := iR; clear lX tC iR; have gJ := ae.mk hbox; clear hb hbox hg) | ((with_reducible refine mO (.store 3 (.tmp 12) (.tmp 9)) rfl ?_); go_loud (refine gQ (w0 := w) rfl rfl 3 (.tmp 12) (.tmp 9) rfl (g := b3) (j := 1) (base := w.heap.size) #[.int .u8 ck, .int .i64 x, .int .i64 cy, .int .i64 cw, .int .i64 ch, .int .i64 aQ, .slice A l.length cc] (u := .int .i64 x) (bu := [.int .i64 x]) ?sA ?sX rfl ?sT ?s1 df.out ?sJ rfl HB.out HB.out.size Ud.out ?_; (case sA => rfl); (case sX => rfl); (case sT => rfl); (case s1 => (simp [Value.oneCell'])); (case sJ => (simp)); intro ws1 hbk hbb hgg; have tC := ae.mk (Kd.vK HO.out hgg (fun k_ hk e_ => absurd (Option.some.inj e_) hk.1.2)); have iT := ae.mk (bT gJ.out hgg (fun e_ => absurd (Option.some.inj e_) (by exact (fun Oz => vw.out Oz.symm)))); clear HO gJ; have HO := tC; have gJ := iT; clear tC iT; clear df HB; have df := ae.mk hbk; have HB := ae.mk hbb; clear hbk hbb hgg)) | ((with_reducible refine mO (.store 3 (.tmp 14) (.tmp 10)) rfl ?_); go_loud (refine gQ (w0 := w) rfl rfl 3 (.tmp 14) (.tmp 10) rfl (g := b3) (j := 2) (base := w.heap.size) #[.int .u8 ck, .int .i64 x, .int .i64 y, .int .i64 cw, .int .i64 ch, .int .i64 aQ, .slice A l.length cc] (u := .int .i64 y) (bu := [.int .i64 y]) ?sA ?sX rfl ?sT ?s1 df.out ?sJ rfl HB.out HB.out.size Ud.out ?_; (case sA => rfl); (case sX => rfl); (case sT => rfl); (case s1 => (simp [Value.oneCell'])); (case sJ => (simp)); intro ws2 hbk hbb hgg; have tC := ae.mk (Kd.vK HO.out hgg (fun k_ hk e_ => absurd (Option.some.inj e_) hk.1.2)); have iT := ae.mk (bT gJ.out hgg (fun e_ => absurd (Option.some.inj e_) (by exact (fun Oz => vw.out Oz.symm)))); clear HO gJ; have HO := tC; have gJ := iT; clear tC iT; clear df HB; have df := ae.mk hbk; have HB := ae.mk hbb; clear hbk hbb hgg)))
  have Ii : _ = some (Value.slice A l.length cc) := (af df.out 6).trans rfl
  go_upto_region 3 with (first | ((with_reducible refine lK (f := 137) rfl ?_); refine nR (some 17) rfl rfl Try.func137 (by kernel_rfl) rfl #[.slice A l.length cc] rfl (by (try simp only [List.map_toArray, List.map_cons, List.map_nil]); rfl) ?_; refine (MZ.out _ _ HO.out).mono ?_; rintro e wc1 ⟨v1, rfl, ho, hb⟩; refine ⟨_, rfl, ?_⟩; have HN := ae.mk (NI ho (fU df.out) (fU gJ.out) HB.out.size); clear ho HO; obtain ⟨A1, c1, e1⟩ := Kd.jJ HN.out; subst e1; have lX := ae.mk (ak HB.out hb); have iR := ae.mk (aN df.out hb); have iT := ae.mk (aN gJ.out hb); clear HB df gJ; have HB := lX; have df := iR; have gJ := iT; clear lX iR iT; clear hb) | ((with_reducible refine mO (.store 24 (.tmp 18) (.tmp 17)) rfl ?_); go_loud (refine gQ (w0 := w) rfl rfl 24 (.tmp 18) (.tmp 17) rfl (g := b3) (j := 6) (base := w.heap.size) #[.int .u8 ck, .int .i64 x, .int .i64 y, .int .i64 cw, .int .i64 ch, .int .i64 aQ, .slice A1 l.length c1] (u := .slice A1 l.length c1) (bu := [.slice A1 l.length c1]) ?sA ?sX rfl ?sT ?s1 df.out ?sJ rfl HB.out HB.out.size Ud.out ?_; (case sA => rfl); (case sX => rfl); (case sT => rfl); (case s1 => (simp [Value.oneCell'])); (case sJ => (simp)); intro ws3 hbk hbb hgg; have iT := ae.mk (bT gJ.out hgg (fun e_ => absurd (Option.some.inj e_) (by exact (fun Oz => vw.out Oz.symm)))); have lY := ae.mk (Kd.vJ HN.out hgg (fun k_ hk e_ => absurd (Option.some.inj e_) hk.1.2)); clear gJ HN; have gJ := iT; have HN := lY; clear iT lY; clear df HB; have df := ae.mk hbk; have HB := ae.mk hbb; clear hbk hbb hgg)))
  clear Ii
  have Ii : _ = some (Value.slice A1 l.length c1) := (af df.out 6).trans rfl
  go_wp2
  clear Ii
  go_loopg [1, 2, 22] l.length (fun gg v1 v2 v22 wr => ∃ (pre rest : List ai), v1 = .int .i64 (n_ ck pre x) ∧ v2 = .int .i64 (oh ck pre y) ∧ v22 = .int .i64 (pre.length : Int) ∧ ae (pre ++ rest = l) ∧ rest.length ≤ gg ∧ ae (Kd.N k26 26 wr w.heap.size (fun q => ((P q ∨ w.heap.size ≤ q) ∧ q ≠ b3) ∧ q ≠ b6) (.slice A1 l.length c1) (jW ck pre x y ++ rest)) ∧ ae (wr.heap[b3]? = some (.cells #[.int .u8 ck, .int .i64 x, .int .i64 y, .int .i64 cw, .int .i64 ch, .int .i64 aQ, .slice A1 l.length c1] 26 (0, 0))) ∧ ae (wr.heap[b6]? = some (.cells #[.int .u8 0, .int .i64 0, .int .i64 0, .int .i64 0, .int .i64 0, .int .i64 0, .slice none 0 0] 26 (0, 0))) ∧ ae (Below w.heap.size w wr))
  case atStart => exact ⟨[], l, rfl, rfl, rfl, ⟨rfl⟩, Nat.le_refl _, ⟨by rw [l_]; exact HN.out⟩, df, gJ, HB⟩
  case round =>
   clear HN df gJ HB
   obtain ⟨pre, rest, rfl, rfl, rfl, HE, hgg, HN, df, gJ, HB⟩ := hrel
   cases rest with
   | nil =>
    have hpl : pre = l := by have := HE.out; rwa [List.append_nil] at this
    have hlt : ¬ ((pre.length : Int) < (l.length : Int)) := by rw [hpl]; omega
    have HP := ae.mk hpl
    clear hpl hgg
    have c30 := (af df.out 0).trans rfl
    have c31 := (af df.out 1).trans rfl
    have c32 := (af df.out 2).trans rfl
    have c33 := (af df.out 3).trans rfl
    have c34 := (af df.out 4).trans rfl
    have c35 := (af df.out 5).trans rfl
    have Ii := (af df.out 6).trans rfl
    go_wp2_with (((with_reducible refine mO (.store 26 (.tmp 6) (.tmp 54)) rfl ?_); go_loud (refine gQ (w0 := w) rfl rfl 26 (.tmp 6) (.tmp 54) rfl (g := b6) (j := 0) (base := w.heap.size) #[.int .u8 ck, .int .i64 x, .int .i64 y, .int .i64 cw, .int .i64 ch, .int .i64 aQ, .slice A1 l.length c1] (u := .agg #[.int .u8 ck, .int .i64 x, .int .i64 y, .int .i64 cw, .int .i64 ch, .int .i64 aQ, .slice A1 l.length c1]) (bu := [.int .u8 ck, .int .i64 x, .int .i64 y, .int .i64 cw, .int .i64 ch, .int .i64 aQ, .slice A1 l.length c1]) ?sA ?sX rfl ?sT ?s1 gJ.out ?sJ rfl HB.out HB.out.size Gb6.out ?_; (case sA => rfl); (case sX => rfl); (case sT => rfl); (case s1 => (simp [Value.oneCell'])); (case sJ => (simp)); intro air hbk hbb hgg; have lY := ae.mk (Kd.vJ HN.out hgg (fun k_ hk e_ => absurd (Option.some.inj e_) hk.2)); have iR := ae.mk (bT df.out hgg (fun e_ => absurd (Option.some.inj e_) vw.out)); clear HN df; have HN := lY; have df := iR; clear lY iR; clear gJ HB; have gJ := ae.mk hbk; have HB := ae.mk hbb; clear hbk hbb hgg)))
    refine bodyPost_ret (results_cell_row rfl _ _ b6 26 _ (0, 0) _ rfl gJ.out Try.underlying26 rfl (by kernel_rfl)) rfl ?_
    refine ⟨_, rfl, ?_, HB.out⟩
    rw [← HP.out]
    have hf := HN.out
    rw [List.append_nil] at hf
    rw [HP.out] at hf ⊢
    exact Kd.jb hf (fun q hq => hq.1.1)
   | cons k rest =>
    have hk : k ∈ l := by rw [← HE.out]; simp
    have hlt : (pre.length : Int) < (l.length : Int) := by rw [← HE.out, List.length_append, List.length_cons]; omega
    have hw : wrap64 ((pre.length : Int) + 1) = ((pre ++ [k]).length : Int) := by rw [List.length_append, List.length_singleton]; unfold wrap64; have := HL.out; omega
    obtain ⟨g, cap, he, hgb, XK, _⟩ := Kd.sN HN.out (by rw [List.length_append, List.length_cons]; omega)
    injection he with ea en ec
    subst ea
    subst ec
    clear en
    have HGB := ae.mk hgb
    obtain ⟨ce, hcl, hM, hcc, hfr⟩ := Kd.yl HN.out z26 (pre.length : Int) (Int.natCast_nonneg _) hlt
    have hrd : (jW ck pre x y ++ k :: rest).getD (pre.length : Int).toNat z26 = k := Wy ck pre k rest x y
    rw [hrd] at hM
    obtain ⟨ua, uc, rfl, ul, ge⟩ := oC hM
    have HV := ae.mk (show Kd.V k26 26 wr w.heap.size _ (.slice ua k.f3.length uc) k.f3 from Kd.yR ul ge)
    have x0 : wr.cell? ⟨g, pre.length * 7, none⟩ = some (.int .u8 k.f0) := hcc 0 _ rfl
    have x1 : wr.cell? ⟨g, pre.length * 7 + 1, none⟩ = some (.int .i64 k.f1.f0) := hcc 1 _ rfl
    have x2 : wr.cell? ⟨g, pre.length * 7 + 2, none⟩ = some (.int .i64 k.f1.f1) := hcc 2 _ rfl
    have x3 : wr.cell? ⟨g, pre.length * 7 + 3, none⟩ = some (.int .i64 k.f1.f2) := hcc 3 _ rfl
    have x4 : wr.cell? ⟨g, pre.length * 7 + 4, none⟩ = some (.int .i64 k.f1.f3) := hcc 4 _ rfl
    have x5 : wr.cell? ⟨g, pre.length * 7 + 5, none⟩ = some (.int .i64 k.f2) := hcc 5 _ rfl
    have x6 : wr.cell? ⟨g, pre.length * 7 + 6, none⟩ = some (.slice ua k.f3.length uc) := hcc 6 _ rfl
    have HW1 := ae.mk hw
    have HK := ae.mk hk
    have kY := ae.mk hgg
    clear hcl hM hcc hfr hrd ul ge hgb XK hw hk hgg
    go_upto_region 6 with (first | ((with_reducible refine au (N := 8) rfl ?_); refine aG ?hg (N := 8) ?hd (cs := #[.int .u8 0, .int .i64 0, .int .i64 0, .int .i64 0, .int .i64 0, .int .i64 0, .slice none 0 0]) (t := 26) ?hr ?_; (case hd => rfl); (case hg => rfl); (case hr => (go_simp; done)); intro b8 hg wb8 hbox hb; have Gb8 := ae.mk (show w.heap.size ≤ b8 by rw [hg]; exact HB.out.size); have Gm := ae.mk (show b3 ≠ b8 by rw [hg]; exact Nat.ne_of_lt (fU df.out)); have Gn := ae.mk (show b6 ≠ b8 by rw [hg]; exact Nat.ne_of_lt (fU gJ.out)); have lX := ae.mk (ak HB.out hb); have lY := ae.mk (Kd.rJ (Kd.Ce HN.out b8 (by rw [hg]; exact Nat.le_refl _)) hb); have tH := ae.mk (Kd.mY (Kd.pW HV.out b8 (by rw [hg]; exact Nat.le_refl _)) hb); have iR := ae.mk (aN df.out hb); have iT := ae.mk (aN gJ.out hb); clear HB HN HV df gJ; have HB := lX; have HN := lY; have HV := tH; have df := iR; have gJ := iT; clear lX lY tH iR iT; have Kb8 := ae.mk hbox; clear hb hbox hg) | ((with_reducible refine mO (.store 26 (.tmp 8) (.tmp 26)) rfl ?_); go_loud (refine gQ (w0 := w) rfl rfl 26 (.tmp 8) (.tmp 26) rfl (g := b8) (j := 0) (base := w.heap.size) #[.int .u8 k.f0, .int .i64 k.f1.f0, .int .i64 k.f1.f1, .int .i64 k.f1.f2, .int .i64 k.f1.f3, .int .i64 k.f2, .slice ua k.f3.length uc] (u := .agg #[.int .u8 k.f0, .int .i64 k.f1.f0, .int .i64 k.f1.f1, .int .i64 k.f1.f2, .int .i64 k.f1.f3, .int .i64 k.f2, .slice ua k.f3.length uc]) (bu := [.int .u8 k.f0, .int .i64 k.f1.f0, .int .i64 k.f1.f1, .int .i64 k.f1.f2, .int .i64 k.f1.f3, .int .i64 k.f2, .slice ua k.f3.length uc]) ?sA ?sX rfl ?sT ?s1 Kb8.out ?sJ rfl HB.out HB.out.size Gb8.out ?_; (case sA => rfl); (case sX => rfl); (case sT => rfl); (case s1 => (simp [Value.oneCell'])); (case sJ => (simp)); intro Yv hbk hbb hgg; have lY := ae.mk (Kd.vJ HN.out hgg (fun k_ hk e_ => absurd (Option.some.inj e_) hk.2)); have tH := ae.mk (Kd.vK HV.out hgg (fun k_ hk e_ => absurd (Option.some.inj e_) hk.2)); have iR := ae.mk (bT df.out hgg (fun e_ => absurd (Option.some.inj e_) Gm.out)); have iT := ae.mk (bT gJ.out hgg (fun e_ => absurd (Option.some.inj e_) Gn.out)); clear HN HV df gJ; have HN := lY; have HV := tH; have df := iR; have gJ := iT; clear lY tH iR iT; clear Kb8 HB; have Kb8 := ae.mk hbk; have HB := ae.mk hbb; clear hbk hbb hgg)))
    clear x0 x1 x2 x3 x4 x5 x6
    have q_ := ae.mk (bQ HB.out)
    clear HB
    have HB := q_
    clear q_
    have q_ := ae.mk (Kd.Uu HN.out)
    clear HN
    have HN := q_
    clear q_
    have q_ := ae.mk (Kd.UC HV.out)
    clear HV
    have HV := q_
    clear q_
    have q_ := ae.mk (fA df.out)
    clear df
    have df := q_
    clear q_
    have q_ := ae.mk (fA gJ.out)
    clear gJ
    have gJ := q_
    clear q_
    have q_ := ae.mk (fA Kb8.out)
    clear Kb8
    have Kb8 := q_
    clear q_
    refine kX (n := 9) (S := fun w' => w'.heap[b3]? = some (.cells #[.int .u8 ck, .int .i64 x, .int .i64 y, .int .i64 cw, .int .i64 ch, .int .i64 aQ, .slice (some ⟨g, 0, none⟩) l.length c1] 26 (0, 0)) ∧ w'.heap[b8]? = some (.cells #[.int .u8 k.f0, .int .i64 k.f1.f0, .int .i64 k.f1.f1, .int .i64 k.f1.f2, .int .i64 k.f1.f3, .int .i64 k.f2, .slice ua k.f3.length uc] 26 (0, 0))) (ds := [8]) #[false, false, false, false, false, false, false, false, false] (by kernel_rfl) rfl rfl ⟨df.out, Kb8.out⟩ (fun hHeld => ?_); refine ik nS.tab6 nS.AU (fun az fZ => ?_)
    generalize Yv.drew = wd at HB HN HV df gJ Kb8 hHeld ⊢
    refine zx (i := 0) (N := some 27) (v := ?_) (a' := ?_) #[true, false, false, false, false, false, false, false, false] rfl rfl (wE az.out (by kernel_rfl)) (fun _ _ _ h => h) (Or.inl ⟨by rfl, ?_⟩) ?_ ?_
    rotate_left
    ·intro w'; go_simp; with_reducible rfl
    rotate_left
    ·simp only [Act.put, List.setIfInBounds_toArray, List.set_cons_zero, List.set_cons_succ, lW, lV]
     rfl
    refine zx (i := 2) (N := some 29) (v := ?_) (a' := ?_) #[true, false, true, false, false, false, false, false, false] rfl rfl (wE az.out (by kernel_rfl)) (fun _ _ _ h => h) (Or.inl ⟨by rfl, ?_⟩) ?_ ?_
    rotate_left
    ·intro w'; go_simp; with_reducible rfl
    rotate_left
    ·simp only [Act.put, List.setIfInBounds_toArray, List.set_cons_zero, List.set_cons_succ, lW, lV]
     rfl
    refine zx (i := 4) (N := some 31) (v := ?_) (a' := ?_) #[true, false, true, false, true, false, false, false, false] rfl rfl (wE az.out (by kernel_rfl)) (fun _ _ _ h => h) (Or.inl ⟨by rfl, ?_⟩) ?_ ?_
    rotate_left
    ·intro w'; go_simp; with_reducible rfl
    rotate_left
    ·simp only [Act.put, List.setIfInBounds_toArray, List.set_cons_zero, List.set_cons_succ, lW, lV]
     rfl
    refine zx (i := 5) (N := some 32) (v := ?_) (a' := ?_) #[true, false, true, false, true, true, false, false, false] rfl rfl (wE az.out (by kernel_rfl)) (fun _ _ _ h => h) (Or.inl ⟨by rfl, ?_⟩) ?_ ?_
    rotate_left
    ·intro w'; go_simp; with_reducible rfl
    rotate_left
    ·simp only [Act.put, List.setIfInBounds_toArray, List.set_cons_zero, List.set_cons_succ, lW, lV]
     rfl
    refine Dp (i := 1) (N := some 28) (v := ?_) (a' := ?_) #[true, true, true, false, true, true, false, false, false] rfl rfl (AB az.out fZ.out (by kernel_rfl)) (fun _ _ _ h => h) (Or.inl ⟨by rfl, ?_⟩) hHeld ?_ ?_
    rotate_left
    ·intro w' hs_
     have c := (af hs_.1 6).trans rfl
     go_simp; with_reducible rfl
    rotate_left
    ·simp only [Act.put, List.setIfInBounds_toArray, List.set_cons_zero, List.set_cons_succ, lW, lV]
     rfl
    refine Dp (i := 3) (N := some 30) (v := ?_) (a' := ?_) #[true, true, true, true, true, true, false, false, false] rfl rfl (AB az.out fZ.out (by kernel_rfl)) (fun _ _ _ h => h) (Or.inl ⟨by rfl, ?_⟩) hHeld ?_ ?_
    rotate_left
    ·intro w' hs_
     have c0 := (af hs_.2 0).trans rfl
     have c1 := (af hs_.2 1).trans rfl
     have c2 := (af hs_.2 2).trans rfl
     have c3 := (af hs_.2 3).trans rfl
     have c4 := (af hs_.2 4).trans rfl
     have c5 := (af hs_.2 5).trans rfl
     have c6 := (af hs_.2 6).trans rfl
     go_simp; with_reducible rfl
    rotate_left
    ·simp only [Act.put, List.setIfInBounds_toArray, List.set_cons_zero, List.set_cons_succ, lW, lV]
     rfl
    refine X5 (i := 6) (N := some 33) #[true, true, true, true, true, true, true, false, false] rfl rfl (BO az.out (by kernel_rfl)) (by decide) (fun K hK => ?_)
    refine zu Try.func66 (by kernel_rfl) rfl #[.agg #[.int .u8 k.f0, .int .i64 k.f1.f0, .int .i64 k.f1.f1, .int .i64 k.f1.f2, .int .i64 k.f1.f3, .int .i64 k.f2, .slice ua k.f3.length uc], .int .i64 (n_ ck pre x), .int .i64 (oh ck pre y)] (by rfl) rfl rfl (by (try simp only [List.map_toArray, List.map_cons, List.map_nil]); rfl) ?_
    refine (IH.out k HK.out _ ua uc (n_ ck pre x) (oh ck pre y) wd HV.out).mono ?_
    rintro e wk ⟨v, rfl, ho, hb⟩
    refine ⟨_, rfl, ?_⟩
    have HE3 := ae.mk (fU df.out)
    have HE6 := ae.mk (fU gJ.out)
    have HE8 := ae.mk (fU Kb8.out)
    have HEG := ae.mk (Kd.DI HN.out g rfl)
    have HS := ae.mk HB.out.size
    have lX := ae.mk (ak HB.out hb); have lY := ae.mk (Kd.rJ HN.out hb); have tH := ae.mk (Kd.mY HV.out hb); have iR := ae.mk (aN df.out hb); have iT := ae.mk (aN gJ.out hb); have IY := ae.mk (aN Kb8.out hb); clear HB HN HV df gJ Kb8; have HB := lX; have HN := lY; have HV := tH; have df := iR; have gJ := iT; have Kb8 := IY; clear lX lY tH iR iT IY
    clear HV hb
    obtain ⟨Av, cv, ev⟩ := Kd.jJ ho
    subst ev
    have rW := ae.mk ho
    clear ho
    refine hK.out _ _ ⟨df.out, Kb8.out⟩ (fun hHeld => ?_)
    clear hK K
    refine pM (a' := ?_) ?_ ?_
    rotate_left
    ·show Act.put _ (some 33) _ = _
     simp only [Act.put, List.setIfInBounds_toArray, List.set_cons_zero, List.set_cons_succ, lW, lV]
     rfl
    refine zx (i := 7) (N := some 34) (v := ?_) (a' := ?_) #[true, true, true, true, true, true, true, true, false] rfl rfl (wE az.out (by kernel_rfl)) (fun _ _ _ h => h) (Or.inl ⟨by rfl, ?_⟩) ?_ ?_
    rotate_left
    ·intro w'; go_simp; with_reducible rfl
    rotate_left
    ·simp only [Act.put, List.setIfInBounds_toArray, List.set_cons_zero, List.set_cons_succ, lW, lV]
     rfl
    obtain ⟨ce, hcl, hM, hcc, hfr⟩ := Kd.yl HN.out z26 (pre.length : Int) (Int.natCast_nonneg _) hlt
    have hrd : (jW ck pre x y ++ k :: rest).getD (pre.length : Int).toNat z26 = k := Wy ck pre k rest x y
    rw [hrd] at hM
    obtain ⟨ub, ud, rfl, _, _⟩ := oC hM
    have x0 : wk.cell? ⟨g, pre.length * 7, none⟩ = some (.int .u8 k.f0) := hcc 0 _ rfl
    have f0 : wk.frozen? ⟨g, pre.length * 7, none⟩ = false := hfr 0
    have x1 : wk.cell? ⟨g, pre.length * 7 + 1, none⟩ = some (.int .i64 k.f1.f0) := hcc 1 _ rfl
    have f1 : wk.frozen? ⟨g, pre.length * 7 + 1, none⟩ = false := hfr 1
    have x2 : wk.cell? ⟨g, pre.length * 7 + 2, none⟩ = some (.int .i64 k.f1.f1) := hcc 2 _ rfl
    have f2 : wk.frozen? ⟨g, pre.length * 7 + 2, none⟩ = false := hfr 2
    have x3 : wk.cell? ⟨g, pre.length * 7 + 3, none⟩ = some (.int .i64 k.f1.f2) := hcc 3 _ rfl
    have f3 : wk.frozen? ⟨g, pre.length * 7 + 3, none⟩ = false := hfr 3
    have x4 : wk.cell? ⟨g, pre.length * 7 + 4, none⟩ = some (.int .i64 k.f1.f3) := hcc 4 _ rfl
    have f4 : wk.frozen? ⟨g, pre.length * 7 + 4, none⟩ = false := hfr 4
    have x5 : wk.cell? ⟨g, pre.length * 7 + 5, none⟩ = some (.int .i64 k.f2) := hcc 5 _ rfl
    have f5 : wk.frozen? ⟨g, pre.length * 7 + 5, none⟩ = false := hfr 5
    have x6 : wk.cell? ⟨g, pre.length * 7 + 6, none⟩ = some (.slice ub k.f3.length ud) := hcc 6 _ rfl
    have f6 : wk.frozen? ⟨g, pre.length * 7 + 6, none⟩ = false := hfr 6
    have iU : ∀ q, (((fun q => ((P q ∨ w.heap.size ≤ q) ∧ q ≠ b3) ∧ q ≠ b6) q ∧ q ≠ g) ∧ q ≠ b8) ∨ wd.heap.size ≤ q → ((fun q => ((P q ∨ w.heap.size ≤ q) ∧ q ≠ b3) ∧ q ≠ b6) q ∧ q ≠ b8) ∧ q ≠ g := fun q hq => hq.elim (fun h => ⟨⟨h.1.1, h.2⟩, h.1.2⟩) (fun hn => ⟨⟨⟨⟨.inr (Nat.le_trans HS.out hn), Nat.ne_of_gt (Nat.lt_of_lt_of_le HE3.out hn)⟩, Nat.ne_of_gt (Nat.lt_of_lt_of_le HE6.out hn)⟩, Nat.ne_of_gt (Nat.lt_of_lt_of_le HE8.out hn)⟩, Nat.ne_of_gt (Nat.lt_of_lt_of_le HEG.out hn)⟩)
    have Lj := nH wk _ (fH k (n_ ck pre x) (oh ck pre y)) (A6 := Av) (c6 := cv) (by rw [m_]; exact (Kd.jO rW.out).2.1) (by rw [m_]; exact Kd.YI rW.out)
    have hseg := Kd.RU HN.out (pre.length : Int) (Int.natCast_nonneg _) hlt (bu := [.int .u8 k.f0, .int .i64 (n_ ck pre x), .int .i64 (oh ck pre y), .int .i64 k.f1.f2, .int .i64 k.f1.f3, .int .i64 k.f2, .slice Av (jW k.f0 k.f3 (n_ ck pre x) (oh ck pre y)).length cv]) (j := 0) hcl hcc (show 0 + 7 ≤ 7 from by decide) (x' := fH k (n_ ck pre x) (oh ck pre y)) (by rw [m_] at Lj ⊢; exact Lj) iU
    rw [show (jW ck pre x y ++ k :: rest).set (pre.length : Int).toNat (fH k (n_ ck pre x) (oh ck pre y)) = jW ck (pre ++ [k]) x y ++ rest from abH ck pre k rest x y] at hseg
    obtain ⟨w9, Es⟩ : ∃ w9, w9 = wk.setCells g ((pre.length : Int).toNat * 7 + 0) [.int .u8 k.f0, .int .i64 (n_ ck pre x), .int .i64 (oh ck pre y), .int .i64 k.f1.f2, .int .i64 k.f1.f3, .int .i64 k.f2, .slice Av (jW k.f0 k.f3 (n_ ck pre x) (oh ck pre y)).length cv] := ⟨_, rfl⟩
    replace hseg : Kd.N k26 26 w9 w.heap.size (fun q => (fun q => ((P q ∨ w.heap.size ≤ q) ∧ q ≠ b3) ∧ q ≠ b6) q ∧ q ≠ b8) (.slice (some ⟨g, 0, none⟩) l.length c1) (jW ck (pre ++ [k]) x y ++ rest) ∧ wk.grownBy w9 (some g) := by rw [Es]; exact hseg
    have Uh := ae.mk (Kd.Uw hseg.1)
    have M_ := ae.mk (grown_below HB.out hseg.2 HGB.out HB.out.size)
    have yO := ae.mk (bT df.out hseg.2 (fun e_ => (HN.out.1 g rfl).1.1.2 (Option.some.inj e_).symm))
    have NC := ae.mk (bT gJ.out hseg.2 (fun e_ => (HN.out.1 g rfl).1.2 (Option.some.inj e_).symm))
    have Gl := ae.mk (bT Kb8.out hseg.2 (fun e_ => (HN.out.1 g rfl).2 (Option.some.inj e_).symm))
    clear hseg Lj iU hcl hcc hfr hM hrd HN HB df gJ Kb8 hHeld rW
    refine Td (i := 8) (N := none) #[true, true, true, true, true, true, true, true, true] rfl rfl (BO az.out (by kernel_rfl)) (by decide) (fun K hK => ?_)
    refine I9 (w1 := w9) (by rfl) rfl ?_ ?_
    ·rw [Es]; go_simp; rfl
    refine hK.out _ _ ?_
    clear hK K x0 x1 x2 x3 x4 x5 x6 f0 f1 f2 f3 f4 f5 f6 Es
    refine nz (jK az.out (by kernel_rfl)) ?_
    have d0 := (af yO.out 0).trans rfl
    have e0 := (af Gl.out 0).trans rfl
    have d1 := (af yO.out 1).trans rfl
    have e1 := (af Gl.out 1).trans rfl
    have d2 := (af yO.out 2).trans rfl
    have e2 := (af Gl.out 2).trans rfl
    have d3 := (af yO.out 3).trans rfl
    have e3 := (af Gl.out 3).trans rfl
    have d4 := (af yO.out 4).trans rfl
    have e4 := (af Gl.out 4).trans rfl
    have d5 := (af yO.out 5).trans rfl
    have e5 := (af Gl.out 5).trans rfl
    have d6 := (af yO.out 6).trans rfl
    have e6 := (af Gl.out 6).trans rfl
    by_cases k2 : ck = 2
    ·have ah5 : (ck == 2) = true := beq_iff_eq.mpr k2
     have K2 := ae.mk k2
     clear k2
     have hw := HW1.out
     go_wp2
     clear d0 d1 d2 d3 d4 d5 d6 e0 e1 e2 e3 e4 e5 e6
     go_roundg rest.length
     case measure => exact Nat.lt_of_lt_of_le (Nat.lt_succ_self _) kY.out
     case rel => exact ⟨pre ++ [k], rest, (by rw [uj]; unfold vG; rw [if_pos K2.out]), (by rw [uk]; unfold vH; rw [if_pos K2.out]), (by rw [hw]), ⟨by rw [List.append_assoc]; exact HE.out⟩, Nat.le_refl _, Uh, yO, NC, M_⟩
    ·have ah5 : (ck == 2) = false := beq_eq_false_iff_ne.mpr k2
     have K2 := ae.mk k2
     clear k2
     by_cases k3 : ck = 3
     ·have ah6 : (ck == 3) = true := beq_iff_eq.mpr k3
      have K3 := ae.mk k3
      clear k3
      have hw := HW1.out
      go_wp2
      clear d0 d1 d2 d3 d4 d5 d6 e0 e1 e2 e3 e4 e5 e6
      go_roundg rest.length
      case measure => exact Nat.lt_of_lt_of_le (Nat.lt_succ_self _) kY.out
      case rel => exact ⟨pre ++ [k], rest, (by rw [uj]; unfold vG; rw [if_neg K2.out]), (by rw [uk]; unfold vH; rw [if_neg K2.out, if_pos K3.out]), (by rw [hw]), ⟨by rw [List.append_assoc]; exact HE.out⟩, Nat.le_refl _, Uh, yO, NC, M_⟩
     ·have ah6 : (ck == 3) = false := beq_eq_false_iff_ne.mpr k3
      have K3 := ae.mk k3
      clear k3
      have hw := HW1.out
      go_wp2
      clear d0 d1 d2 d3 d4 d5 d6 e0 e1 e2 e3 e4 e5 e6
      go_roundg rest.length
      case measure => exact Nat.lt_of_lt_of_le (Nat.lt_succ_self _) kY.out
      case rel => exact ⟨pre ++ [k], rest, (by rw [uj]; unfold vG; rw [if_neg K2.out]), (by rw [uk]; unfold vH; rw [if_neg K2.out, if_neg K3.out]), (by rw [hw]), ⟨by rw [List.append_assoc]; exact HE.out⟩, Nat.le_refl _, Uh, yO, NC, M_⟩
def nS.f (a0 a1 a2 a3 a4 a5 : Int) (l : List ai) (x y : Int) : Option (Int × Int × Int × Int × Int × Int × List ai) := if sz ⟨a0, ⟨a1, a2, a3, a4⟩, a5, l⟩ ≤ 1000000 then some (a0, x, y, a3, a4, a5, jW a0 l x y) else none
section
variable {W : World} {b : Nat} {P : Nat → Prop} {A : Option Addr} {cc : Nat}
abbrev MI (w : World) (P : Nat → Prop) (z : ai) (e : Ending) (w' : World) : Prop := ∃ A c, e = .returned (.agg #[.int .u8 z.f0, .int .i64 z.f1.f0, .int .i64 z.f1.f1, .int .i64 z.f1.f2, .int .i64 z.f1.f3, .int .i64 z.f2, .slice A z.f3.length c]) ∧ Kd.N k26 26 w' w.heap.size (fun k => P k ∨ w.heap.size ≤ k) (.slice A z.f3.length c) z.f3 ∧ Below w.heap.size w w'
theorem agI (c : ai) (x y : Int) (hz : sz c ≤ 1000000) (hV : Kd.V k26 26 W b P (.slice A c.f3.length cc) c.f3) :
  Calls Try.prog 66 #[.agg #[.int .u8 c.f0, .int .i64 c.f1.f0, .int .i64 c.f1.f1, .int .i64 c.f1.f2, .int .i64 c.f1.f3, .int .i64 c.f2, .slice A c.f3.length cc], .int .i64 x, .int .i64 y] W (MI W P (fH c x y)) :=
 (agF 1000000 c hz (Nat.le_refl _) P A cc x y W (dX hV)).mono (fun e w' ⟨v, he, hN, hB⟩ => by
  rw [m_]
  obtain ⟨A', c', rfl⟩ := Kd.jJ hN
  exact ⟨A', c', he, hN, hB⟩)
end
theorem Ja {l : List ai} {k : ai} (h : k ∈ l) : sz k ≤ dO l := by
 obtain ⟨p, q, e⟩ := List.append_of_mem h
 rw [e, jX, bJ]
 omega
theorem EG {a b : dK} : nI a b = true ↔ a.f0 = b.f0 ∧ a.f1 = b.f1 ∧ a.f2 = b.f2 ∧ a.f3 = b.f3 := by
 unfold nI
 simp
theorem P6 (ax X Y W H : Int) (hax : ax = 1 ∨ ax = 2) : ∀ (kids : List ai) (ns : List Int) (off : Int), kids.length = ns.length → sV (fun k r => nI k.f1 r) kids (yT ax X Y W H off ns) = true → ∀ x, x ∈ kids → aK (3 - ax) x.f1 = tX ax H W := by
 intro kids
 induction kids with
 | nil => intro _ _ _ _ x hx; cases hx
 | cons k ks ih =>
  intro ns off hl he x hx
  cases ns with
  | nil => simp at hl
  | cons n ns =>
   simp only [yT, sV, Bool.and_eq_true] at he
   rcases List.mem_cons.1 hx with rfl | hx
   ·obtain ⟨_, _, h2, h3⟩ := EG.1 he.1
    simp only [] at h2 h3
    rcases hax with rfl | rfl
    ·unfold aK tX at *
     simp at h3 ⊢
     exact h3
    ·unfold aK tX at *
     simp at h2 ⊢
     exact h2
   ·exact ih ns (off + n + 1) (by simpa using hl) he.2 x hx
theorem CW {c : ai} (h1 : nN c = true) (hk : c.f0 = 2 ∨ c.f0 = 3) (hl : c.f3.length ≤ 20000) :
  (c.f3.map (fun k => aK (c.f0 - 1) k.f1)).sum + (c.f3.length : Int) - 1 = aK (c.f0 - 1) c.f1 ∧ ∀ x, x ∈ c.f3 → aK (3 - (c.f0 - 1)) x.f1 = aK (3 - (c.f0 - 1)) c.f1 := by
 unfold nN C9 at h1
 rw [show (c.f0 == 1) = false from by simp; omega, Bool.false_or] at h1
 simp only [Bool.and_eq_true] at h1
 obtain ⟨ht, hlen, hE⟩ := h1
 obtain ⟨hax, gp, gs, _⟩ := DY ht
 have e1 : zg c.f0 = c.f0 - 1 := by unfold zg; omega
 rw [e1] at hax gp gs
 have e2 : jH c = c.f3.map (fun k => aK (c.f0 - 1) k.f1) := by
  unfold jH
  apply List.map_congr_left
  intro k _
  unfold szK qP aK
  rcases hk with h | h
  ·rw [if_pos h, if_pos (by omega)]
  ·rw [if_neg (by omega), if_neg (by omega), if_pos (by omega)]
 have e3 : ∀ r : dK, tX (c.f0 - 1) r.f2 r.f3 = aK (c.f0 - 1) r ∧ tX (c.f0 - 1) r.f3 r.f2 = aK (3 - (c.f0 - 1)) r := by
  intro r
  rcases hk with h | h <;> simp [tX, aK, h]
 refine ⟨?_, fun x hx => ?_⟩
 ·rw [← e2, ← (e3 c.f1).1, ← gs]
  simp [jH]
 ·rw [gp] at hE
  rw [← (e3 c.f1).2]
  exact P6 (c.f0 - 1) _ _ _ _ hax c.f3 (jH c) 0 (by simp [jH]) hE x hx
theorem vV {c : ai} (h : mP c = true) : lq c.f1 = true := by
 unfold mP at h
 simp only [Bool.and_eq_true] at h
 exact h.1.1.1
theorem pU {r : dK} (h : lq r = true) {ax : Int} (hax : ax = 1 ∨ ax = 2) : 1 ≤ aK ax r ∧ aK ax r ≤ 10000 := by
 have := vT.1 h
 unfold aK
 rcases hax with rfl | rfl
 ·rw [if_pos rfl]; omega
 ·rw [if_neg (by omega), if_pos rfl]; omega
theorem Bl {c x : ai} (h : mf c = true) (hx : x ∈ c.f3) : mf x = true := by
 rw [tJ, Bool.and_eq_true] at h
 exact List.all_eq_true.1 h.2 x hx
theorem VZ (ax m : Int) (a b : List ai) : qx ax m (a ++ b) = qx ax (qx ax m a) b := by
 induction a generalizing m with
 | nil => rw [List.nil_append, Ez]
 | cons x xs ih => rw [List.cons_append, pK, pK, ih]
theorem X0 {ax u : Int} : ∀ {l : List ai} {m : Int}, m ≤ u → (∀ x, x ∈ l → gI ax x ≤ u) → qx ax m l ≤ u := by
 intro l
 induction l with
 | nil => intro m h _; rw [Ez]; exact h
 | cons x xs ih =>
  intro m h hx
  rw [pK]
  exact ih (agz h (hx x (by simp))) (fun y hy => hx y (by simp [hy]))
theorem Pm {ax : Int} : ∀ {l : List ai} {m : Int}, m ≤ qx ax m l := by
 intro l
 induction l with
 | nil => intro m; rw [Ez]; exact Int.le_refl _
 | cons x xs ih =>
  intro m
  rw [pK]
  exact Int.le_trans (aeT m (gI ax x)) ih
theorem abJ {ax : Int} : ∀ {l : List ai}, (∀ x, x ∈ l → gI ax x ≤ aK ax x.f1) → xM ax l ≤ (l.map (fun k => aK ax k.f1)).sum := by
 intro l
 induction l with
 | nil => intro _; rw [Hq]; exact Int.le_refl _
 | cons x xs ih =>
  intro hx
  rw [yE, List.map_cons, List.sum_cons]
  have h1 := hx x (by simp)
  have h2 := ih (fun y hy => hx y (by simp [hy]))
  omega
theorem Tj {ax : Int} (hax : ax = 1 ∨ ax = 2) : ∀ (N : Nat) (c : ai), sz c ≤ N → N ≤ 20000 → (fK c).all mP = true → 1 ≤ gI ax c ∧ (mf c = true → gI ax c ≤ aK ax c.f1) := by
 intro N
 induction N with
 | zero => intro c h; rw [bP] at h; omega
 | succ N ih =>
  intro c hc hN hok
  have hs := bP c
  have hlen := jY c.f3
  have hk : ∀ x, x ∈ c.f3 → 1 ≤ gI ax x ∧ (mf x = true → gI ax x ≤ aK ax x.f1) := fun x hx => by
   refine ih x ?_ (by omega) (FM hok hx)
   have := Ja hx
   omega
  rw [yx]
  rcases xG (o9 hok) with ⟨h1, h2⟩ | ⟨h1, h2⟩
  ·rw [if_pos h1]
   exact ⟨Int.le_refl _, fun _ => (pU (vV (o9 hok)) hax).1⟩
  ·rw [if_neg (by omega)]
   have hsum : ∀ l : List ai, (∀ x, x ∈ l → 1 ≤ gI ax x) → (l.length : Int) ≤ xM ax l := by
    intro l
    induction l with
    | nil => intro _; rw [Hq]; simp
    | cons x xs ihl =>
     intro h
     have a1 := h x (by simp)
     have a2 := ihl (fun y hy => h y (by simp [hy]))
     rw [yE, List.length_cons]
     omega
   have aeB := fun (ht : mf c = true) => CW (c := c) (by rw [tJ, Bool.and_eq_true] at ht; exact ht.1) h1 (by omega)
   cases ha : iH ax c.f0 with
   | true =>
    have e : c.f0 - 1 = ax := by
     unfold iH at ha
     simp at ha
     omega
    simp only [if_true]
    refine ⟨by have := hsum c.f3 (fun x hx => (hk x hx).1); omega, fun ht => ?_⟩
    obtain ⟨g1, _⟩ := aeB ht
    rw [e] at g1
    have := abJ (ax := ax) (l := c.f3) (fun x hx => (hk x hx).2 (Bl ht hx))
    omega
   | false =>
    have e : 3 - (c.f0 - 1) = ax := by
     unfold iH at ha
     simp at ha
     omega
    simp only [Bool.false_eq_true, if_false]
    refine ⟨?_, fun ht => ?_⟩
    ·cases hl : c.f3 with
     | nil => rw [hl] at h2; simp at h2
     | cons x xs =>
      have := (hk x (by rw [hl]; simp)).1
      rw [pK]
      exact Int.le_trans this (Int.le_trans (VR 0 _) Pm)
    ·obtain ⟨_, g2⟩ := aeB ht
     rw [e] at g2
     have := pU (vV (o9 hok)) hax
     exact X0 (by omega) (fun x hx => by
      have := (hk x hx).2 (Bl ht hx)
      rw [g2 x hx] at this
      exact this)
section
variable {W : World} {b : Nat} {P : Nat → Prop} {A : Option Addr} {cc : Nat}
theorem qG (c : ai) (hz : sz c ≤ 1048576) (h1 : Kd.C k26 W A 1 [c]) (h2 : 1 ≤ cc) : Calls Try.prog 148 #[.slice A 1 cc] W fun e w' => e = .returned (.bool (dF c)) ∧ Below W.heap.size W w' := by
 have h := Yt [c] (fun x hx => by rw [List.mem_singleton.1 hx]; exact hz) A cc W h1 h2
 simpa using h
theorem jL {c : ai} {v : Bool} {f : FuncId} {args : Array Value} (h : dF c = v) (hc : Calls Try.prog f args W fun e w' => e = .returned (.bool (dF c)) ∧ Below W.heap.size W w') : Calls Try.prog f args W fun e w' => e = .returned (.bool v) ∧ Below W.heap.size W w' := by
 rw [h] at hc
 exact hc
theorem qc (c : ai) (hz : sz c ≤ 1048576) (hV : Kd.V k26 26 W b P (.slice A c.f3.length cc) c.f3) :
  Calls Try.prog 84 #[.agg #[.int .u8 c.f0, .int .i64 c.f1.f0, .int .i64 c.f1.f1, .int .i64 c.f1.f2, .int .i64 c.f1.f3, .int .i64 c.f2, .slice A c.f3.length cc]] W fun e w' => e = .returned (.bool (dF c)) ∧ Below W.heap.size W w' := by
 obtain ⟨k, hk⟩ := (PG c hz).rounds
 have h := Kd.oI hV
 exact nJ.calls k _ _ _ _ _ _ A cc c.f3 _ W h.2.2 h.2.1 hk
theorem I7 (r : dK) (ax : Int) : Calls Try.prog 98 #[.agg #[.int .i64 r.f0, .int .i64 r.f1, .int .i64 r.f2, .int .i64 r.f3], .int .u8 ax] W fun e w' => e = .returned (.int .i64 (aK ax r)) ∧ Below W.heap.size W w' :=
 rq.calls r.f0 r.f1 r.f2 r.f3 ax _ W (LY r ax)
end
section
variable {Pr : Program} {ops : Array Oper} {rest : List Oper} {op : Oper} {a : Act} {Q : Exit → Act → World → Prop} {w W : World} {P P' : Nat → Prop} {bs : List (Option Nat × Obj)} {ow : List (Value × List ai)} {ts : List (Value × List ai)} {ro : List (Addr × Value)}
theorem mD {N : Tmp} (hd : op.dst = some N) (hgd : op.guard = none) (x : ai) {A : Option Addr} {c b : Nat} (S : St w P bs ow ts ro W) (hV : Kd.V k26 26 W b P' (.slice A x.f3.length c) x.f3)
  (hrun : (execOp a.eval op).run Pr W = .ok (.value (.slice (some ⟨W.heap.size, 0, none⟩) 1 1)) (W.alloc (.cells (iI x A c).toArray 26)))
  (h : ∀ A1 c1 w1, St w P bs ow ts ro w1 → 1 ≤ c1 → Kd.C k26 w1 A1 1 [x] → wpList Pr ops Q rest (a.put op.dst (.slice A1 1 c1)) w1) : wpList Pr ops Q (op :: rest) a W := by
 obtain ⟨_, hl, hF⟩ := Kd.yQ hV
 refine Kd.zk k26 (w0 := W) W.heap.size 26 hgd hd (xs := [x]) (inner := iI x A c) (ok := fun _ => True) (fG := P') hrun (bF.c7 (nH W P' x hl hF) (bF.none _ _)) (fun _ _ => trivial) trivial (Below.refl _ _) (Nat.le_refl _) (by simp) ?_
 intro v1 w1 hN _ hg _
 obtain ⟨A1, c1, rfl⟩ := Kd.jJ hN
 exact h A1 c1 w1 (S.call (qy hg)) (Kd.jO hN).2.1 (Kd.jO hN).2.2
end
abbrev MH (w : World) (P : Nat → Prop) (z : ai) (n : Int) (e : Ending) (w' : World) : Prop := ∃ A c, e = .returned (.tuple #[.agg #[.int .u8 z.f0, .int .i64 z.f1.f0, .int .i64 z.f1.f1, .int .i64 z.f1.f2, .int .i64 z.f1.f3, .int .i64 z.f2, .slice A z.f3.length c], .int .i64 n]) ∧ Kd.N k26 26 w' w.heap.size (fun k => P k ∨ w.heap.size ≤ k) (.slice A z.f3.length c) z.f3 ∧ Below w.heap.size w w'
noncomputable def WZ (ax : Int) (c : ai) : Bool := !dF c || (ax != 1 && ax != 2)
noncomputable def W9 (ax : Int) (c : ai) (b : Int) : Bool := decide (b < wrap64 (-(jG ax c))) || decide (b > wrap64 (10000 - aK ax ⟨0, 0, wrap64 (c.f1.f0 + c.f1.f2), wrap64 (c.f1.f1 + c.f1.f3)⟩))
noncomputable def aZ (ax : Int) (c : ai) (b : Int) : ai := if WZ ax c = true then z26 else if W9 ax c b = true then z26 else fH (sO ax c b) c.f1.f0 c.f1.f1
theorem MN {Pr : Program} {ops : Array Oper} {rest : List Oper} {op : Oper} {a : Act} {Q : Exit → Act → World → Prop} {w W : World} {P : Nat → Prop} {bs : List (Option Nat × Obj)} {ts : List (Value × List ai)} {ro : List (Addr × Value)} {N : Tmp} (hd : op.dst = some N) (hgd : op.guard = none) (x y : ai) {A B : Option Addr} {c d b b' : Nat} (S : St w P bs [] ts ro W)
  (hV : Kd.V k26 26 W b (Ok w P (keys bs [])) (.slice A x.f3.length c) x.f3) (hV' : Kd.V k26 26 W b' (Ok w P (keys bs [])) (.slice B y.f3.length d) y.f3)
  (hrun : (execOp a.eval op).run Pr W = .ok (.value (.slice (some ⟨W.heap.size, 0, none⟩) 2 2)) (W.alloc (.cells (iI x A c ++ iI y B d).toArray 26)))
  (h : ∀ g c1 w1, St w P bs [(.slice (some ⟨g, 0, none⟩) 2 c1, [x, y])] ts ro w1 → wpList Pr ops Q rest (a.put op.dst (.slice (some ⟨g, 0, none⟩) 2 c1)) w1) : wpList Pr ops Q (op :: rest) a W := by
 obtain ⟨_, hl, hF⟩ := Kd.yQ hV
 obtain ⟨_, hl', hF'⟩ := Kd.yQ hV'
 refine Kd.zk k26 (w0 := W) W.heap.size 26 hgd hd (xs := [x, y]) (inner := iI x A c ++ iI y B d) (ok := fun k => Ok w P (keys bs []) k ∨ W.heap.size ≤ k) (fG := Ok w P (keys bs [])) hrun (bF.c7 (nH W _ x hl hF) (bF.c7 (nH W _ y hl' hF') (bF.none _ _))) (fun _ h => .inl h) (.inr (Nat.le_refl _)) (Below.refl _ _) (Nat.le_refl _) (by simp) ?_
 intro v1 w1 hN _ hg _
 obtain ⟨g, c1, rfl, _⟩ := Kd.sN hN (by simp)
 exact h g c1 w1 (S.xK hN (qy hg))
theorem Y0 {Pr : Program} {ops : Array Oper} {op : Oper} {a : Act} {Q : Exit → Act → World → Prop} {Kc : Act → World → Prop} {w W : World} {P : Nat → Prop} {bs : List (Option Nat × Obj)} {ts : List (Value × List ai)} {ro : List (Addr × Value)} {N : Tmp} (hw : Region.wanted op (yielded ops a.tmps) = true) (hd : op.dst = some N) (x y : ai) {A B : Option Addr} {c d b b' : Nat} (S : St w P bs [] ts ro W)
  (hV : Kd.V k26 26 W b (Ok w P (keys bs [])) (.slice A x.f3.length c) x.f3) (hV' : Kd.V k26 26 W b' (Ok w P (keys bs [])) (.slice B y.f3.length d) y.f3)
  (hrun : (execOp a.eval op).run Pr W = .ok (.value (.slice (some ⟨W.heap.size, 0, none⟩) 2 2)) (W.alloc (.cells (iI x A c ++ iI y B d).toArray 26)))
  (h : ∀ g c1 w1, St w P bs [(.slice (some ⟨g, 0, none⟩) 2 c1, [x, y])] ts ro w1 → Kc (a.put op.dst (.slice (some ⟨g, 0, none⟩) 2 c1)) w1) : if Region.wanted op (yielded ops a.tmps) = true then Oper.wp Pr op a W Kc Q else Kc (a.put op.dst undef) W := by
 obtain ⟨_, hl, hF⟩ := Kd.yQ hV
 obtain ⟨_, hl', hF'⟩ := Kd.yQ hV'
 refine Kd.RS k26 (w0 := W) W.heap.size 26 hw hd (xs := [x, y]) (inner := iI x A c ++ iI y B d) (ok := fun k => Ok w P (keys bs []) k ∨ W.heap.size ≤ k) (fG := Ok w P (keys bs [])) hrun (bF.c7 (nH W _ x hl hF) (bF.c7 (nH W _ y hl' hF') (bF.none _ _))) (fun _ h => .inl h) (.inr (Nat.le_refl _)) (Below.refl _ _) (Nat.le_refl _) (by simp) ?_
 intro v1 w1 hN _ hg _
 obtain ⟨g, c1, rfl, _⟩ := Kd.sN hN (by simp)
 exact h g c1 w1 (S.xK hN (qy hg))
abbrev R_ (w : World) (P : Nat → Prop) (L : List ai) (e : Ending) (w' : World) : Prop := ∃ A c, e = .returned (.slice A L.length c) ∧ Kd.N k26 26 w' w.heap.size (fun k => P k ∨ w.heap.size ≤ k) (.slice A L.length c) L ∧ Below w.heap.size w w'
theorem x_ {P : Program} (w : World) (dT sT ty elem : TypeId) (i : TypeInfo) (g o dLen dCap : Nat) (a : Addr) (sLen sCap : Nat) (cur : Array Value) (t : TypeId) (cs : List Value) (m : Nat)
  (hu : P.underlying dT = some (.slice elem)) (hi : P.info? elem = some i) (hm : Nat.min sLen dLen = m) (hn : cs.length = m * i.size) (hg : w.heap[g]? = some (.cells cur t (0, 0)))
  (hsrc : ∀ j v, cs[j]? = some v → w.cell? (a.add j) = some v) (hfit : o + cs.length ≤ cur.size) (h1 : ∀ v ∈ cs, v.oneCell' = true) :
  (Builtin.copy_ #[dT, sT] ty #[.slice (some ⟨g, o, none⟩) dLen dCap, .slice (some a) sLen sCap]).run P w =
   .ok (goInt m) (w.setRow g (cur.toList.take o ++ cs ++ cur.toList.drop (o + cs.length)).toArray) := by
 have hl := run_firstCells_some (P := P) w i.size m a sLen sCap cs hn hsrc
 have hst := run_storeCells_at (P := P) g o t cs 0 cur w hg (by simpa using hfit) h1
 simp only [Nat.add_zero] at hst
 simp [Builtin.copy_, run_underlying hu, Builtin.lenOf, sizeOf, typeInfo, hi, hm, hl, hst]
theorem Qp {α : Type} {d : Kd α} {e base : Nat} {ok : Nat → Prop} {W w1 : World} {v v1 : Value} {xs : List α} {rows : List (List Value)} (h0 : ∀ k, v.ownBlock = some k → ok k) (hl : rows.length = xs.length)
  (hf : ∀ (j : Nat) (x : α) (c : List Value), xs[j]? = some x → rows[j]? = some c → Kd.FK d W (fun k => ok k ∧ some k ≠ v.ownBlock) x c) (hfresh : ∀ k, W.heap.size ≤ k → ok k)
  (hR : (Kd.raw d.sz).R e w1 base (fun _ => True) v1 rows) (hg : W.grownBy w1 v.ownBlock) (hat : v1.ownBlock = v.ownBlock ∨ ∃ b, v1.ownBlock = some b ∧ W.heap.size ≤ b) : Kd.N d e w1 base ok v1 xs := by
 have h := Kd.Cc (d := d) (ys := ([] : List α)) (news := []) (fG := fun _ => False) h0 hl hf rfl (fun j x c hx => by simp at hx) (fun _ h => h.elim) hfresh (by rw [List.append_nil]; exact hR) hg hat
 rwa [List.append_nil] at h
theorem L6 {α β : Type} {xs ys : List α} {rows news : List β} {i j : Nat} {Rr : α → β → Prop} (hl : rows.length = xs.length) (hl2 : news.length = ys.length)
  (h1 : ∀ (k : Nat) (x : α) (c : β), xs[k]? = some x → rows[k]? = some c → Rr x c) (h2 : ∀ (k : Nat) (x : α) (c : β), ys[k]? = some x → news[k]? = some c → Rr x c) :
  (rows.take i ++ news ++ rows.drop j).length = (xs.take i ++ ys ++ xs.drop j).length ∧ ∀ (k : Nat) (x : α) (c : β), (xs.take i ++ ys ++ xs.drop j)[k]? = some x → (rows.take i ++ news ++ rows.drop j)[k]? = some c → Rr x c := by
 obtain ⟨P, rfl, rfl⟩ : ∃ P : List (α × β), xs = P.map Prod.fst ∧ rows = P.map Prod.snd := ⟨xs.zip rows, (List.map_fst_zip (by omega)).symm, (List.map_snd_zip (by omega)).symm⟩
 obtain ⟨Q, rfl, rfl⟩ : ∃ Q : List (α × β), ys = Q.map Prod.fst ∧ news = Q.map Prod.snd := ⟨ys.zip news, (List.map_fst_zip (by omega)).symm, (List.map_snd_zip (by omega)).symm⟩
 simp only [← List.map_take, ← List.map_drop, ← List.map_append, List.length_map, List.getElem?_map, true_and]
 have m1 : ∀ p, p ∈ P → Rr p.1 p.2 := by
  intro p hp
  obtain ⟨k, hk⟩ := List.getElem?_of_mem hp
  exact h1 k _ _ (by rw [List.getElem?_map, hk]; rfl) (by rw [List.getElem?_map, hk]; rfl)
 have m2 : ∀ p, p ∈ Q → Rr p.1 p.2 := by
  intro p hp
  obtain ⟨k, hk⟩ := List.getElem?_of_mem hp
  exact h2 k _ _ (by rw [List.getElem?_map, hk]; rfl) (by rw [List.getElem?_map, hk]; rfl)
 intro k x c hx hc
 cases hq : (P.take i ++ Q ++ P.drop j)[k]? with
 | none => rw [hq] at hx; cases hx
 | some p =>
  rw [hq] at hx hc
  simp only [Option.map_some, Option.some.injEq] at hx hc
  subst hx hc
  have hm := List.mem_of_getElem? hq
  rcases List.mem_append.1 hm with hm | hm
  ·rcases List.mem_append.1 hm with hm | hm
   ·exact m1 p (List.mem_of_mem_take hm)
   ·exact m2 p hm
  ·exact m1 p (List.mem_of_mem_drop hm)
theorem TT {cur inner cs2 : List Value} {a b c m : Nat} (hin : cur.take c = inner) (hc : inner.length = c) (hab : a + m + (c - b) ≤ cur.length) (hb : b ≤ c) (hac : a ≤ c) (hm : cs2.length = m) :
  (((cur.take (a + m) ++ inner.drop b ++ cur.drop (a + m + (inner.drop b).length)).take a ++ cs2 ++ (cur.take (a + m) ++ inner.drop b ++ cur.drop (a + m + (inner.drop b).length)).drop (a + cs2.length)).take (a + m + (c - b))) = inner.take a ++ cs2 ++ inner.drop b := by
 have hcl : c ≤ cur.length := by
  have := congrArg List.length hin
  rw [List.length_take] at this
  omega
 have e1 : (cur.take (a + m)).length = a + m := by rw [List.length_take]; omega
 have e2 : (inner.drop b).length = c - b := by rw [List.length_drop, hc]
 have e3 : (cur.take (a + m) ++ inner.drop b ++ cur.drop (a + m + (inner.drop b).length)).take a = inner.take a := by
  rw [List.append_assoc, List.take_append_of_le_length (by rw [e1]; omega), List.take_take, Nat.min_eq_left (by omega), ← hin, List.take_take, Nat.min_eq_left hac]
 have e4 : (cur.take (a + m) ++ inner.drop b ++ cur.drop (a + m + (inner.drop b).length)).drop (a + cs2.length) = inner.drop b ++ cur.drop (a + m + (inner.drop b).length) := by
  rw [hm, List.append_assoc, List.drop_append, List.drop_eq_nil_of_le (by rw [e1]; omega), e1, Nat.sub_self, List.drop_zero, List.nil_append]
 rw [e3, e4]
 have e5 : (inner.take a).length = a := by rw [List.length_take]; omega
 rw [show inner.take a ++ cs2 ++ (inner.drop b ++ cur.drop (a + m + (inner.drop b).length)) = (inner.take a ++ cs2 ++ inner.drop b) ++ cur.drop (a + m + (inner.drop b).length) by simp]
 rw [List.take_append_of_le_length (by rw [List.length_append, List.length_append, e5, e2, hm]; omega)]
 exact List.take_of_length_le (by rw [List.length_append, List.length_append, e5, e2, hm]; omega)
end Go.Proofs.Ytfdmfgaiblfbhaa.P
