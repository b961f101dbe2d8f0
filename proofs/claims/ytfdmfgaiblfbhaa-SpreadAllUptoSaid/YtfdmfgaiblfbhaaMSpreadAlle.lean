/- SpreadAll: part 5 of 6 of this claim's texts, one behind the other, made small by a program: the words of the kit's printer cut down to those that are used, the claim's own names made short. -/
import Derived.Test.YtfdmfgaiblfbhaaMSpreadAlld
import Derived.Test.YtfdmfgaiblfbhaaMSpreadAllc
import Derived.WalkSpells
set_option maxHeartbeats 8000000
set_option maxRecDepth 100000
set_option linter.unusedVariables false
set_option linter.unusedSimpArgs false
namespace Go.Proofs.Ytfdmfgaiblfbhaa.P
open Go.RowKit Go.Proofs.ag.aV Go.Proofs.ag.bM Go.Proofs.ag.di
theorem Ku {x : ByteArray} {w : World} {A : Option Addr} (h : Kd.C Kd.string w A 1 [x]) : ∃ ad, A = some ad := by
 obtain ⟨ad, h1, _⟩ := h.2.2 (by omega)
 exact ⟨ad, h1⟩
theorem TA (c : ai) (hz : sz c ≤ 1048576) (A : Option Addr) (cc : Nat) (w : World) (hr : Kd.C k26 w A c.f3.length c.f3) (hc : c.f3.length ≤ cc) :
  Calls Try.prog 180 #[.agg #[.int .u8 c.f0, .int .i64 c.f1.f0, .int .i64 c.f1.f1, .int .i64 c.f1.f2, .int .i64 c.f1.f3, .int .i64 c.f2, .slice A c.f3.length cc]] w fun e w' => (if fB c = true then e = .returned .nilIface else ∃ t u, e = .returned (.iface t u)) ∧ Below w.heap.size w w' := by
 have hM : qI.f [c] = some (lq c) := by
  unfold qI.f
  rw [if_pos (by simp [hz])]
  simp
 have hW : lq c = true → ∀ (gw : Nat) (W : World), w.heap.size ≤ gw → oz w gw 0 W → Calls Try.prog 197 #[.pointer (some ⟨gw, 0, none⟩), .agg #[.int .u8 c.f0, .int .i64 c.f1.f0, .int .i64 c.f1.f1, .int .i64 c.f1.f2, .int .i64 c.f1.f3, .int .i64 c.f2, .slice A c.f3.length cc]] W fun e w' => e = .returned (.bool (kW c)) ∧ oz w gw (0 + fV c.f3) w' ∧ Fr gw W w' := fun hm gw W hg hI => YU w gw hg (sz c) c (Nat.le_refl _) (oW hm) A cc hr hc 0 W (by have := oW hm; have := dR c; omega) hI
 unfold fB
 have HR := ae.mk hr
 have HC := ae.mk hc
 have HM := ae.mk hM
 have HW := ae.mk hW
 have HB := ae.mk (Below.refl w.heap.size w)
 clear hr hc hM hW hz
 obtain ⟨ck, ⟨cx, cy, cw, ch⟩, aj, l⟩ := c
 simp only [] at HR HC HW ⊢
 generalize kW ⟨ck, ⟨cx, cy, cw, ch⟩, aj, l⟩ = q at HW ⊢
 cases hm : lq (⟨ck, ⟨cx, cy, cw, ch⟩, aj, l⟩ : ai) with
 | false =>
  rw [hm] at HM
  have HM := HM
  simp only [Bool.false_and, Bool.false_eq_true, if_false]
  clear hm HW
  go_enter Try.func180, Try.ntmps180
  go_wp2_with (first
   | ((with_reducible refine aC (N := 1) rfl ?_); refine aW ?hg (N := 1) ?hd (cs := #[.int .u8 ck, .int .i64 cx, .int .i64 cy, .int .i64 cw, .int .i64 ch, .int .i64 aj, .slice A l.length cc]) (t := 26) ?hr ?_; (case hd => rfl); (case hg => rfl); (case hr => first | (go_simp; done) | (go_simp; rfl)); intro b1 hg V4 hbox hb; have dY := ae.mk hbox; have df := ae.mk (ak HB.out hb); clear HB; have HB := df; clear df; clear hb hbox hg)
   | ((with_reducible refine aC (N := 5) rfl ?_); refine aW ?hg (N := 5) ?hd (cs := #[.int .i64 0, .slice none 0 0]) (t := 182) ?hr ?_; (case hd => rfl); (case hg => rfl); (case hr => first | (go_simp; done) | (go_simp; rfl)); intro gw hg wgw hbox hb; have oh := ae.mk hbox; have GG := ae.mk (show w.heap.size ≤ gw by rw [hg]; exact HB.out.size); have df := ae.mk (ak HB.out hb); have gI := ae.mk (aY dY.out hb); clear HB dY; have HB := df; have dY := gI; clear df gI; have c0 := (af dY.out 0).trans rfl; have c1 := (af dY.out 1).trans rfl; have c2 := (af dY.out 2).trans rfl; have c3 := (af dY.out 3).trans rfl; have c4 := (af dY.out 4).trans rfl; have c5 := (af dY.out 5).trans rfl; have c6 := (af dY.out 6).trans rfl; clear hb hbox hg)
   | ((with_reducible refine aC (N := 8) rfl ?_); refine Kd.wR k26 _ 26 ?hg (N' := 8) ?hd (xs := [(⟨ck, ⟨cx, cy, cw, ch⟩, aj, l⟩ : ai)]) (inner := [.int .u8 ck, .int .i64 cx, .int .i64 cy, .int .i64 cw, .int .i64 ch, .int .i64 aj, .slice A l.length cc]) (ok := fun _ => True) (fH := fun _ => True) ?hr ?hp (fun _ hk => hk) trivial (Below.refl _ _) (Nat.le_refl _) (by simp) ?_; (case hd => rfl); (case hg => rfl); (case hr => first | (go_simp; done) | (go_simp; rfl)); (case hp => exact (bD.c7 (pY _ _ (⟨ck, ⟨cx, cy, cw, ch⟩, aj, l⟩ : ai) HC.out (Kd.pM (Kd.Dh nZ (Kd.jH HR.out HB.out)) (fun _ _ => trivial))) (bD.none _ _))); intro vr wr ho hb kF gQ; clear kF gQ; obtain ⟨Am, cm, er⟩ := Kd.jU ho; subst er; have df := ae.mk (ak HB.out hb); have gI := ae.mk (aY dY.out hb); have nR := ae.mk (aY oh.out hb); clear HB dY oh; have HB := df; have dY := gI; have oh := nR; clear df gI nR; have Hm := ae.mk (Kd.jk ho).2.2; have Lm := ae.mk (Kd.jk ho).2.1; clear ho hb c0 c1 c2 c3 c4 c5 c6)
   | fail)
  refine (qI.calls Am cm [(⟨ck, ⟨cx, cy, cw, ch⟩, aj, l⟩ : ai)] false _ Hm.out Lm.out HM.out).mono ?_
  rintro e w1 ⟨rfl, hb⟩
  have df := ae.mk (ak HB.out hb); have gI := ae.mk (aY dY.out hb); have nR := ae.mk (aY oh.out hb); clear HB dY oh; have HB := df; have dY := gI; have oh := nR; clear df gI nR
  clear hb Hm Lm
  go_wp2_with fail
  refine (Q9 1 0 (by decide) _).mono ?_
  rintro e w2 ⟨⟨tv, v, rfl⟩, hb⟩
  have df := ae.mk (ak HB.out hb); clear HB; have HB := df; clear df
  clear hb
  go_wp2_with (first
   | ((with_reducible refine aC (N := 12) rfl ?_); refine Kd.o8 Kd.string _ 9 ?hg (N := 12) ?hd (xs := [(⟨#[108, 97, 121, 111, 117, 116]⟩ : ByteArray)]) (inner := [.string (⟨#[108, 97, 121, 111, 117, 116]⟩ : ByteArray)]) (ok := fun _ => True) (fH := fun _ => True) ?hr ?hp (fun _ hk => hk) trivial (Below.refl _ _) (Nat.le_refl _) (by simp) ?_; (case hd => rfl); (case hg => rfl); (case hr => first | (go_simp; done) | (go_simp; rfl)); (case hp => exact (bD.one (show Kd.M Kd.string _ _ _ (⟨#[108, 97, 121, 111, 117, 116]⟩ : ByteArray) [.string (⟨#[108, 97, 121, 111, 117, 116]⟩ : ByteArray)] from rfl) (bD.none _ _))); intro vs wr ho hb kF gQ; clear kF gQ; obtain ⟨As, cs_, er⟩ := Kd.fG ho; subst er; have df := ae.mk (ak HB.out hb); clear HB; have HB := df; clear df; have Hs := ae.mk (Kd.bQ ho).2.2; have Ls := ae.mk (Kd.bQ ho).2.1; clear ho hb)
   | fail)
  obtain ⟨ad, ea⟩ := Ku Hs.out
  subst ea
  refine (VP tv v ad cs_ _ _ Hs.out Ls.out).mono ?_
  rintro e w3 ⟨⟨tu, u, rfl⟩, hb⟩
  have df := ae.mk (ak HB.out hb); clear HB; have HB := df; clear df
  clear hb Hs Ls
  go_wp2
  go_ret
  exact ⟨⟨_, _, rfl⟩, HB.out⟩
 | true =>
  rw [hm] at HM
  have HW := ae.mk (HW.out hm)
  simp only [Bool.true_and]
  clear hm
  cases q with
  | true =>
   simp only [if_true]
   go_enter Try.func180, Try.ntmps180
   go_wp2_with (first
    | ((with_reducible refine aC (N := 1) rfl ?_); refine aW ?hg (N := 1) ?hd (cs := #[.int .u8 ck, .int .i64 cx, .int .i64 cy, .int .i64 cw, .int .i64 ch, .int .i64 aj, .slice A l.length cc]) (t := 26) ?hr ?_; (case hd => rfl); (case hg => rfl); (case hr => first | (go_simp; done) | (go_simp; rfl)); intro b1 hg V4 hbox hb; have dY := ae.mk hbox; have df := ae.mk (ak HB.out hb); clear HB; have HB := df; clear df; clear hb hbox hg)
    | ((with_reducible refine aC (N := 5) rfl ?_); refine aW ?hg (N := 5) ?hd (cs := #[.int .i64 0, .slice none 0 0]) (t := 182) ?hr ?_; (case hd => rfl); (case hg => rfl); (case hr => first | (go_simp; done) | (go_simp; rfl)); intro gw hg wgw hbox hb; have oh := ae.mk hbox; have GG := ae.mk (show w.heap.size ≤ gw by rw [hg]; exact HB.out.size); have df := ae.mk (ak HB.out hb); have gI := ae.mk (aY dY.out hb); clear HB dY; have HB := df; have dY := gI; clear df gI; have c0 := (af dY.out 0).trans rfl; have c1 := (af dY.out 1).trans rfl; have c2 := (af dY.out 2).trans rfl; have c3 := (af dY.out 3).trans rfl; have c4 := (af dY.out 4).trans rfl; have c5 := (af dY.out 5).trans rfl; have c6 := (af dY.out 6).trans rfl; clear hb hbox hg)
    | ((with_reducible refine aC (N := 8) rfl ?_); refine Kd.wR k26 _ 26 ?hg (N' := 8) ?hd (xs := [(⟨ck, ⟨cx, cy, cw, ch⟩, aj, l⟩ : ai)]) (inner := [.int .u8 ck, .int .i64 cx, .int .i64 cy, .int .i64 cw, .int .i64 ch, .int .i64 aj, .slice A l.length cc]) (ok := fun _ => True) (fH := fun _ => True) ?hr ?hp (fun _ hk => hk) trivial (Below.refl _ _) (Nat.le_refl _) (by simp) ?_; (case hd => rfl); (case hg => rfl); (case hr => first | (go_simp; done) | (go_simp; rfl)); (case hp => exact (bD.c7 (pY _ _ (⟨ck, ⟨cx, cy, cw, ch⟩, aj, l⟩ : ai) HC.out (Kd.pM (Kd.Dh nZ (Kd.jH HR.out HB.out)) (fun _ _ => trivial))) (bD.none _ _))); intro vr wr ho hb kF gQ; clear kF gQ; obtain ⟨Am, cm, er⟩ := Kd.jU ho; subst er; have df := ae.mk (ak HB.out hb); have gI := ae.mk (aY dY.out hb); have nR := ae.mk (aY oh.out hb); clear HB dY oh; have HB := df; have dY := gI; have oh := nR; clear df gI nR; have Hm := ae.mk (Kd.jk ho).2.2; have Lm := ae.mk (Kd.jk ho).2.1; clear ho hb c0 c1 c2 c3 c4 c5 c6)
    | fail)
   refine (qI.calls Am cm [(⟨ck, ⟨cx, cy, cw, ch⟩, aj, l⟩ : ai)] true _ Hm.out Lm.out HM.out).mono ?_
   rintro e w1 ⟨rfl, hb⟩
   have df := ae.mk (ak HB.out hb); have gI := ae.mk (aY dY.out hb); have nR := ae.mk (aY oh.out hb); clear HB dY oh; have HB := df; have dY := gI; have oh := nR; clear df gI nR
   clear hb Hm Lm
   have HI := ae.mk (show oz w gw 0 w1 from ⟨HB.out, 0, .slice none 0 0, [], oh.out, Kd.qR _ _ _ _ _, Nat.le_refl _⟩)
   have c0 := (af dY.out 0).trans rfl
   have c1 := (af dY.out 1).trans rfl
   have c2 := (af dY.out 2).trans rfl
   have c3 := (af dY.out 3).trans rfl
   have c4 := (af dY.out 4).trans rfl
   have c5 := (af dY.out 5).trans rfl
   have c6 := (af dY.out 6).trans rfl
   go_wp2_with fail
   clear c0 c1 c2 c3 c4 c5 c6
   refine (HW.out gw w1 GG.out HI.out).mono ?_
   rintro e w2 ⟨rfl, ⟨hb2, n, v, ls, hk, _, _⟩, _⟩
   clear HB oh HI dY
   have HB := ae.mk hb2
   have oh := ae.mk hk
   clear hb2 hk
   go_wp2
   go_ret
   exact ⟨rfl, HB.out⟩
  | false =>
   simp only [Bool.false_eq_true, if_false]
   go_enter Try.func180, Try.ntmps180
   go_wp2_with (first
    | ((with_reducible refine aC (N := 1) rfl ?_); refine aW ?hg (N := 1) ?hd (cs := #[.int .u8 ck, .int .i64 cx, .int .i64 cy, .int .i64 cw, .int .i64 ch, .int .i64 aj, .slice A l.length cc]) (t := 26) ?hr ?_; (case hd => rfl); (case hg => rfl); (case hr => first | (go_simp; done) | (go_simp; rfl)); intro b1 hg V4 hbox hb; have dY := ae.mk hbox; have df := ae.mk (ak HB.out hb); clear HB; have HB := df; clear df; clear hb hbox hg)
    | ((with_reducible refine aC (N := 5) rfl ?_); refine aW ?hg (N := 5) ?hd (cs := #[.int .i64 0, .slice none 0 0]) (t := 182) ?hr ?_; (case hd => rfl); (case hg => rfl); (case hr => first | (go_simp; done) | (go_simp; rfl)); intro gw hg wgw hbox hb; have oh := ae.mk hbox; have GG := ae.mk (show w.heap.size ≤ gw by rw [hg]; exact HB.out.size); have df := ae.mk (ak HB.out hb); have gI := ae.mk (aY dY.out hb); clear HB dY; have HB := df; have dY := gI; clear df gI; have c0 := (af dY.out 0).trans rfl; have c1 := (af dY.out 1).trans rfl; have c2 := (af dY.out 2).trans rfl; have c3 := (af dY.out 3).trans rfl; have c4 := (af dY.out 4).trans rfl; have c5 := (af dY.out 5).trans rfl; have c6 := (af dY.out 6).trans rfl; clear hb hbox hg)
    | ((with_reducible refine aC (N := 8) rfl ?_); refine Kd.wR k26 _ 26 ?hg (N' := 8) ?hd (xs := [(⟨ck, ⟨cx, cy, cw, ch⟩, aj, l⟩ : ai)]) (inner := [.int .u8 ck, .int .i64 cx, .int .i64 cy, .int .i64 cw, .int .i64 ch, .int .i64 aj, .slice A l.length cc]) (ok := fun _ => True) (fH := fun _ => True) ?hr ?hp (fun _ hk => hk) trivial (Below.refl _ _) (Nat.le_refl _) (by simp) ?_; (case hd => rfl); (case hg => rfl); (case hr => first | (go_simp; done) | (go_simp; rfl)); (case hp => exact (bD.c7 (pY _ _ (⟨ck, ⟨cx, cy, cw, ch⟩, aj, l⟩ : ai) HC.out (Kd.pM (Kd.Dh nZ (Kd.jH HR.out HB.out)) (fun _ _ => trivial))) (bD.none _ _))); intro vr wr ho hb kF gQ; clear kF gQ; obtain ⟨Am, cm, er⟩ := Kd.jU ho; subst er; have df := ae.mk (ak HB.out hb); have gI := ae.mk (aY dY.out hb); have nR := ae.mk (aY oh.out hb); clear HB dY oh; have HB := df; have dY := gI; have oh := nR; clear df gI nR; have Hm := ae.mk (Kd.jk ho).2.2; have Lm := ae.mk (Kd.jk ho).2.1; clear ho hb c0 c1 c2 c3 c4 c5 c6)
    | fail)
   refine (qI.calls Am cm [(⟨ck, ⟨cx, cy, cw, ch⟩, aj, l⟩ : ai)] true _ Hm.out Lm.out HM.out).mono ?_
   rintro e w1 ⟨rfl, hb⟩
   have df := ae.mk (ak HB.out hb); have gI := ae.mk (aY dY.out hb); have nR := ae.mk (aY oh.out hb); clear HB dY oh; have HB := df; have dY := gI; have oh := nR; clear df gI nR
   clear hb Hm Lm
   have HI := ae.mk (show oz w gw 0 w1 from ⟨HB.out, 0, .slice none 0 0, [], oh.out, Kd.qR _ _ _ _ _, Nat.le_refl _⟩)
   have c0 := (af dY.out 0).trans rfl
   have c1 := (af dY.out 1).trans rfl
   have c2 := (af dY.out 2).trans rfl
   have c3 := (af dY.out 3).trans rfl
   have c4 := (af dY.out 4).trans rfl
   have c5 := (af dY.out 5).trans rfl
   have c6 := (af dY.out 6).trans rfl
   go_wp2_with fail
   clear c0 c1 c2 c3 c4 c5 c6
   refine (HW.out gw w1 GG.out HI.out).mono ?_
   rintro e w2 ⟨rfl, ⟨hb2, n, v, ls, hk, _, _⟩, _⟩
   clear HB oh HI dY
   have HB := ae.mk hb2
   have oh := ae.mk hk
   clear hb2 hk
   have c0 := (af oh.out 0).trans rfl
   have c1 := (af oh.out 1).trans rfl
   go_wp2_with fail
   clear c0 c1
   refine (Q9 5 n (by decide) _).mono ?_
   rintro e w2 ⟨⟨tv, v, rfl⟩, hb⟩
   have df := ae.mk (ak HB.out hb); clear HB; have HB := df; clear df
   clear hb
   go_wp2_with (first
    | ((with_reducible refine aC (N := 24) rfl ?_); refine Kd.o8 Kd.string _ 9 ?hg (N := 24) ?hd (xs := [(⟨#[108, 97, 121, 111, 117, 116]⟩ : ByteArray)]) (inner := [.string (⟨#[108, 97, 121, 111, 117, 116]⟩ : ByteArray)]) (ok := fun _ => True) (fH := fun _ => True) ?hr ?hp (fun _ hk => hk) trivial (Below.refl _ _) (Nat.le_refl _) (by simp) ?_; (case hd => rfl); (case hg => rfl); (case hr => first | (go_simp; done) | (go_simp; rfl)); (case hp => exact (bD.one (show Kd.M Kd.string _ _ _ (⟨#[108, 97, 121, 111, 117, 116]⟩ : ByteArray) [.string (⟨#[108, 97, 121, 111, 117, 116]⟩ : ByteArray)] from rfl) (bD.none _ _))); intro vs wr ho hb kF gQ; clear kF gQ; obtain ⟨As, cs_, er⟩ := Kd.fG ho; subst er; have df := ae.mk (ak HB.out hb); clear HB; have HB := df; clear df; have Hs := ae.mk (Kd.bQ ho).2.2; have Ls := ae.mk (Kd.bQ ho).2.1; clear ho hb)
    | fail)
   obtain ⟨ad, ea⟩ := Ku Hs.out
   subst ea
   refine (VP tv v ad cs_ _ _ Hs.out Ls.out).mono ?_
   rintro e w3 ⟨⟨tu, u, rfl⟩, hb⟩
   have df := ae.mk (ak HB.out hb); clear HB; have HB := df; clear df
   clear hb Hs Ls
   go_wp2
   go_ret
   exact ⟨⟨_, _, rfl⟩, HB.out⟩
theorem aav (x : ai) (hz : sz x ≤ 1048576) (B : Option Addr) (cb : Nat) (W : World) (hr : Kd.C k26 W B x.f3.length x.f3) (hl : x.f3.length ≤ cb) :
  Calls Try.prog 179 #[.agg #[.int .u8 x.f0, .int .i64 x.f1.f0, .int .i64 x.f1.f1, .int .i64 x.f1.f2, .int .i64 x.f1.f3, .int .i64 x.f2, .slice B x.f3.length cb]] W fun e w' => e = .returned (.bool (!fB x)) ∧ Below W.heap.size W w' := by
 have HC := ae.mk (fun W1 (hb : Below W.heap.size W W1) => TA x hz B cb W1 (Kd.jH hr hb) hl)
 have HB := ae.mk (Below.refl W.heap.size W)
 clear hr hl hz
 cases hq : fB x
 all_goals
  simp only [hq, if_pos, Bool.false_eq_true, if_false] at HC
  clear hq
  go_enter Try.func179, Try.ntmps179
  go_wp2_with (first
   | ((with_reducible refine aC (N := 1) rfl ?_); refine aW ?hg (N := 1) ?hd (cs := #[.int .u8 x.f0, .int .i64 x.f1.f0, .int .i64 x.f1.f1, .int .i64 x.f1.f2, .int .i64 x.f1.f3, .int .i64 x.f2, .slice B x.f3.length cb]) (t := 26) ?hr ?_; (case hd => rfl); (case hg => rfl); (case hr => first | (go_simp; done) | (go_simp; rfl)); intro b1 hg V4 hbox hb; have dY := ae.mk hbox; have df := ae.mk (ak HB.out hb); clear HB; have HB := df; clear df; have c0 := (af dY.out 0).trans rfl; have c1 := (af dY.out 1).trans rfl; have c2 := (af dY.out 2).trans rfl; have c3 := (af dY.out 3).trans rfl; have c4 := (af dY.out 4).trans rfl; have c5 := (af dY.out 5).trans rfl; have c6 := (af dY.out 6).trans rfl; clear hb hbox hg)
   | fail)
  clear c0 c1 c2 c3 c4 c5 c6
 ·refine (HC.out _ HB.out).mono ?_
  rintro e w2 ⟨⟨t, u, rfl⟩, hb⟩
  have df := ae.mk (ak HB.out hb); clear HB; have HB := df; clear df
  clear hb
  go_wp2
  go_ret
  exact ⟨rfl, HB.out⟩
 ·refine (HC.out _ HB.out).mono ?_
  rintro e w2 ⟨rfl, hb⟩
  have df := ae.mk (ak HB.out hb); clear HB; have HB := df; clear df
  clear hb
  go_wp2
  go_ret
  exact ⟨rfl, HB.out⟩
theorem KC (l : List ai) (hz : ∀ x, x ∈ l → sz x ≤ 1048576) (A : Option Addr) (c : Nat) (w : World) (hr : Kd.C k26 w A l.length l) (hc : l.length ≤ c) :
  Calls Try.prog 148 #[.slice A l.length c] w fun e w' => e = .returned (.bool (l.all fB)) ∧ Below w.heap.size w w' := by
 have hq := LG (fun _ W => Below w.heap.size w W) (fun x => !fB x) 179 #[] (qK Try.func179 (by decide +kernel) (by kernel_rfl)) l A c w hr (fun _ _ h => h) (fun _ W n h => ak h (dP (Below.refl _ _) n))
  (fun x rest W B cb hx _ hI hC hlx => by
   refine (aav x (hz x hx) B cb W (Kd.jH hC hI) hlx).mono ?_
   rintro e w' ⟨he, hb⟩
   exact ⟨he, ak hI hb⟩) w (Below.refl _ _) hr.2.1
 have HQ := ae.mk hq
 rw [List.all_eq_not_any_not]
 clear hq hr hc hz
 generalize l.any (fun x => !fB x) = r at HQ ⊢
 cases r
 all_goals
  go_enter Try.func148, Try.ntmps148
  go_wp2_with fail
  refine HQ.out.mono ?_
  rintro e w2 ⟨rfl, hb⟩
  have HB := ae.mk hb
  clear hb
  go_wp2
  go_ret
  exact ⟨rfl, HB.out⟩
noncomputable def kS.f (l0 : List ai) : Option Bool := if l0.all (fun c => decide (sz c ≤ 1048576)) = true then some (l0.all fB) else none
theorem kS.calls (A0 : Option Addr) (c0 : Nat) (l0 : List ai) (r : Bool) (w : World) (hr0 : Kd.C k26 w A0 l0.length l0) (hc0 : l0.length ≤ c0) (h : kS.f l0 = some r) :
  Calls Try.prog 148 #[.slice A0 l0.length c0] w fun e w' => e = .returned (.bool r) ∧ Below w.heap.size w w' := by
 unfold kS.f at h
 split at h
 ·rename_i hz
  injection h with h
  subst h
  exact KC l0 (fun x hx => of_decide_eq_true (List.all_eq_true.1 hz x hx)) A0 c0 w hr0 hc0
 ·exact absurd h (by simp)
end Go.Proofs.Ytfdmfgaiblfbhaa.P
namespace Go.Proofs.Ytfdmfgaiblfbhaa.P
open Go.RowKit Go.Proofs.ag.aV Go.Proofs.ag.bM Go.Proofs.ag.di
attribute [local go_sem] kC kP lh lU jR jS kN kQ
noncomputable def bZ.j0 : Nat → Int → Bool → Int → Int → Int → Int → Int → Int → List (ai) → Option (Int)
 | 0, _, _, _, _, _, _, _, _, _ => none
 | k + 1, x1, Ff, Y7, Nh, Nl, Np, Nq, Y8, Y9 => if Ff = true then (some 0) else ((nM.f Nh Nl Np Nq x1).bind fun Ec => ((kL.f k Y7 Nh Nl Np Nq Y8 Y9 x1).bind fun BV => (some (wrap64 (Ec - BV)))))
noncomputable def bZ.f (k : Nat) (ay : Int) (aJ : Int) (aA : Int) (aH : Int) (bu : Int) (bz : Int) (aK : List (ai)) (a1 : Int) : Option (Int) := (ku.f a1).bind fun Gu => (if Gu = true then ((kS.f (([(⟨ay, (⟨aJ, aA, aH, bu⟩ : dE), bz, aK⟩ : ai)] : List (ai)))).bind fun vw => (bZ.j0 k a1 (!vw) ay aJ aA aH bu bz aK)) else (bZ.j0 k a1 true ay aJ aA aH bu bz aK))
def bZ.T3 : Bool × List (List Nat × List Nat) := (true, [([], []), ([0], [0]), ([], []), ([1, 2], [1, 2]), ([], []), ([], []), ([4, 5, 3], [4, 5]), ([3, 6], [3, 6]), ([7, 6, 0, 1, 2, 3, 4, 5, 6, 7], [7])])
def bZ.B3 : List Nat := [0, 1, 0, 7, 0, 0, 63, 127, 255]
theorem bZ.BX : iP .any (opsOf Try.f86 3) = bZ.T3 := by kernel_rfl
theorem bZ.yA : iL bZ.T3.2 bZ.B3 = true := by kernel_rfl
theorem bZ.calls (k : Nat) (ay : Int) (aJ : Int) (aA : Int) (aH : Int) (bu : Int) (bz : Int) (fJ : Nat → Prop) (dK : Option Addr) (dL : Nat) (aK : List (ai)) (a1 : Int) (r : Int) (w : World) (CV : Kd.V k26 26 w w.heap.size (fun k_ => fJ k_) (.slice dK aK.length dL) aK) (h : bZ.f k ay aJ aA aH bu bz aK a1 = some r) :
  Calls Try.prog 86 #[.agg #[.int .u8 ay, .int .i64 aJ, .int .i64 aA, .int .i64 aH, .int .i64 bu, .int .i64 bz, .slice dK aK.length dL], .int .u8 a1] w fun e w' => e = .returned (.int .i64 r) ∧ Below w.heap.size w w' := by
 have F7 := Try.underlying26
 have JQ := Try.underlying23
 have ji := ae.mk (show Kd.V k26 26 w w.heap.size (fun k_ => (fJ k_ ∨ w.heap.size ≤ k_)) (.slice dK aK.length dL) aK from Kd.gG CV (fun k_ hk => .inl hk))
 have HB := ae.mk (Below.refl w.heap.size w)
 have H : ((ku.f a1).bind fun Gu => (if Gu = true then ((kS.f (([(⟨ay, (⟨aJ, aA, aH, bu⟩ : dE), bz, aK⟩ : ai)] : List (ai)))).bind fun vw => (bZ.j0 k a1 (!vw) ay aJ aA aH bu bz aK)) else (bZ.j0 k a1 true ay aJ aA aH bu bz aK))) = some r := h
 clear h
 have IL := ae.mk H
 clear H
 go_enter Try.func86, Try.ntmps86
 go_upto_region 1 with (((with_reducible refine aC (N := 2) rfl ?_); (try (refine fQ (by rfl) ?_; dsimp only)); refine aW ?hg (N := 2) ?hd (cs := #[.int .u8 ay, .int .i64 aJ, .int .i64 aA, .int .i64 aH, .int .i64 bu, .int .i64 bz, .slice dK aK.length dL]) (t := 26) ?hr ?_; (case hd => rfl); (case hg => rfl); (case hr => (go_simp; done)); intro kU hg w4 hbox hb; have eU := ae.mk (hbox); replace ji := ae.mk (Kd.kE (Kd.qC ji.out kU (Nat.le_of_eq hg.symm)) hb); replace HB := ae.mk (ak (by repeat ((with_reducible exact HB.out))) hb); clear hb hbox hg))
 (skip)
 go_cut [13] (fun v13 wc => ∃ (kq : Nat) (IA : Bool), v13 = .bool IA ∧ ae (bZ.j0 kq a1 IA ay aJ aA aH bu bz aK = some r) ∧ ae (kq ≤ k) ∧ ae (Kd.V k26 26 wc w.heap.size (fun k_ => (fJ k_ ∨ w.heap.size ≤ k_) ∧ k_ ≠ kU) (.slice dK aK.length dL) aK) ∧ ae (wc.heap[kU]? = some (.cells #[.int .u8 ay, .int .i64 aJ, .int .i64 aA, .int .i64 aH, .int .i64 bu, .int .i64 bz, (.slice dK aK.length dL)] 26 (0, 0))) ∧ ae (Below w.heap.size w wc))
 case first =>
  have H := IL.out
  clear IL
  replace H := Option.bind_eq_some_iff.mp H
  obtain ⟨Gu, Pg, H⟩ := H
  replace H : (if Gu = true then ((kS.f (([(⟨ay, (⟨aJ, aA, aH, bu⟩ : dE), bz, aK⟩ : ai)] : List (ai)))).bind fun vw => (bZ.j0 k a1 (!vw) ay aJ aA aH bu bz aK)) else (bZ.j0 k a1 true ay aJ aA aH bu bz aK)) = some r := H
  have A5 := ae.mk Pg
  clear Pg
  by_cases c6 : Gu = true
  ·subst c6
   have H1 : ((kS.f (([(⟨ay, (⟨aJ, aA, aH, bu⟩ : dE), bz, aK⟩ : ai)] : List (ai)))).bind fun vw => (bZ.j0 k a1 (!vw) ay aJ aA aH bu bz aK)) = some r := by rw [if_pos rfl] at H; exact H
   clear H
   have H := H1
   clear H1
   obtain ⟨acy, OC⟩ : ∃ y_ : List (ai), y_ = (([(⟨ay, (⟨aJ, aA, aH, bu⟩ : dE), bz, aK⟩ : ai)] : List (ai))) := ⟨_, rfl⟩
   replace H : ((kS.f acy).bind fun vw => (bZ.j0 k a1 (!vw) ay aJ aA aH bu bz aK)) = some r := by (rw [OC]; with_reducible exact H)
   have acY := ae.mk OC
   clear OC
   replace H := Option.bind_eq_some_iff.mp H
   obtain ⟨vw, Ph, H⟩ := H
   replace H : (bZ.j0 k a1 (!vw) ay aJ aA aH bu bz aK) = some r := H
   have A7 := ae.mk Ph
   clear Ph
   have H' := ae.mk H
   clear H
   go_wp2_with (first | ((with_reducible refine gK (f := 147) rfl ?_); refine jF (some 6) rfl rfl Try.func147 (by kernel_rfl) rfl #[.int .u8 a1] rfl (by (try simp only [List.map_toArray, List.map_cons, List.map_nil]); rfl) ?_; (with_reducible refine (ku.calls a1 true _ A5.out).mono ?_); rintro e w8 ⟨rfl, hb⟩; refine ⟨_, rfl, ?_⟩; replace ji := ae.mk (Kd.kE ji.out hb); replace eU := ae.mk (aY eU.out hb); replace HB := ae.mk (ak (by repeat ((with_reducible exact HB.out))) hb); (try clear hb); have Qr : w8.cell? ⟨kU, 0, none⟩ = some (.int .u8 ay) := (af eU.out 0).trans rfl; have Qs : w8.cell? ⟨kU, 1, none⟩ = some (.int .i64 aJ) := (af eU.out 1).trans rfl; have Qu : w8.cell? ⟨kU, 2, none⟩ = some (.int .i64 aA) := (af eU.out 2).trans rfl; have Qv : w8.cell? ⟨kU, 3, none⟩ = some (.int .i64 aH) := (af eU.out 3).trans rfl; have Qw : w8.cell? ⟨kU, 4, none⟩ = some (.int .i64 bu) := (af eU.out 4).trans rfl; have Qx : w8.cell? ⟨kU, 5, none⟩ = some (.int .i64 bz) := (af eU.out 5).trans rfl; have Qy : w8.cell? ⟨kU, 6, none⟩ = some (.slice dK aK.length dL) := (af eU.out 6).trans rfl; have QK := ah eU.out 0; have QL := ah eU.out 1; have QM := ah eU.out 2; have QN := ah eU.out 3; have QO := ah eU.out 4; have QP := ah eU.out 5; have QQ := ah eU.out 6) | ((with_reducible refine aC (N := 10) rfl ?_); (try (refine fQ (by rfl) ?_; dsimp only)); refine Kd.wR k26 _ 26 ?hg (N' := 10) ?hd (xs := ([(⟨ay, (⟨aJ, aA, aH, bu⟩ : dE), bz, aK⟩ : ai)] : List (ai))) (inner := [.int .u8 ay, .int .i64 aJ, .int .i64 aA, .int .i64 aH, .int .i64 bu, .int .i64 bz, .slice dK aK.length dL]) (ok := (fun k_ => (fJ k_ ∨ w.heap.size ≤ k_) ∧ k_ ≠ kU)) (fH := (fun k_ => (fJ k_ ∨ w.heap.size ≤ k_) ∧ k_ ≠ kU)) ?hr ?hp (fun _ hk => hk) ((show ∀ k_, w8.heap.size ≤ k_ → (fun k_ => (fJ k_ ∨ w.heap.size ≤ k_) ∧ k_ ≠ kU) k_ from fun k_ hk => ⟨(.inr (Nat.le_trans (bP (by repeat ((with_reducible exact HB.out)))) hk)), Kd.xE eU.out k_ hk⟩) _ (Nat.le_refl _)) (Below.refl _ _) (Nat.le_refl _) (by simp) ?_; (case hd => rfl); (case hg => rfl); (case hr => (go_simp; done)); (case hp => exact (bD.c7 (show Kd.FK k26 _ _ (⟨ay, (⟨aJ, aA, aH, bu⟩ : dE), bz, aK⟩ : ai) [.int .u8 ay, .int .i64 aJ, .int .i64 aA, .int .i64 aH, .int .i64 bu, .int .i64 bz, .slice dK aK.length dL] from (pY _ _ (⟨ay, (⟨aJ, aA, aH, bu⟩ : dE), bz, aK⟩ : ai) (Kd.kz (Kd.gG (ok' := (fun k_ => (fJ k_ ∨ w.heap.size ≤ k_) ∧ k_ ≠ kU)) (ji.out) (fun k_ hk => ⟨hk.1, hk.2⟩))).2.1 (Kd.PM (Kd.gG (ok' := (fun k_ => (fJ k_ ∨ w.heap.size ≤ k_) ∧ k_ ≠ kU)) (ji.out) (fun k_ hk => ⟨hk.1, hk.2⟩))))) (bD.none _ _))); intro ajB w10 uo hb kF gQ; clear kF gQ; (rw [← acY.out] at uo); have Eo := ae.mk (Kd.uH uo (bP (by repeat ((with_reducible exact HB.out))))); replace ji := ae.mk (Kd.uK ji.out (Kd.rH uo) hb); replace eU := ae.mk (aY eU.out hb); replace HB := ae.mk (ak (by repeat ((with_reducible exact HB.out))) hb); clear hb uo; obtain ⟨SA, TD, Jz⟩ := Kd.jU Eo.out; subst Jz) | (go_at_call 148; (with_reducible refine (kS.calls _ _ acy vw _ ?lK ?nT A7.out).mono ?_); (case lK => repeat (exact (Kd.jk Eo.out).2.2)); (case nT => exact (Kd.jk Eo.out).2.1); rintro e qP ⟨rfl, hb⟩; replace ji := ae.mk (Kd.kE ji.out hb); replace Eo := ae.mk (Kd.qQ Eo.out hb); replace eU := ae.mk (aY eU.out hb); replace HB := ae.mk (ak (by repeat ((with_reducible exact HB.out))) hb); (try clear hb)))
   go_meet
   case rel => exact ⟨_, (!vw), (by rfl), H', ⟨by omega⟩, ⟨by exact Kd.gG ji.out (fun _ hk => ⟨hk.1.1, hk.1.2⟩)⟩, ⟨by exact eU.out⟩, ⟨by repeat ((with_reducible exact HB.out))⟩⟩
  ·replace c6 := Bool.eq_false_iff.mpr c6
   subst c6
   have H1 : (bZ.j0 k a1 true ay aJ aA aH bu bz aK) = some r := by rw [if_neg (show ¬ (false = true) by decide)] at H; exact H
   clear H
   have H := H1
   clear H1
   have H' := ae.mk H
   clear H
   go_wp2_with (((with_reducible refine gK (f := 147) rfl ?_); refine jF (some 6) rfl rfl Try.func147 (by kernel_rfl) rfl #[.int .u8 a1] rfl (by (try simp only [List.map_toArray, List.map_cons, List.map_nil]); rfl) ?_; (with_reducible refine (ku.calls a1 false _ A5.out).mono ?_); rintro e V3 ⟨rfl, hb⟩; refine ⟨_, rfl, ?_⟩; replace ji := ae.mk (Kd.kE ji.out hb); replace eU := ae.mk (aY eU.out hb); replace HB := ae.mk (ak (by repeat ((with_reducible exact HB.out))) hb); (try clear hb)))
   go_meet
   case rel => exact ⟨_, (true), (by rfl), H', ⟨by omega⟩, ⟨by exact ji.out⟩, ⟨by exact eU.out⟩, ⟨by repeat ((with_reducible exact HB.out))⟩⟩
 case rest =>
  clear IL
  obtain ⟨kq, IA, rfl, HA, HJ2, nG, eU, HB⟩ := hcut
  cases kq with
  | zero => exact absurd HA.out (by simp [bZ.j0])
  | succ JW =>
   have H := HA.out
   clear HA
   simp only [bZ.j0] at H
   by_cases c15 : IA = true
   ·subst c15
    have H1 : (some 0) = some r := by rw [if_pos rfl] at H; exact H
    clear H
    have H := H1
    clear H1
    obtain rfl := Option.some.inj H
    go_wp2
    go_ret
    exact ⟨by rfl, by repeat ((with_reducible exact HB.out))⟩
   ·replace c15 := Bool.eq_false_iff.mpr c15
    subst c15
    have H1 : ((nM.f aJ aA aH bu a1).bind fun Ec => ((kL.f JW ay aJ aA aH bu bz aK a1).bind fun BV => (some (wrap64 (Ec - BV))))) = some r := by rw [if_neg (show ¬ (false = true) by decide)] at H; exact H
    clear H
    have H := H1
    clear H1
    replace H := Option.bind_eq_some_iff.mp H
    obtain ⟨Ec, IE, H⟩ := H
    replace H : ((kL.f JW ay aJ aA aH bu bz aK a1).bind fun BV => (some (wrap64 (Ec - BV)))) = some r := H
    have G7 := ae.mk IE
    clear IE
    replace H := Option.bind_eq_some_iff.mp H
    obtain ⟨BV, Ze, H⟩ := H
    replace H : (some (wrap64 (Ec - BV))) = some r := H
    have La := ae.mk Ze
    clear Ze
    obtain rfl := Option.some.inj H
    try go_wp2
    replace nG := ae.mk (Kd.PN nG.out); replace eU := ae.mk (zL eU.out); replace HB := ae.mk (Dl HB.out)
    refine jA (n := 9) (S := fun w' => w'.cell? ⟨kU, 0, none⟩ = some (.int .u8 ay) ∧ w'.cell? ⟨kU, 1, none⟩ = some (.int .i64 aJ) ∧ w'.cell? ⟨kU, 2, none⟩ = some (.int .i64 aA) ∧ w'.cell? ⟨kU, 3, none⟩ = some (.int .i64 aH) ∧ w'.cell? ⟨kU, 4, none⟩ = some (.int .i64 bu) ∧ w'.cell? ⟨kU, 5, none⟩ = some (.int .i64 bz) ∧ w'.cell? ⟨kU, 6, none⟩ = some (.slice dK aK.length dL)) (ds := []) #[false, false, false, false, false, false, false, false, false] (by kernel_rfl) rfl rfl ⟨(af eU.out 0).trans rfl, (af eU.out 1).trans rfl, (af eU.out 2).trans rfl, (af eU.out 3).trans rfl, (af eU.out 4).trans rfl, (af eU.out 5).trans rfl, (af eU.out 6).trans rfl⟩ (fun hHeld => ?_); refine f_ bZ.BX bZ.yA (fun au eF => ?_)
    generalize wc.drew = w18 at nG eU HB hHeld ⊢
    refine uu (i := 0) (N := some 14) (v := ?_) (a' := ?_) #[true, false, false, false, false, false, false, false, false] rfl rfl (qE au.out (by kernel_rfl)) (fun _ _ _ h => h) (Or.inl ⟨by rfl, ?_⟩) ?_ ?_
    rotate_left
    ·intro w'
     go_simp
     with_reducible rfl
    rotate_left
    ·simp only [Act.put, List.setIfInBounds_toArray, List.set_cons_zero, List.set_cons_succ, lT, lS]
     rfl
    refine uu (i := 2) (N := some 16) (v := ?_) (a' := ?_) #[true, false, true, false, false, false, false, false, false] rfl rfl (qE au.out (by kernel_rfl)) (fun _ _ _ h => h) (Or.inl ⟨by rfl, ?_⟩) ?_ ?_
    rotate_left
    ·intro w'
     go_simp
     with_reducible rfl
    rotate_left
    ·simp only [Act.put, List.setIfInBounds_toArray, List.set_cons_zero, List.set_cons_succ, lT, lS]
     rfl
    refine uu (i := 5) (N := some 19) (v := ?_) (a' := ?_) #[true, false, true, false, false, true, false, false, false] rfl rfl (qE au.out (by kernel_rfl)) (fun _ _ _ h => h) (Or.inl ⟨by rfl, ?_⟩) ?_ ?_
    rotate_left
    ·intro w'
     go_simp
     with_reducible rfl
    rotate_left
    ·simp only [Act.put, List.setIfInBounds_toArray, List.set_cons_zero, List.set_cons_succ, lT, lS]
     rfl
    refine Ah (i := 1) (N := some 15) (v := ?_) (a' := ?_) #[true, true, true, false, false, true, false, false, false] rfl rfl (yf au.out eF.out (by kernel_rfl)) (fun _ _ _ h => h) (Or.inl ⟨by rfl, ?_⟩) hHeld ?_ ?_
    rotate_left
    ·rintro w' ⟨s0, s1, s2, s3, s4, s5, s6⟩
     go_simp
     with_reducible rfl
    rotate_left
    ·simp only [Act.put, List.setIfInBounds_toArray, List.set_cons_zero, List.set_cons_succ, lT, lS]
     rfl
    refine Ah (i := 4) (N := some 18) (v := ?_) (a' := ?_) #[true, true, true, false, true, true, false, false, false] rfl rfl (yf au.out eF.out (by kernel_rfl)) (fun _ _ _ h => h) (Or.inl ⟨by rfl, ?_⟩) hHeld ?_ ?_
    rotate_left
    ·rintro w' ⟨s0, s1, s2, s3, s4, s5, s6⟩
     go_simp
     with_reducible rfl
    rotate_left
    ·simp only [Act.put, List.setIfInBounds_toArray, List.set_cons_zero, List.set_cons_succ, lT, lS]
     rfl
    refine gZ (i := 3) (N := some 17) #[true, true, true, true, true, true, false, false, false] rfl rfl (dG au.out (by kernel_rfl)) (by decide) (fun K hK => ?_)
    refine fM Try.func98 (by kernel_rfl) rfl #[.agg #[.int .i64 aJ, .int .i64 aA, .int .i64 aH, .int .i64 bu], .int .u8 a1] (by rfl) rfl rfl (by (try simp only [List.map_toArray, List.map_cons, List.map_nil]); rfl) ?_
    with_reducible refine (nM.calls aJ aA aH bu a1 Ec _ G7.out).mono ?_
    rintro e Cb ⟨rfl, hb⟩
    refine ⟨_, rfl, ?_⟩
    replace nG := ae.mk (Kd.kE nG.out hb); replace eU := ae.mk (aY eU.out hb); replace HB := ae.mk (ak (by repeat ((with_reducible exact HB.out))) hb)
    (try clear hb)
    (skip)
    (skip)
    (skip)
    refine hK.out _ _ ⟨(af eU.out 0).trans rfl, (af eU.out 1).trans rfl, (af eU.out 2).trans rfl, (af eU.out 3).trans rfl, (af eU.out 4).trans rfl, (af eU.out 5).trans rfl, (af eU.out 6).trans rfl⟩ (fun hHeld => ?_)
    clear hK K
    refine rZ (a' := ?_) ?_ ?_
    rotate_left
    ·show Act.put _ (some 17) _ = _
     simp only [Act.put, List.setIfInBounds_toArray, List.set_cons_zero, List.set_cons_succ, lT, lS]
     rfl
    refine gZ (i := 6) (N := some 20) #[true, true, true, true, true, true, true, false, false] rfl rfl (dG au.out (by kernel_rfl)) (by decide) (fun K hK => ?_)
    refine fM Try.func149 (by kernel_rfl) rfl #[.agg #[.int .u8 ay, .int .i64 aJ, .int .i64 aA, .int .i64 aH, .int .i64 bu, .int .i64 bz, .slice dK aK.length dL], .int .u8 a1] (by rfl) rfl rfl (by (try simp only [List.map_toArray, List.map_cons, List.map_nil]); rfl) ?_
    with_reducible refine (kL.calls JW ay aJ aA aH bu bz _ _ aK a1 BV _ ?lK ?nT La.out).mono ?_
    (case lK => repeat (exact (Kd.kz nG.out).2.2))
    (case nT => exact (Kd.kz nG.out).2.1)
    rintro e w20 ⟨rfl, hb⟩
    refine ⟨_, rfl, ?_⟩
    replace nG := ae.mk (Kd.kE nG.out hb); replace eU := ae.mk (aY eU.out hb); replace HB := ae.mk (ak (by repeat ((with_reducible exact HB.out))) hb)
    (try clear hb)
    (skip)
    (skip)
    (skip)
    refine hK.out _ _ ⟨(af eU.out 0).trans rfl, (af eU.out 1).trans rfl, (af eU.out 2).trans rfl, (af eU.out 3).trans rfl, (af eU.out 4).trans rfl, (af eU.out 5).trans rfl, (af eU.out 6).trans rfl⟩ (fun hHeld => ?_)
    clear hK K
    refine rZ (a' := ?_) ?_ ?_
    rotate_left
    ·show Act.put _ (some 20) _ = _
     simp only [Act.put, List.setIfInBounds_toArray, List.set_cons_zero, List.set_cons_succ, lT, lS]
     rfl
    refine uu (i := 7) (N := some 21) (v := ?_) (a' := ?_) #[true, true, true, true, true, true, true, true, false] rfl rfl (qE au.out (by kernel_rfl)) (fun _ _ _ h => h) (Or.inl ⟨by rfl, ?_⟩) ?_ ?_
    rotate_left
    ·intro w'
     go_simp
     with_reducible rfl
    rotate_left
    ·simp only [Act.put, List.setIfInBounds_toArray, List.set_cons_zero, List.set_cons_succ, lT, lS]
     rfl
    refine uu (i := 8) (N := some 4) (v := ?_) (a' := ?_) #[true, true, true, true, true, true, true, true, true] rfl rfl (qE au.out (by kernel_rfl)) (fun _ _ _ h => h) (Or.inl ⟨by rfl, ?_⟩) ?_ ?_
    rotate_left
    ·intro w'
     go_simp
     with_reducible rfl
    rotate_left
    ·simp only [Act.put, List.setIfInBounds_toArray, List.set_cons_zero, List.set_cons_succ, lT, lS]
     rfl
    refine kG (iK au.out (by kernel_rfl)) ?_
    try go_wp2
    go_ret
    exact ⟨by rfl, by repeat ((with_reducible exact HB.out))⟩
def oP.f (ay : Int) (aJ : Int) (aA : Int) (aH : Int) (a1 : Int) : Option (Int) := if a1 = 1 then (some aA) else (if a1 = 2 then (some aH) else (some 0))
theorem oP.calls (ay : Int) (aJ : Int) (aA : Int) (aH : Int) (a1 : Int) (r : Int) (w : World) (h : oP.f ay aJ aA aH a1 = some r) :
  Calls Try.prog 87 #[.agg #[.int .i64 ay, .int .i64 aJ, .int .i64 aA, .int .i64 aH], .int .u8 a1] w fun e w' => e = .returned (.int .i64 r) ∧ Below w.heap.size w w' := by
 have JQ := Try.underlying23
 have HB := ae.mk (Below.refl w.heap.size w)
 have H : (if a1 = 1 then (some aA) else (if a1 = 2 then (some aH) else (some 0))) = some r := h
 clear h
 by_cases c3 : a1 = 1
 ·rw [if_pos c3] at H
  have nY : (a1 == 1) = true := beq_iff_eq.mpr c3
  have ug : (a1 != 1) = false := bne_eq_false_iff_eq.mpr c3
  clear c3
  obtain rfl := Option.some.inj H
  go_enter Try.func87, Try.ntmps87
  go_wp2_with (((with_reducible refine aC (N := 2) rfl ?_); refine aW ?hg (N := 2) ?hd (cs := #[.int .i64 ay, .int .i64 aJ, .int .i64 aA, .int .i64 aH]) (t := 23) ?hr ?_; (case hd => rfl); (case hg => rfl); (case hr => (go_simp; done)); intro vF hg w4 hbox hb; have mW := ae.mk (hbox); replace HB := ae.mk (ak (by repeat ((with_reducible exact HB.out))) hb); clear hb hbox hg; have aa3 : w4.cell? ⟨vF, 0, none⟩ = some (.int .i64 ay) := (af mW.out 0).trans rfl; have aa4 : w4.cell? ⟨vF, 1, none⟩ = some (.int .i64 aJ) := (af mW.out 1).trans rfl; have aa5 : w4.cell? ⟨vF, 2, none⟩ = some (.int .i64 aA) := (af mW.out 2).trans rfl; have aa6 : w4.cell? ⟨vF, 3, none⟩ = some (.int .i64 aH) := (af mW.out 3).trans rfl; have abl := ah mW.out 0; have abm := ah mW.out 1; have abn := ah mW.out 2; have abo := ah mW.out 3))
  go_ret
  exact ⟨by rfl, by repeat ((with_reducible exact HB.out))⟩
 ·rw [if_neg c3] at H
  have nY : (a1 == 1) = false := beq_eq_false_iff_ne.mpr c3
  have ug : (a1 != 1) = true := bne_iff_ne.mpr c3
  by_cases c6 : a1 = 2
  ·rw [if_pos c6] at H
   have uh : (a1 == 2) = true := beq_iff_eq.mpr c6
   have Tv : (a1 != 2) = false := bne_eq_false_iff_eq.mpr c6
   clear c6
   obtain rfl := Option.some.inj H
   go_enter Try.func87, Try.ntmps87
   go_wp2_with (((with_reducible refine aC (N := 2) rfl ?_); refine aW ?hg (N := 2) ?hd (cs := #[.int .i64 ay, .int .i64 aJ, .int .i64 aA, .int .i64 aH]) (t := 23) ?hr ?_; (case hd => rfl); (case hg => rfl); (case hr => (go_simp; done)); intro vF hg w7 hbox hb; have mW := ae.mk (hbox); replace HB := ae.mk (ak (by repeat ((with_reducible exact HB.out))) hb); clear hb hbox hg; have Qn : w7.cell? ⟨vF, 0, none⟩ = some (.int .i64 ay) := (af mW.out 0).trans rfl; have Qo : w7.cell? ⟨vF, 1, none⟩ = some (.int .i64 aJ) := (af mW.out 1).trans rfl; have Qp : w7.cell? ⟨vF, 2, none⟩ = some (.int .i64 aA) := (af mW.out 2).trans rfl; have Qq : w7.cell? ⟨vF, 3, none⟩ = some (.int .i64 aH) := (af mW.out 3).trans rfl; have QG := ah mW.out 0; have QH := ah mW.out 1; have QI := ah mW.out 2; have QJ := ah mW.out 3))
   go_ret
   exact ⟨by rfl, by repeat ((with_reducible exact HB.out))⟩
  ·rw [if_neg c6] at H
   have uh : (a1 == 2) = false := beq_eq_false_iff_ne.mpr c6
   have Tv : (a1 != 2) = true := bne_iff_ne.mpr c6
   obtain rfl := Option.some.inj H
   go_enter Try.func87, Try.ntmps87
   go_wp2_with (((with_reducible refine aC (N := 2) rfl ?_); refine aW ?hg (N := 2) ?hd (cs := #[.int .i64 ay, .int .i64 aJ, .int .i64 aA, .int .i64 aH]) (t := 23) ?hr ?_; (case hd => rfl); (case hg => rfl); (case hr => (go_simp; done)); intro vF hg w9 hbox hb; have mW := ae.mk (hbox); replace HB := ae.mk (ak (by repeat ((with_reducible exact HB.out))) hb); clear hb hbox hg))
   go_ret
   exact ⟨by rfl, by repeat ((with_reducible exact HB.out))⟩
end Go.Proofs.Ytfdmfgaiblfbhaa.P
namespace Go.Proofs.Ytfdmfgaiblfbhaa.P
open Go.RowKit Go.Proofs.ag.aV Go.Proofs.ag.bM Go.Proofs.ag.di
theorem Ev.unique {α : Type} {g : Nat → Option α} {a b : α} (h : Ev g a) (k : Ev g b) : a = b := by
 obtain ⟨n, hn⟩ := h
 obtain ⟨m, hm⟩ := k
 have e := (hn (max n m) (by omega)).symm.trans (hm (max n m) (by omega))
 exact Option.some.inj e
theorem OV (r : dE) (ax : Int) : oP.f r.f0 r.f1 r.f2 r.f3 ax = some (bC ax r) := by
 unfold oP.f bC
 split
 ·rfl
 ·split <;> rfl
theorem Dx (c : ai) (hz : sz c ≤ 1048576) : kS.f ([(⟨c.f0, (⟨c.f1.f0, c.f1.f1, c.f1.f2, c.f1.f3⟩ : dE), c.f2, c.f3⟩ : ai)] : List ai) = some (fB c) := by
 rw [CS]
 unfold kS.f
 rw [if_pos (by simp [hz])]
 simp
theorem vO {c : ai} (h : lq c = true) : (gU c).all oL = true := by
 unfold lq at h
 simp only [Bool.and_eq_true] at h
 exact h.2.1
theorem qO {c : ai} (h : fB c = true) : lq c = true := by
 unfold fB at h
 simp only [Bool.and_eq_true] at h
 exact h.1
noncomputable def dX (ax : Int) (c : ai) : Int := if (ax = 1 ∨ ax = 2) ∧ fB c = true then wrap64 (bC ax c.f1 - dF ax c) else 0
theorem TV (c : ai) (hz : sz c ≤ 1048576) (ax : Int) : Ev (fun k => bZ.f k c.f0 c.f1.f0 c.f1.f1 c.f1.f2 c.f1.f3 c.f2 c.f3 ax) (dX ax c) := by
 have no : Ev (fun k => bZ.j0 k ax true c.f0 c.f1.f0 c.f1.f1 c.f1.f2 c.f1.f3 c.f2 c.f3) 0 := by
  refine Ev.step (f := fun _ => some 0) (fun k => ?_) (Ev.now _)
  simp only [bZ.j0]
  rw [if_pos trivial]
 unfold dX
 by_cases hax : ax = 1 ∨ ax = 2
 ·have ha : ku.f ax = some true := by
   unfold ku.f
   rcases hax with rfl | rfl <;> rfl
  cases ht : fB c with
  | false =>
   rw [if_neg (by simp)]
   refine Ev.congr (f := fun k => bZ.j0 k ax true c.f0 c.f1.f0 c.f1.f1 c.f1.f2 c.f1.f3 c.f2 c.f3) (fun k => ?_) no
   unfold bZ.f
   rw [ha]
   simp only [Option.bind_some, if_true]
   rw [Dx c hz, ht]
   rfl
  | true =>
   rw [if_pos ⟨hax, rfl⟩]
   refine Ev.congr (f := fun k => bZ.j0 k ax false c.f0 c.f1.f0 c.f1.f1 c.f1.f2 c.f1.f3 c.f2 c.f3) (fun k => ?_) (Ev.step (f := fun k => (kL.f k c.f0 c.f1.f0 c.f1.f1 c.f1.f2 c.f1.f3 c.f2 c.f3 ax).bind fun t => some (wrap64 (bC ax c.f1 - t))) (fun k => ?_) (Ev.bind (Um ax (sz c) c (Nat.le_refl _) hz) (Ev.now _)))
   ·unfold bZ.f
    rw [ha]
    simp only [Option.bind_some, if_true]
    rw [Dx c hz, ht]
    rfl
   ·simp only [bZ.j0]
    rw [if_neg (by simp), H7 c.f1 ax]
    rfl
 ·rw [if_neg (fun h => hax h.1)]
  refine Ev.congr (f := fun k => bZ.j0 k ax true c.f0 c.f1.f0 c.f1.f1 c.f1.f2 c.f1.f3 c.f2 c.f3) (fun k => ?_) no
  unfold bZ.f ku.f
  rw [if_neg (fun h => hax (.inl h)), show (ax == 2) = false from by simp; exact fun h => hax (.inr h)]
  simp only [Option.bind_some, Bool.false_eq_true, if_false]
theorem qg {l : List ai} {k : ai} (h : k ∈ l) : sz k ≤ fV l := by
 obtain ⟨p, q, e⟩ := List.append_of_mem h
 rw [e, oQ, dU]; omega
noncomputable def oZ (b : Int) (gs : List Int) : List Int × Bool := by
 classical
 exact if h : ∃ r, Ev (fun k => aX.f k b gs) r then Classical.choose h else ([], false)
theorem x_ (b : Int) (gs : List Int) (hl : gs.length ≤ 100000) (h0 : -2147483647 ≤ b) (h1 : b ≤ 2147483647) : zG b gs (oZ b gs) ∧ Ev (fun k => aX.f k b gs) (oZ b gs) := by
 obtain ⟨r, hs, he⟩ := H6 b gs hl h0 h1
 have hx : ∃ r, Ev (fun k => aX.f k b gs) r := ⟨r, he⟩
 have e : oZ b gs = r := by
  unfold oZ
  rw [dif_pos hx]
  exact Ev.unique (Classical.choose_spec hx) he
 rw [e]
 exact ⟨hs, he⟩
theorem Na {b : Int} {gs : List Int} (hl : gs.length ≤ 100000) (h0 : -2147483647 ≤ b) (h1 : b ≤ 2147483647) (h : (oZ b gs).2 = true) : (oZ b gs).1.length = gs.length := by
 rcases (x_ b gs hl h0 h1).1 with ⟨e, _⟩ | ⟨e, _⟩ | ⟨qs, e, _, _, hq, _⟩
 ·rw [e] at h; cases h
 ·rw [e]; exact lN _ _
 ·rw [e, ← hq]; simp
theorem RP {b : Int} {gs : List Int} (hl : gs.length ≤ 100000) (h0 : -2147483647 ≤ b) (h1 : b ≤ 2147483647) : ∀ x, x ∈ (oZ b gs).1 → -2147483647 ≤ x ∧ x ≤ 2147483647 := by
 intro x hx
 rcases (x_ b gs hl h0 h1).1 with ⟨e, _⟩ | ⟨e, hne, _, hb⟩ | ⟨qs, e, _, _, hq, hg, _⟩
 ·rw [e] at hx; cases hx
 ·rw [e] at hx
  simp only [moreL, List.mem_map, List.mem_range] at hx
  obtain ⟨i, hi, rfl⟩ := hx
  have hn : (0 : Int) < (gs.length : Int) := by have := List.length_pos_iff.2 hne; omega
  unfold jX
  have hd : 0 ≤ b / (gs.length : Int) := Int.ediv_nonneg hb (by omega)
  have hm : 0 ≤ b % (gs.length : Int) := Int.emod_nonneg _ (by omega)
  have hdm := Int.mul_ediv_add_emod b (gs.length : Int)
  have hle : b / (gs.length : Int) ≤ (gs.length : Int) * (b / (gs.length : Int)) := by
   have := Int.mul_le_mul_of_nonneg_right (show (1 : Int) ≤ (gs.length : Int) by omega) hd
   omega
  split <;> omega
 ·rw [e] at hx
  simp only [List.mem_map] at hx
  obtain ⟨p, hp, rfl⟩ := hx
  have := hg p hp
  omega
def grow (ax bg : Int) (r : dE) : dE := ⟨r.f0, r.f1, if ax = 1 then wrap64 (r.f2 + bg) else r.f2, if ax = 1 then r.f3 else wrap64 (r.f3 + bg)⟩
noncomputable def MO (ax k : Int) (l : List ai) (bg : Int) (i : Nat) : Int := if (oZ bg (l.map (dX ax))).2 = true ∧ jf ax k = true then rd (oZ bg (l.map (dX ax))).1 (i : Int) else bg
mutual
noncomputable def dD (ax : Int) : ai → Int → ai
 | ⟨k, r, id, l⟩, b => ⟨k, grow ax b r, id, jE ax l (MO ax k l b) 0⟩
noncomputable def jE (ax : Int) : List ai → (Nat → Int) → Nat → List ai
 | [], _, _ => []
 | k :: ks, ns, i => dD ax k (ns i) :: jE ax ks ns (i + 1)
end
theorem Fq (ax : Int) (c : ai) (b : Int) : dD ax c b = ⟨c.f0, grow ax b c.f1, c.f2, jE ax c.f3 (MO ax c.f0 c.f3 b) 0⟩ := by cases c; simp [dD]
theorem uP (ax : Int) (ns : Nat → Int) (i : Nat) : jE ax [] ns i = [] := by simp [jE]
theorem yx (ax : Int) (k : ai) (ks : List ai) (ns : Nat → Int) (i : Nat) : jE ax (k :: ks) ns i = dD ax k (ns i) :: jE ax ks ns (i + 1) := by simp [jE]
theorem uO (ax : Int) : ∀ (l : List ai) (ns : Nat → Int) (i : Nat), (jE ax l ns i).length = l.length := by
 intro l
 induction l with
 | nil => intro ns i; rw [uP]
 | cons k ks ih => intro ns i; rw [yx, List.length_cons, List.length_cons, ih]
theorem He (ax : Int) (k : ai) : ∀ (l : List ai) (ns : Nat → Int) (i : Nat), jE ax (l ++ [k]) ns i = jE ax l ns i ++ [dD ax k (ns (i + l.length))] := by
 intro l
 induction l with
 | nil => intro ns i; simp [jE]
 | cons x xs ih => intro ns i; rw [List.cons_append, yx, yx, ih, List.cons_append, List.length_cons, show i + 1 + xs.length = i + (xs.length + 1) by omega]
theorem Wv (ax : Int) (ns : Nat → Int) (pre : List ai) (k : ai) (rest : List ai) : (jE ax pre ns 0 ++ k :: rest).set pre.length (dD ax k (ns pre.length)) = jE ax (pre ++ [k]) ns 0 ++ rest := by
 rw [He, List.append_assoc, List.set_append_right _ _ (by rw [uO]; exact Nat.le_refl _), uO, Nat.sub_self, List.set_cons_zero, Nat.zero_add]
 rfl
theorem ZT (ax : Int) (ns : Nat → Int) (pre : List ai) (k : ai) (rest : List ai) : aI (jE ax pre ns 0 ++ k :: rest) (pre.length : Int) = k := by
 have := iZ (jE ax pre ns 0) k rest
 rw [uO] at this
 exact this
theorem Jh (ax : Int) : ∀ (N : Nat), (∀ c : ai, sz c ≤ N → ∀ b, sz (dD ax c b) = sz c) ∧ (∀ l : List ai, fV l ≤ N → ∀ ns i, fV (jE ax l ns i) = fV l) := by
 intro N
 induction N with
 | zero => exact ⟨fun c h => by rw [dR] at h; omega, fun l h ns i => by cases l with
  | nil => rw [uP]
  | cons x xs => rw [dU] at h; have := dR x; omega⟩
 | succ N ih =>
  have hC : ∀ c : ai, sz c ≤ N + 1 → ∀ b, sz (dD ax c b) = sz c := fun c h b => by
   rw [Fq, dR, dR c]
   show 1 + fV (jE ax c.f3 _ 0) = _
   rw [ih.2 c.f3 (by rw [dR] at h; omega)]
  refine ⟨hC, fun l => ?_⟩
  induction l with
  | nil => intro _ ns i; rw [uP]
  | cons x xs ihl =>
   intro h ns i
   rw [yx, dU, dU]
   rw [dU] at h
   rw [hC x (by omega), ihl (by omega)]
def qF.f (l0 : List (ai)) : Option (List ai) := if l0.length ≤ 1000000 then some l0 else none
theorem qF.calls (PH : Nat → Prop) (A0 : Option Addr) (c0 : Nat) (l0 : List (ai)) (r : List ai) (w : World) (hs0 : Kd.V k26 26 w w.heap.size (fun k_ => PH k_) (.slice A0 l0.length c0) l0) (h : qF.f l0 = some r) :
  Calls Try.prog 137 #[.slice A0 l0.length c0] w fun e w' => ∃ nU : Value, e = .returned (nU) ∧ Kd.N k26 26 w' w.heap.size (fun k_ => (PH k_ ∨ w.heap.size ≤ k_)) nU r ∧ Below w.heap.size w w' := by
 unfold qF.f at h
 split at h
 ·rename_i hl
  injection h with h
  subst h
  have HR := ae.mk (Kd.PM hs0)
  have HL := ae.mk hl
  clear hl
  cases A0 with
  | none =>
   have heq : ∀ W : World, (binOp .eql 24 (.slice none l0.length c0) (.slice none 0 0)).run Try.prog W = .ok (.bool true) W := fun W => Lib.run_eql_slice_nil W 24 26 none l0.length c0 0 0 Try.underlying24
   have e0 : l0 = [] := by
    cases l0 with
    | nil => rfl
    | cons x xs =>
     obtain ⟨ad, h1, _⟩ := (Kd.Eg HR.out).2.2 (by simp)
     cases h1
   have E0 := ae.mk e0
   clear hs0 e0
   go_enter Try.func137, Try.ntmps137
   go_wp2
   go_ret
   exact ⟨_, rfl, by rw [E0.out]; exact Kd.qm _ _ _ _ _, Below.refl _ _⟩
  | some ad =>
   have heq : ∀ W : World, (binOp .eql 24 (.slice (some ad) l0.length c0) (.slice none 0 0)).run Try.prog W = .ok (.bool false) W := fun W => Lib.run_eql_slice_nil W 24 26 (some ad) l0.length c0 0 0 Try.underlying24
   clear hs0
   go_enter Try.func137, Try.ntmps137
   go_wp2_with (first | ((with_reducible refine aC (N := 5) rfl ?_); refine Kd.wR k26 w.heap.size 26 ?hg (N' := 5) ?hd (xs := ([] : List ai)) (inner := []) (ok := fun k_ => (PH k_ ∨ w.heap.size ≤ k_)) (fH := fun _ => False) ?hr ?hp (fun _ hk => hk.elim) (.inr (Nat.le_refl _)) (Below.refl _ _) (Nat.le_refl _) (by simp) ?_; (case hd => rfl); (case hg => rfl); (case hr => first | (go_simp; done) | (go_simp; rfl)); (case hp => exact bD.none _ _); intro v5 w5 ho hb kF gQ; clear kF; have HO := ae.mk ho; have HB := ae.mk hb; have HF := ae.mk (Kd.pM (Kd.IK (v := v5) HR.out (fun k hk => by obtain ⟨b, h1, h2⟩ := gQ; rw [h1] at hk; cases hk; exact h2) hb) (fun k hk => hk)); clear ho hb gQ; obtain ⟨Ao, co, eo⟩ := Kd.jU HO.out; subst eo) | ((with_reducible refine oI (b := .append) (xs := #[.tmp 5, .tmp 6]) rfl ?_); at_builtin; refine Kd.Aj k26 (w0 := w) w.heap.size rfl (.tmp 5) (.tmp 6) 24 26 (.agg #[(.int .u8 0), (.int .i64 0), (.int .i64 0), (.int .i64 0), (.int .i64 0), (.int .i64 0), (.slice none 0 0)]) 72 rfl Try.underlying24 info26 rfl (by decide) (by omega) (.slice Ao ([] : List ai).length co) [] l0 _ _ _ (fun k_ => (PH k_ ∨ w.heap.size ≤ k_)) (fun k_ => PH k_ ∧ some k_ ≠ (Value.slice Ao ([] : List ai).length co).ownBlock) rfl rfl ?aO ?aR (fun _ h => ⟨.inl h.1, h.2⟩) (fun k hk => .inr (Nat.le_trans (bP HB.out) hk)) ?aB ?aS ?aL ?_; (case aO => exact HO.out); (case aR => exact HF.out); (case aB => exact HB.out); (case aS => exact bP HB.out); (case aL => (have := HL.out; simp only [List.length_nil]; omega)); intro v7 w7 h1 h2 h3_ h4_; clear h3_ h4_; have Zz := ae.mk h1; have Zn := ae.mk h2; clear h1 h2 HO HB HF))
   go_wp2
   go_ret
   exact ⟨_, rfl, Zz.out, Zn.out⟩
 ·exact absurd h (by simp)
def xY (a : Int) (k : ai) (x : Int) : Int := if a = 2 then wrap64 (x + wrap64 (k.f1.f2 + 1)) else x
def xZ (a : Int) (k : ai) (y : Int) : Int := if a = 2 then y else if a = 3 then wrap64 (y + wrap64 (k.f1.f3 + 1)) else y
mutual
def aQ : ai → Int → Int → ai
 | ⟨a, b, d, l⟩, x, y => ⟨a, ⟨x, y, b.f2, b.f3⟩, d, lC a l x y⟩
def lC : Int → List ai → Int → Int → List ai
 | _, [], _, _ => []
 | a, k :: ks, x, y => aQ k x y :: lC a ks (xY a k x) (xZ a k y)
end
theorem xm (c : ai) (x y : Int) : aQ c x y = ⟨c.f0, ⟨x, y, c.f1.f2, c.f1.f3⟩, c.f2, lC c.f0 c.f3 x y⟩ := by cases c; simp [aQ]
theorem sD (a x y : Int) : lC a [] x y = [] := by simp [lC]
theorem vW (a : Int) (k : ai) (ks : List ai) (x y : Int) : lC a (k :: ks) x y = aQ k x y :: lC a ks (xY a k x) (xZ a k y) := by simp [lC]
def mg (a : Int) (l : List ai) (x : Int) : Int := l.foldl (fun x k => xY a k x) x
def mi (a : Int) (l : List ai) (y : Int) : Int := l.foldl (fun y k => xZ a k y) y
theorem yK (a : Int) (k : ai) : ∀ (l : List ai) (x y : Int), lC a (l ++ [k]) x y = lC a l x y ++ [aQ k (mg a l x) (mi a l y)] := by
 intro l
 induction l with
 | nil => intro x y; rw [List.nil_append, vW, sD, sD]; rfl
 | cons z zs ih => intro x y; rw [List.cons_append, vW, vW, ih]; rfl
theorem qZ (a : Int) (k : ai) (l : List ai) (x : Int) : mg a (l ++ [k]) x = xY a k (mg a l x) := by simp [mg]
theorem rf (a : Int) (k : ai) (l : List ai) (y : Int) : mi a (l ++ [k]) y = xZ a k (mi a l y) := by simp [mi]
theorem pJ (a : Int) : ∀ (l : List ai) (x y : Int), (lC a l x y).length = l.length := by
 intro l
 induction l with
 | nil => intro x y; rw [sD]
 | cons z zs ih => intro x y; rw [vW]; simp [ih]
theorem YK (a : Int) (pre : List ai) (k : ai) (rest : List ai) (x y : Int) : (lC a pre x y ++ k :: rest).set pre.length (aQ k (mg a pre x) (mi a pre y)) = lC a (pre ++ [k]) x y ++ rest := by
 rw [yK, ← pJ a pre x y, List.set_append_right _ _ (Nat.le_refl _), Nat.sub_self, List.set_cons_zero]
 simp
theorem RN (a : Int) (pre : List ai) (k : ai) (rest : List ai) (x y : Int) : aI (lC a pre x y ++ k :: rest) (pre.length : Int) = k := by
 rw [← pJ a pre x y]
 simp [aI, List.getD_eq_getElem?_getD]
def l9.T6 : Bool × List (List Nat × List Nat) := (true, [([], []), ([0], [0]), ([], []), ([], []), ([], []), ([], []), ([3, 4, 5], [3, 4, 5]), ([1, 2, 0, 1, 2, 3, 4, 5, 6], [1, 2]), ([7, 6, 6, 0, 1, 2, 3, 4, 5, 6], [6, 7])])
def l9.B6 : List Nat := [0, 1, 0, 0, 0, 0, 56, 127, 255]
theorem l9.tab6 : iP .any (opsOf Try.f66 6) = l9.T6 := by kernel_rfl
theorem l9.CJ : iL l9.T6.2 l9.B6 = true := by kernel_rfl
def ajf (c : ai) (v : Value) : Array Value := #[.int .u8 c.f0, .int .i64 c.f1.f0, .int .i64 c.f1.f1, .int .i64 c.f1.f2, .int .i64 c.f1.f3, .int .i64 c.f2, v]
theorem ad1 : ∀ (N : Nat) (c : ai), sz c ≤ N → N ≤ 1000000 → ∀ (P : Nat → Prop) (A : Option Addr) (cc : Nat) (x y : Int) (w : World), Kd.V k26 26 w w.heap.size P (.slice A c.f3.length cc) c.f3 →
  Calls Try.prog 66 #[.agg #[.int .u8 c.f0, .int .i64 c.f1.f0, .int .i64 c.f1.f1, .int .i64 c.f1.f2, .int .i64 c.f1.f3, .int .i64 c.f2, .slice A c.f3.length cc], .int .i64 x, .int .i64 y] w
   fun e w' => ∃ v : Value, e = .returned (.agg #[.int .u8 c.f0, .int .i64 x, .int .i64 y, .int .i64 c.f1.f2, .int .i64 c.f1.f3, .int .i64 c.f2, v]) ∧ Kd.N k26 26 w' w.heap.size (fun k => P k ∨ w.heap.size ≤ k) v (lC c.f0 c.f3 x y) ∧ Below w.heap.size w w' := by
 intro N
 induction N with
 | zero => intro c h; rw [dR] at h; omega
 | succ N ih =>
  intro c hc hN P A cc x y w hs
  have hsz := dR c
  have hlen := jJ c.f3
  have IH := ae.mk fun (k : ai) (hk : k ∈ c.f3) => ih k (by
   have : sz k ≤ fV c.f3 := by
    obtain ⟨p, q, e⟩ := List.append_of_mem hk
    rw [e, oQ, dU]; omega
   omega) (by omega)
  have Zl := ae.mk fun (W : World) (P' : Nat → Prop) (hV : Kd.V k26 26 W w.heap.size P' (.slice A c.f3.length cc) c.f3) => qF.calls P' A cc c.f3 c.f3 W hV (if_pos (by omega))
  have HO := ae.mk hs
  have HL := ae.mk (show c.f3.length ≤ 1000000 by omega)
  have HB := ae.mk (Below.refl w.heap.size w)
  clear ih hs hc hN hsz hlen
  obtain ⟨ck, ⟨cx, cy, cw, ch⟩, aj, l⟩ := c
  simp only [] at HO HL IH Zl ⊢
  go_enter Try.func66, Try.ntmps66
  go_upto_region 2 with (first | ((with_reducible refine aC (N := 3) rfl ?_); refine aW ?hg (N := 3) ?hd (cs := #[.int .u8 ck, .int .i64 cx, .int .i64 cy, .int .i64 cw, .int .i64 ch, .int .i64 aj, .slice A l.length cc]) (t := 26) ?hr ?_; (case hd => rfl); (case hg => rfl); (case hr => (go_simp; done)); intro b3 hg V6 hbox hb; have Zk := ae.mk (show w.heap.size ≤ b3 by rw [hg]; exact HB.out.size); have uw := ae.mk (ak HB.out hb); have xU := ae.mk (Kd.kE (Kd.qC HO.out b3 (by rw [hg]; exact Nat.le_refl _)) hb); clear HB HO; have HB := uw; have HO := xU; clear uw xU; have fD := ae.mk hbox; clear hb hbox hg) | ((with_reducible refine aC (N := 6) rfl ?_); refine aW ?hg (N := 6) ?hd (cs := #[.int .u8 0, .int .i64 0, .int .i64 0, .int .i64 0, .int .i64 0, .int .i64 0, .slice none 0 0]) (t := 26) ?hr ?_; (case hd => rfl); (case hg => rfl); (case hr => (go_simp; done)); intro b6 hg wb6 hbox hb; have Gb6 := ae.mk (show w.heap.size ≤ b6 by rw [hg]; exact HB.out.size); have zF := ae.mk (show b3 ≠ b6 by rw [hg]; exact Nat.ne_of_lt (iy fD.out)); have uw := ae.mk (ak HB.out hb); have xU := ae.mk (Kd.kE (Kd.qC HO.out b6 (by rw [hg]; exact Nat.le_refl _)) hb); have nO := ae.mk (aY fD.out hb); clear HB HO fD; have HB := uw; have HO := xU; have fD := nO; clear uw xU nO; have kV := ae.mk hbox; clear hb hbox hg) | ((with_reducible refine nK (.store 3 (.tmp 12) (.tmp 9)) rfl ?_); go_loud (refine jg (w0 := w) rfl rfl 3 (.tmp 12) (.tmp 9) rfl (g := b3) (j := 1) (base := w.heap.size) #[.int .u8 ck, .int .i64 x, .int .i64 cy, .int .i64 cw, .int .i64 ch, .int .i64 aj, .slice A l.length cc] (u := .int .i64 x) (bI := [.int .i64 x]) ?sA ?sX rfl ?sT ?s1 fD.out ?sJ rfl HB.out HB.out.size Zk.out ?_; (case sA => rfl); (case sX => rfl); (case sT => rfl); (case s1 => (simp [Value.oneCell'])); (case sJ => (simp)); intro ws1 hbk hbb hgg; have xU := ae.mk (Kd.uM HO.out hgg (fun k_ hk e_ => absurd (Option.some.inj e_) hk.1.2)); have lV := ae.mk (dM kV.out hgg (fun e_ => absurd (Option.some.inj e_) (by exact (fun P8 => zF.out P8.symm)))); clear HO kV; have HO := xU; have kV := lV; clear xU lV; clear fD HB; have fD := ae.mk hbk; have HB := ae.mk hbb; clear hbk hbb hgg)) | ((with_reducible refine nK (.store 3 (.tmp 14) (.tmp 10)) rfl ?_); go_loud (refine jg (w0 := w) rfl rfl 3 (.tmp 14) (.tmp 10) rfl (g := b3) (j := 2) (base := w.heap.size) #[.int .u8 ck, .int .i64 x, .int .i64 y, .int .i64 cw, .int .i64 ch, .int .i64 aj, .slice A l.length cc] (u := .int .i64 y) (bI := [.int .i64 y]) ?sA ?sX rfl ?sT ?s1 fD.out ?sJ rfl HB.out HB.out.size Zk.out ?_; (case sA => rfl); (case sX => rfl); (case sT => rfl); (case s1 => (simp [Value.oneCell'])); (case sJ => (simp)); intro ws2 hbk hbb hgg; have xU := ae.mk (Kd.uM HO.out hgg (fun k_ hk e_ => absurd (Option.some.inj e_) hk.1.2)); have lV := ae.mk (dM kV.out hgg (fun e_ => absurd (Option.some.inj e_) (by exact (fun P8 => zF.out P8.symm)))); clear HO kV; have HO := xU; have kV := lV; clear xU lV; clear fD HB; have fD := ae.mk hbk; have HB := ae.mk hbb; clear hbk hbb hgg)))
  have VG : _ = some (Value.slice A l.length cc) := (af fD.out 6).trans rfl
  go_upto_region 3 with (first | ((with_reducible refine gK (f := 137) rfl ?_); refine jF (some 17) rfl rfl Try.func137 (by kernel_rfl) rfl #[.slice A l.length cc] rfl (by (try simp only [List.map_toArray, List.map_cons, List.map_nil]); rfl) ?_; refine (Zl.out _ _ HO.out).mono ?_; rintro e wc1 ⟨v1, rfl, ho, hb⟩; refine ⟨_, rfl, ?_⟩; have HN := ae.mk (SS ho (iy fD.out) (iy kV.out) HB.out.size); clear ho HO; obtain ⟨A1, c1, e1⟩ := Kd.jU HN.out; subst e1; have uw := ae.mk (ak HB.out hb); have nO := ae.mk (aY fD.out hb); have lV := ae.mk (aY kV.out hb); clear HB fD kV; have HB := uw; have fD := nO; have kV := lV; clear uw nO lV; clear hb) | ((with_reducible refine nK (.store 24 (.tmp 18) (.tmp 17)) rfl ?_); go_loud (refine jg (w0 := w) rfl rfl 24 (.tmp 18) (.tmp 17) rfl (g := b3) (j := 6) (base := w.heap.size) #[.int .u8 ck, .int .i64 x, .int .i64 y, .int .i64 cw, .int .i64 ch, .int .i64 aj, .slice A1 l.length c1] (u := .slice A1 l.length c1) (bI := [.slice A1 l.length c1]) ?sA ?sX rfl ?sT ?s1 fD.out ?sJ rfl HB.out HB.out.size Zk.out ?_; (case sA => rfl); (case sX => rfl); (case sT => rfl); (case s1 => (simp [Value.oneCell'])); (case sJ => (simp)); intro ws3 hbk hbb hgg; have lV := ae.mk (dM kV.out hgg (fun e_ => absurd (Option.some.inj e_) (by exact (fun P8 => zF.out P8.symm)))); have uy := ae.mk (Kd.zf HN.out hgg (fun k_ hk e_ => absurd (Option.some.inj e_) hk.1.2)); clear kV HN; have kV := lV; have HN := uy; clear lV uy; clear fD HB; have fD := ae.mk hbk; have HB := ae.mk hbb; clear hbk hbb hgg)))
  clear VG
  have VG : _ = some (Value.slice A1 l.length c1) := (af fD.out 6).trans rfl
  go_wp2
  clear VG
  go_loopg [1, 2, 22] l.length (fun gg v1 v2 v22 wr => ∃ (pre rest : List ai), v1 = .int .i64 (mg ck pre x) ∧ v2 = .int .i64 (mi ck pre y) ∧ v22 = .int .i64 (pre.length : Int) ∧ ae (pre ++ rest = l) ∧ rest.length ≤ gg ∧ ae (Kd.N k26 26 wr w.heap.size (fun q => ((P q ∨ w.heap.size ≤ q) ∧ q ≠ b3) ∧ q ≠ b6) (.slice A1 l.length c1) (lC ck pre x y ++ rest)) ∧ ae (wr.heap[b3]? = some (.cells #[.int .u8 ck, .int .i64 x, .int .i64 y, .int .i64 cw, .int .i64 ch, .int .i64 aj, .slice A1 l.length c1] 26 (0, 0))) ∧ ae (wr.heap[b6]? = some (.cells #[.int .u8 0, .int .i64 0, .int .i64 0, .int .i64 0, .int .i64 0, .int .i64 0, .slice none 0 0] 26 (0, 0))) ∧ ae (Below w.heap.size w wr))
  case atStart => exact ⟨[], l, rfl, rfl, rfl, ⟨rfl⟩, Nat.le_refl _, ⟨by rw [sD]; exact HN.out⟩, fD, kV, HB⟩
  case round =>
   clear HN fD kV HB
   obtain ⟨pre, rest, rfl, rfl, rfl, HE, hgg, HN, fD, kV, HB⟩ := hrel
   cases rest with
   | nil =>
    have hpl : pre = l := by have := HE.out; rwa [List.append_nil] at this
    have hlt : ¬ ((pre.length : Int) < (l.length : Int)) := by rw [hpl]; omega
    have HP := ae.mk hpl
    clear hpl hgg
    have c30 := (af fD.out 0).trans rfl
    have c31 := (af fD.out 1).trans rfl
    have c32 := (af fD.out 2).trans rfl
    have c33 := (af fD.out 3).trans rfl
    have c34 := (af fD.out 4).trans rfl
    have c35 := (af fD.out 5).trans rfl
    have VG := (af fD.out 6).trans rfl
    go_wp2_with (((with_reducible refine nK (.store 26 (.tmp 6) (.tmp 54)) rfl ?_); go_loud (refine jg (w0 := w) rfl rfl 26 (.tmp 6) (.tmp 54) rfl (g := b6) (j := 0) (base := w.heap.size) #[.int .u8 ck, .int .i64 x, .int .i64 y, .int .i64 cw, .int .i64 ch, .int .i64 aj, .slice A1 l.length c1] (u := .agg #[.int .u8 ck, .int .i64 x, .int .i64 y, .int .i64 cw, .int .i64 ch, .int .i64 aj, .slice A1 l.length c1]) (bI := [.int .u8 ck, .int .i64 x, .int .i64 y, .int .i64 cw, .int .i64 ch, .int .i64 aj, .slice A1 l.length c1]) ?sA ?sX rfl ?sT ?s1 kV.out ?sJ rfl HB.out HB.out.size Gb6.out ?_; (case sA => rfl); (case sX => rfl); (case sT => rfl); (case s1 => (simp [Value.oneCell'])); (case sJ => (simp)); intro ajN hbk hbb hgg; have uy := ae.mk (Kd.zf HN.out hgg (fun k_ hk e_ => absurd (Option.some.inj e_) hk.2)); have nO := ae.mk (dM fD.out hgg (fun e_ => absurd (Option.some.inj e_) zF.out)); clear HN fD; have HN := uy; have fD := nO; clear uy nO; clear kV HB; have kV := ae.mk hbk; have HB := ae.mk hbb; clear hbk hbb hgg)))
    refine bodyPost_ret (results_cell_row rfl _ _ b6 26 #[.int .u8 ck, .int .i64 x, .int .i64 y, .int .i64 cw, .int .i64 ch, .int .i64 aj, .slice A1 l.length c1] (0, 0) _ rfl kV.out Try.underlying26 rfl (by kernel_rfl)) rfl ?_
    refine ⟨_, rfl, ?_, HB.out⟩
    rw [← HP.out]
    have hf := HN.out
    rw [List.append_nil] at hf
    rw [HP.out] at hf ⊢
    exact Kd.iT hf (fun q hq => hq.1.1)
   | cons k rest =>
    have hk : k ∈ l := by rw [← HE.out]; simp
    have hlt : (pre.length : Int) < (l.length : Int) := by rw [← HE.out, List.length_append, List.length_cons]; omega
    have hw : wrap64 ((pre.length : Int) + 1) = ((pre ++ [k]).length : Int) := by rw [List.length_append, List.length_singleton]; unfold wrap64; have := HL.out; omega
    obtain ⟨g, cap, he, hgb, afe, _⟩ := Kd.AU HN.out (by rw [List.length_append, List.length_cons]; omega)
    injection he with ea en ec
    subst ea
    subst ec
    clear en
    have HGB := ae.mk hgb
    obtain ⟨ce, hcl, hM, hcc, hfr⟩ := Kd.y9 HN.out z26 (pre.length : Int) (Int.natCast_nonneg _) hlt
    have hrd : (lC ck pre x y ++ k :: rest).getD (pre.length : Int).toNat z26 = k := RN ck pre k rest x y
    rw [hrd] at hM
    obtain ⟨ua, uc, rfl, ul, ge⟩ := oV hM
    have HV := ae.mk (show Kd.V k26 26 wr w.heap.size _ (.slice ua k.f3.length uc) k.f3 from Kd.uN ul ge)
    have x0 : wr.cell? ⟨g, pre.length * 7, none⟩ = some (.int .u8 k.f0) := hcc 0 _ rfl
    have x1 : wr.cell? ⟨g, pre.length * 7 + 1, none⟩ = some (.int .i64 k.f1.f0) := hcc 1 _ rfl
    have x2 : wr.cell? ⟨g, pre.length * 7 + 2, none⟩ = some (.int .i64 k.f1.f1) := hcc 2 _ rfl
    have x3 : wr.cell? ⟨g, pre.length * 7 + 3, none⟩ = some (.int .i64 k.f1.f2) := hcc 3 _ rfl
    have x4 : wr.cell? ⟨g, pre.length * 7 + 4, none⟩ = some (.int .i64 k.f1.f3) := hcc 4 _ rfl
    have x5 : wr.cell? ⟨g, pre.length * 7 + 5, none⟩ = some (.int .i64 k.f2) := hcc 5 _ rfl
    have x6 : wr.cell? ⟨g, pre.length * 7 + 6, none⟩ = some (.slice ua k.f3.length uc) := hcc 6 _ rfl
    have HW1 := ae.mk hw
    have HK := ae.mk hk
    have jd := ae.mk hgg
    clear hcl hM hcc hfr hrd ul ge hgb afe hw hk hgg
    go_upto_region 6 with (first | ((with_reducible refine aC (N := 8) rfl ?_); refine aW ?hg (N := 8) ?hd (cs := #[.int .u8 0, .int .i64 0, .int .i64 0, .int .i64 0, .int .i64 0, .int .i64 0, .slice none 0 0]) (t := 26) ?hr ?_; (case hd => rfl); (case hg => rfl); (case hr => (go_simp; done)); intro b8 hg wb8 hbox hb; have Gb8 := ae.mk (show w.heap.size ≤ b8 by rw [hg]; exact HB.out.size); have SN := ae.mk (show b3 ≠ b8 by rw [hg]; exact Nat.ne_of_lt (iy fD.out)); have SQ := ae.mk (show b6 ≠ b8 by rw [hg]; exact Nat.ne_of_lt (iy kV.out)); have uw := ae.mk (ak HB.out hb); have uy := ae.mk (Kd.qQ (Kd.DI HN.out b8 (by rw [hg]; exact Nat.le_refl _)) hb); have BL := ae.mk (Kd.kE (Kd.qC HV.out b8 (by rw [hg]; exact Nat.le_refl _)) hb); have nO := ae.mk (aY fD.out hb); have lV := ae.mk (aY kV.out hb); clear HB HN HV fD kV; have HB := uw; have HN := uy; have HV := BL; have fD := nO; have kV := lV; clear uw uy BL nO lV; have Kb8 := ae.mk hbox; clear hb hbox hg) | ((with_reducible refine nK (.store 26 (.tmp 8) (.tmp 26)) rfl ?_); go_loud (refine jg (w0 := w) rfl rfl 26 (.tmp 8) (.tmp 26) rfl (g := b8) (j := 0) (base := w.heap.size) #[.int .u8 k.f0, .int .i64 k.f1.f0, .int .i64 k.f1.f1, .int .i64 k.f1.f2, .int .i64 k.f1.f3, .int .i64 k.f2, .slice ua k.f3.length uc] (u := .agg #[.int .u8 k.f0, .int .i64 k.f1.f0, .int .i64 k.f1.f1, .int .i64 k.f1.f2, .int .i64 k.f1.f3, .int .i64 k.f2, .slice ua k.f3.length uc]) (bI := [.int .u8 k.f0, .int .i64 k.f1.f0, .int .i64 k.f1.f1, .int .i64 k.f1.f2, .int .i64 k.f1.f3, .int .i64 k.f2, .slice ua k.f3.length uc]) ?sA ?sX rfl ?sT ?s1 Kb8.out ?sJ rfl HB.out HB.out.size Gb8.out ?_; (case sA => rfl); (case sX => rfl); (case sT => rfl); (case s1 => (simp [Value.oneCell'])); (case sJ => (simp)); intro afy hbk hbb hgg; have uy := ae.mk (Kd.zf HN.out hgg (fun k_ hk e_ => absurd (Option.some.inj e_) hk.2)); have BL := ae.mk (Kd.uM HV.out hgg (fun k_ hk e_ => absurd (Option.some.inj e_) hk.2)); have nO := ae.mk (dM fD.out hgg (fun e_ => absurd (Option.some.inj e_) SN.out)); have lV := ae.mk (dM kV.out hgg (fun e_ => absurd (Option.some.inj e_) SQ.out)); clear HN HV fD kV; have HN := uy; have HV := BL; have fD := nO; have kV := lV; clear uy BL nO lV; clear Kb8 HB; have Kb8 := ae.mk hbk; have HB := ae.mk hbb; clear hbk hbb hgg)))
    clear x0 x1 x2 x3 x4 x5 x6
    have q_ := ae.mk (Dl HB.out)
    clear HB
    have HB := q_
    clear q_
    have q_ := ae.mk (Kd.ZJ HN.out)
    clear HN
    have HN := q_
    clear q_
    have q_ := ae.mk (Kd.PN HV.out)
    clear HV
    have HV := q_
    clear q_
    have q_ := ae.mk (zL fD.out)
    clear fD
    have fD := q_
    clear q_
    have q_ := ae.mk (zL kV.out)
    clear kV
    have kV := q_
    clear q_
    have q_ := ae.mk (zL Kb8.out)
    clear Kb8
    have Kb8 := q_
    clear q_
    refine jA (n := 9) (S := fun w' => w'.heap[b3]? = some (.cells #[.int .u8 ck, .int .i64 x, .int .i64 y, .int .i64 cw, .int .i64 ch, .int .i64 aj, .slice (some ⟨g, 0, none⟩) l.length c1] 26 (0, 0)) ∧ w'.heap[b8]? = some (.cells #[.int .u8 k.f0, .int .i64 k.f1.f0, .int .i64 k.f1.f1, .int .i64 k.f1.f2, .int .i64 k.f1.f3, .int .i64 k.f2, .slice ua k.f3.length uc] 26 (0, 0))) (ds := [8]) #[false, false, false, false, false, false, false, false, false] (by kernel_rfl) rfl rfl ⟨fD.out, Kb8.out⟩ (fun hHeld => ?_); refine f_ l9.tab6 l9.CJ (fun au eF => ?_)
    generalize afy.drew = wd at HB HN HV fD kV Kb8 hHeld ⊢
    refine uu (i := 0) (N := some 27) (v := ?_) (a' := ?_) #[true, false, false, false, false, false, false, false, false] rfl rfl (qE au.out (by kernel_rfl)) (fun _ _ _ h => h) (Or.inl ⟨by rfl, ?_⟩) ?_ ?_
    rotate_left
    ·intro w'; go_simp; with_reducible rfl
    rotate_left
    ·simp only [Act.put, List.setIfInBounds_toArray, List.set_cons_zero, List.set_cons_succ, lT, lS]
     rfl
    refine uu (i := 2) (N := some 29) (v := ?_) (a' := ?_) #[true, false, true, false, false, false, false, false, false] rfl rfl (qE au.out (by kernel_rfl)) (fun _ _ _ h => h) (Or.inl ⟨by rfl, ?_⟩) ?_ ?_
    rotate_left
    ·intro w'; go_simp; with_reducible rfl
    rotate_left
    ·simp only [Act.put, List.setIfInBounds_toArray, List.set_cons_zero, List.set_cons_succ, lT, lS]
     rfl
    refine uu (i := 4) (N := some 31) (v := ?_) (a' := ?_) #[true, false, true, false, true, false, false, false, false] rfl rfl (qE au.out (by kernel_rfl)) (fun _ _ _ h => h) (Or.inl ⟨by rfl, ?_⟩) ?_ ?_
    rotate_left
    ·intro w'; go_simp; with_reducible rfl
    rotate_left
    ·simp only [Act.put, List.setIfInBounds_toArray, List.set_cons_zero, List.set_cons_succ, lT, lS]
     rfl
    refine uu (i := 5) (N := some 32) (v := ?_) (a' := ?_) #[true, false, true, false, true, true, false, false, false] rfl rfl (qE au.out (by kernel_rfl)) (fun _ _ _ h => h) (Or.inl ⟨by rfl, ?_⟩) ?_ ?_
    rotate_left
    ·intro w'; go_simp; with_reducible rfl
    rotate_left
    ·simp only [Act.put, List.setIfInBounds_toArray, List.set_cons_zero, List.set_cons_succ, lT, lS]
     rfl
    refine Ah (i := 1) (N := some 28) (v := ?_) (a' := ?_) #[true, true, true, false, true, true, false, false, false] rfl rfl (yf au.out eF.out (by kernel_rfl)) (fun _ _ _ h => h) (Or.inl ⟨by rfl, ?_⟩) hHeld ?_ ?_
    rotate_left
    ·intro w' hs_
     have c := (af hs_.1 6).trans rfl
     go_simp; with_reducible rfl
    rotate_left
    ·simp only [Act.put, List.setIfInBounds_toArray, List.set_cons_zero, List.set_cons_succ, lT, lS]
     rfl
    refine Ah (i := 3) (N := some 30) (v := ?_) (a' := ?_) #[true, true, true, true, true, true, false, false, false] rfl rfl (yf au.out eF.out (by kernel_rfl)) (fun _ _ _ h => h) (Or.inl ⟨by rfl, ?_⟩) hHeld ?_ ?_
    rotate_left
    ·intro w' hs_
     have c0 := (af hs_.2 0).trans rfl
     have c1 := (af hs_.2 1).trans rfl
     have c2 := (af hs_.2 2).trans rfl
     have c3 := (af hs_.2 3).trans rfl
     have c4 := (af hs_.2 4).trans rfl
     have c5 := (af hs_.2 5).trans rfl
     have c6 := (af hs_.2 6).trans rfl
     go_simp; with_reducible rfl
    rotate_left
    ·simp only [Act.put, List.setIfInBounds_toArray, List.set_cons_zero, List.set_cons_succ, lT, lS]
     rfl
    refine gZ (i := 6) (N := some 33) #[true, true, true, true, true, true, true, false, false] rfl rfl (dG au.out (by kernel_rfl)) (by decide) (fun K hK => ?_)
    refine fM Try.func66 (by kernel_rfl) rfl #[.agg #[.int .u8 k.f0, .int .i64 k.f1.f0, .int .i64 k.f1.f1, .int .i64 k.f1.f2, .int .i64 k.f1.f3, .int .i64 k.f2, .slice ua k.f3.length uc], .int .i64 (mg ck pre x), .int .i64 (mi ck pre y)] (by rfl) rfl rfl (by (try simp only [List.map_toArray, List.map_cons, List.map_nil]); rfl) ?_
    refine (IH.out k HK.out _ ua uc (mg ck pre x) (mi ck pre y) wd HV.out).mono ?_
    rintro e wk ⟨v, rfl, ho, hb⟩
    refine ⟨_, rfl, ?_⟩
    have HE3 := ae.mk (iy fD.out)
    have HE6 := ae.mk (iy kV.out)
    have HE8 := ae.mk (iy Kb8.out)
    have HEG := ae.mk (Kd.DJ HN.out g rfl)
    have HS := ae.mk HB.out.size
    have uw := ae.mk (ak HB.out hb); have uy := ae.mk (Kd.qQ HN.out hb); have BL := ae.mk (Kd.kE HV.out hb); have nO := ae.mk (aY fD.out hb); have lV := ae.mk (aY kV.out hb); have VV := ae.mk (aY Kb8.out hb); clear HB HN HV fD kV Kb8; have HB := uw; have HN := uy; have HV := BL; have fD := nO; have kV := lV; have Kb8 := VV; clear uw uy BL nO lV VV
    clear HV hb
    obtain ⟨Av, cv, ev⟩ := Kd.jU ho
    subst ev
    have tK := ae.mk ho
    clear ho
    refine hK.out _ _ ⟨fD.out, Kb8.out⟩ (fun hHeld => ?_)
    clear hK K
    refine rZ (a' := ?_) ?_ ?_
    rotate_left
    ·show Act.put _ (some 33) _ = _
     simp only [Act.put, List.setIfInBounds_toArray, List.set_cons_zero, List.set_cons_succ, lT, lS]
     rfl
    refine uu (i := 7) (N := some 34) (v := ?_) (a' := ?_) #[true, true, true, true, true, true, true, true, false] rfl rfl (qE au.out (by kernel_rfl)) (fun _ _ _ h => h) (Or.inl ⟨by rfl, ?_⟩) ?_ ?_
    rotate_left
    ·intro w'; go_simp; with_reducible rfl
    rotate_left
    ·simp only [Act.put, List.setIfInBounds_toArray, List.set_cons_zero, List.set_cons_succ, lT, lS]
     rfl
    obtain ⟨ce, hcl, hM, hcc, hfr⟩ := Kd.y9 HN.out z26 (pre.length : Int) (Int.natCast_nonneg _) hlt
    have hrd : (lC ck pre x y ++ k :: rest).getD (pre.length : Int).toNat z26 = k := RN ck pre k rest x y
    rw [hrd] at hM
    obtain ⟨ub, ud, rfl, _, _⟩ := oV hM
    have x0 : wk.cell? ⟨g, pre.length * 7, none⟩ = some (.int .u8 k.f0) := hcc 0 _ rfl
    have f0 : wk.frozen? ⟨g, pre.length * 7, none⟩ = false := hfr 0
    have x1 : wk.cell? ⟨g, pre.length * 7 + 1, none⟩ = some (.int .i64 k.f1.f0) := hcc 1 _ rfl
    have f1 : wk.frozen? ⟨g, pre.length * 7 + 1, none⟩ = false := hfr 1
    have x2 : wk.cell? ⟨g, pre.length * 7 + 2, none⟩ = some (.int .i64 k.f1.f1) := hcc 2 _ rfl
    have f2 : wk.frozen? ⟨g, pre.length * 7 + 2, none⟩ = false := hfr 2
    have x3 : wk.cell? ⟨g, pre.length * 7 + 3, none⟩ = some (.int .i64 k.f1.f2) := hcc 3 _ rfl
    have f3 : wk.frozen? ⟨g, pre.length * 7 + 3, none⟩ = false := hfr 3
    have x4 : wk.cell? ⟨g, pre.length * 7 + 4, none⟩ = some (.int .i64 k.f1.f3) := hcc 4 _ rfl
    have f4 : wk.frozen? ⟨g, pre.length * 7 + 4, none⟩ = false := hfr 4
    have x5 : wk.cell? ⟨g, pre.length * 7 + 5, none⟩ = some (.int .i64 k.f2) := hcc 5 _ rfl
    have f5 : wk.frozen? ⟨g, pre.length * 7 + 5, none⟩ = false := hfr 5
    have x6 : wk.cell? ⟨g, pre.length * 7 + 6, none⟩ = some (.slice ub k.f3.length ud) := hcc 6 _ rfl
    have f6 : wk.frozen? ⟨g, pre.length * 7 + 6, none⟩ = false := hfr 6
    have jW : ∀ q, (((fun q => ((P q ∨ w.heap.size ≤ q) ∧ q ≠ b3) ∧ q ≠ b6) q ∧ q ≠ g) ∧ q ≠ b8) ∨ wd.heap.size ≤ q → ((fun q => ((P q ∨ w.heap.size ≤ q) ∧ q ≠ b3) ∧ q ≠ b6) q ∧ q ≠ b8) ∧ q ≠ g := fun q hq => hq.elim (fun h => ⟨⟨h.1.1, h.2⟩, h.1.2⟩) (fun hn => ⟨⟨⟨⟨.inr (Nat.le_trans HS.out hn), Nat.ne_of_gt (Nat.lt_of_lt_of_le HE3.out hn)⟩, Nat.ne_of_gt (Nat.lt_of_lt_of_le HE6.out hn)⟩, Nat.ne_of_gt (Nat.lt_of_lt_of_le HE8.out hn)⟩, Nat.ne_of_gt (Nat.lt_of_lt_of_le HEG.out hn)⟩)
    have Qh := pY wk _ (aQ k (mg ck pre x) (mi ck pre y)) (A6 := Av) (c6 := cv) (by rw [xm]; exact (Kd.jk tK.out).2.1) (by rw [xm]; exact Kd.ZI tK.out)
    have hseg := Kd.Vw HN.out (pre.length : Int) (Int.natCast_nonneg _) hlt (bI := [.int .u8 k.f0, .int .i64 (mg ck pre x), .int .i64 (mi ck pre y), .int .i64 k.f1.f2, .int .i64 k.f1.f3, .int .i64 k.f2, .slice Av (lC k.f0 k.f3 (mg ck pre x) (mi ck pre y)).length cv]) (j := 0) hcl hcc (show 0 + 7 ≤ 7 from by decide) (x' := aQ k (mg ck pre x) (mi ck pre y)) (by rw [xm] at Qh ⊢; exact Qh) jW
    rw [show (lC ck pre x y ++ k :: rest).set (pre.length : Int).toNat (aQ k (mg ck pre x) (mi ck pre y)) = lC ck (pre ++ [k]) x y ++ rest from YK ck pre k rest x y] at hseg
    obtain ⟨w9, JR⟩ : ∃ w9, w9 = wk.setCells g ((pre.length : Int).toNat * 7 + 0) [.int .u8 k.f0, .int .i64 (mg ck pre x), .int .i64 (mi ck pre y), .int .i64 k.f1.f2, .int .i64 k.f1.f3, .int .i64 k.f2, .slice Av (lC k.f0 k.f3 (mg ck pre x) (mi ck pre y)).length cv] := ⟨_, rfl⟩
    replace hseg : Kd.N k26 26 w9 w.heap.size (fun q => (fun q => ((P q ∨ w.heap.size ≤ q) ∧ q ≠ b3) ∧ q ≠ b6) q ∧ q ≠ b8) (.slice (some ⟨g, 0, none⟩) l.length c1) (lC ck (pre ++ [k]) x y ++ rest) ∧ wk.grownBy w9 (some g) := by rw [JR]; exact hseg
    have Zx := ae.mk (Kd.ZK hseg.1)
    have Pn := ae.mk (grown_below HB.out hseg.2 HGB.out HB.out.size)
    have yM := ae.mk (dM fD.out hseg.2 (fun e_ => (HN.out.1 g rfl).1.1.2 (Option.some.inj e_).symm))
    have SK := ae.mk (dM kV.out hseg.2 (fun e_ => (HN.out.1 g rfl).1.2 (Option.some.inj e_).symm))
    have DF := ae.mk (dM Kb8.out hseg.2 (fun e_ => (HN.out.1 g rfl).2 (Option.some.inj e_).symm))
    clear hseg Qh jW hcl hcc hfr hM hrd HN HB fD kV Kb8 hHeld tK
    refine qX (i := 8) (N := none) #[true, true, true, true, true, true, true, true, true] rfl rfl (dG au.out (by kernel_rfl)) (by decide) (fun K hK => ?_)
    refine Iz (w1 := w9) (by rfl) rfl ?_ ?_
    ·rw [JR]; go_simp; rfl
    refine hK.out _ _ ?_
    clear hK K x0 x1 x2 x3 x4 x5 x6 f0 f1 f2 f3 f4 f5 f6 JR
    refine kG (iK au.out (by kernel_rfl)) ?_
    have d0 := (af yM.out 0).trans rfl
    have e0 := (af DF.out 0).trans rfl
    have d1 := (af yM.out 1).trans rfl
    have e1 := (af DF.out 1).trans rfl
    have d2 := (af yM.out 2).trans rfl
    have e2 := (af DF.out 2).trans rfl
    have d3 := (af yM.out 3).trans rfl
    have e3 := (af DF.out 3).trans rfl
    have d4 := (af yM.out 4).trans rfl
    have e4 := (af DF.out 4).trans rfl
    have d5 := (af yM.out 5).trans rfl
    have e5 := (af DF.out 5).trans rfl
    have d6 := (af yM.out 6).trans rfl
    have e6 := (af DF.out 6).trans rfl
    by_cases k2 : ck = 2
    ·have afk : (ck == 2) = true := beq_iff_eq.mpr k2
     have K2 := ae.mk k2
     clear k2
     have hw := HW1.out
     go_wp2
     clear d0 d1 d2 d3 d4 d5 d6 e0 e1 e2 e3 e4 e5 e6
     go_roundg rest.length
     case measure => exact Nat.lt_of_lt_of_le (Nat.lt_succ_self _) jd.out
     case rel => exact ⟨pre ++ [k], rest, (by rw [qZ]; unfold xY; rw [if_pos K2.out]), (by rw [rf]; unfold xZ; rw [if_pos K2.out]), (by rw [hw]), ⟨by rw [List.append_assoc]; exact HE.out⟩, Nat.le_refl _, Zx, yM, SK, Pn⟩
    ·have afk : (ck == 2) = false := beq_eq_false_iff_ne.mpr k2
     have K2 := ae.mk k2
     clear k2
     by_cases k3 : ck = 3
     ·have afl : (ck == 3) = true := beq_iff_eq.mpr k3
      have K3 := ae.mk k3
      clear k3
      have hw := HW1.out
      go_wp2
      clear d0 d1 d2 d3 d4 d5 d6 e0 e1 e2 e3 e4 e5 e6
      go_roundg rest.length
      case measure => exact Nat.lt_of_lt_of_le (Nat.lt_succ_self _) jd.out
      case rel => exact ⟨pre ++ [k], rest, (by rw [qZ]; unfold xY; rw [if_neg K2.out]), (by rw [rf]; unfold xZ; rw [if_neg K2.out, if_pos K3.out]), (by rw [hw]), ⟨by rw [List.append_assoc]; exact HE.out⟩, Nat.le_refl _, Zx, yM, SK, Pn⟩
     ·have afl : (ck == 3) = false := beq_eq_false_iff_ne.mpr k3
      have K3 := ae.mk k3
      clear k3
      have hw := HW1.out
      go_wp2
      clear d0 d1 d2 d3 d4 d5 d6 e0 e1 e2 e3 e4 e5 e6
      go_roundg rest.length
      case measure => exact Nat.lt_of_lt_of_le (Nat.lt_succ_self _) jd.out
      case rel => exact ⟨pre ++ [k], rest, (by rw [qZ]; unfold xY; rw [if_neg K2.out]), (by rw [rf]; unfold xZ; rw [if_neg K2.out, if_neg K3.out]), (by rw [hw]), ⟨by rw [List.append_assoc]; exact HE.out⟩, Nat.le_refl _, Zx, yM, SK, Pn⟩
def l9.f (a0 a1 a2 a3 a4 a5 : Int) (l : List ai) (x y : Int) : Option (Int × Int × Int × Int × Int × Int × List ai) := if sz ⟨a0, ⟨a1, a2, a3, a4⟩, a5, l⟩ ≤ 1000000 then some (a0, x, y, a3, a4, a5, lC a0 l x y) else none
section
variable {W : World} {b : Nat} {P : Nat → Prop} {A : Option Addr} {cc : Nat}
abbrev tY (w : World) (P : Nat → Prop) (z : ai) (e : Ending) (w' : World) : Prop := ∃ A c, e = .returned (.agg #[.int .u8 z.f0, .int .i64 z.f1.f0, .int .i64 z.f1.f1, .int .i64 z.f1.f2, .int .i64 z.f1.f3, .int .i64 z.f2, .slice A z.f3.length c]) ∧ Kd.N k26 26 w' w.heap.size (fun k => P k ∨ w.heap.size ≤ k) (.slice A z.f3.length c) z.f3 ∧ Below w.heap.size w w'
theorem CU (c : ai) (ax : Int) (hz : sz c ≤ 1048576) (hV : Kd.V k26 26 W b P (.slice A c.f3.length cc) c.f3) :
  Calls Try.prog 86 #[.agg #[.int .u8 c.f0, .int .i64 c.f1.f0, .int .i64 c.f1.f1, .int .i64 c.f1.f2, .int .i64 c.f1.f3, .int .i64 c.f2, .slice A c.f3.length cc], .int .u8 ax] W fun e w' => e = .returned (.int .i64 (dX ax c)) ∧ Below W.heap.size W w' := by
 obtain ⟨k, hk⟩ := (TV c hz ax).rounds
 exact bZ.calls k _ _ _ _ _ _ P A cc c.f3 ax _ W (fK hV) hk
theorem Wx (c : ai) (ax : Int) (hV : Kd.V k26 26 W b P (.slice A c.f3.length cc) c.f3) :
  Calls Try.prog 99 #[.agg #[.int .u8 c.f0, .int .i64 c.f1.f0, .int .i64 c.f1.f1, .int .i64 c.f1.f2, .int .i64 c.f1.f3, .int .i64 c.f2, .slice A c.f3.length cc], .int .u8 ax] W fun e w' => e = .returned (.bool (jf ax c.f0)) ∧ Below W.heap.size W w' := by
 have h := Kd.kz hV
 exact p_.calls _ _ _ _ _ _ A cc c.f3 ax _ W h.2.2 h.2.1 (zJ c ax)
theorem FC (l : List ai) (hl : l.length ≤ 1000000) (hV : Kd.V k26 26 W b P (.slice A l.length cc) l) :
  Calls Try.prog 137 #[.slice A l.length cc] W fun e w' => ∃ A' c', e = .returned (.slice A' l.length c') ∧ Kd.N k26 26 w' W.heap.size (fun k => P k ∨ W.heap.size ≤ k) (.slice A' l.length c') l ∧ Below W.heap.size W w' :=
 (qF.calls P A cc l l W (fK hV) (if_pos hl)).mono (fun e w' ⟨v, he, hN, hB⟩ => by
  obtain ⟨A', c', rfl⟩ := Kd.jU hN
  exact ⟨A', c', he, hN, hB⟩)
theorem Iy (c : ai) (x y : Int) (hz : sz c ≤ 1000000) (hV : Kd.V k26 26 W b P (.slice A c.f3.length cc) c.f3) :
  Calls Try.prog 66 #[.agg #[.int .u8 c.f0, .int .i64 c.f1.f0, .int .i64 c.f1.f1, .int .i64 c.f1.f2, .int .i64 c.f1.f3, .int .i64 c.f2, .slice A c.f3.length cc], .int .i64 x, .int .i64 y] W (tY W P (aQ c x y)) :=
 (ad1 1000000 c hz (Nat.le_refl _) P A cc x y W (fK hV)).mono (fun e w' ⟨v, he, hN, hB⟩ => by
  rw [xm]
  obtain ⟨A', c', rfl⟩ := Kd.jU hN
  exact ⟨A', c', he, hN, hB⟩)
theorem UY (b : Int) (gs : List Int) (hl : gs.length ≤ 100000) (h0 : -2147483647 ≤ b) (h1 : b ≤ 2147483647) (hC : Kd.C (Kd.int .i64) W A gs.length gs) (hc : gs.length ≤ cc) :
  Calls Try.prog 49 #[.int .i64 b, .slice A gs.length cc] W fun e w' => ∃ A' c', e = .returned (.tuple #[.slice A' (oZ b gs).1.length c', .bool (oZ b gs).2]) ∧ (Kd.int .i64).R 3 w' W.heap.size (fun _ => True) (.slice A' (oZ b gs).1.length c') (oZ b gs).1 ∧ Below W.heap.size W w' := by
 obtain ⟨k, hk⟩ := (x_ b gs hl h0 h1).2.rounds
 exact (aX.calls k b A cc gs _ _ W hC hc hk).mono (fun e w' ⟨v, he, hR, hB⟩ => by
  obtain ⟨A', c', rfl⟩ := Kd.fG hR
  exact ⟨A', c', he, hR, hB⟩)
end
theorem RU {l : List ai} {k : ai} (h : k ∈ l) : sz k ≤ fV l := by
 obtain ⟨p, q, e⟩ := List.append_of_mem h
 rw [e, oQ, dU]
 omega
theorem Rx {a b : dE} : mf a b = true ↔ a.f0 = b.f0 ∧ a.f1 = b.f1 ∧ a.f2 = b.f2 ∧ a.f3 = b.f3 := by
 unfold mf
 simp
theorem KO (ax X Y W H : Int) (hax : ax = 1 ∨ ax = 2) : ∀ (kids : List ai) (ns : List Int) (off : Int), kids.length = ns.length → rO (fun k r => mf k.f1 r) kids (zO ax X Y W H off ns) = true → ∀ x, x ∈ kids → bC (3 - ax) x.f1 = tX ax H W := by
 intro kids
 induction kids with
 | nil => intro _ _ _ _ x hx; cases hx
 | cons k ks ih =>
  intro ns off hl he x hx
  cases ns with
  | nil => simp at hl
  | cons n ns =>
   simp only [zO, rO, Bool.and_eq_true] at he
   rcases List.mem_cons.1 hx with rfl | hx
   ·obtain ⟨_, _, h2, h3⟩ := Rx.1 he.1
    simp only [] at h2 h3
    rcases hax with rfl | rfl
    ·unfold bC tX at *
     simp at h3 ⊢
     exact h3
    ·unfold bC tX at *
     simp at h2 ⊢
     exact h2
   ·exact ih ns (off + n + 1) (by simpa using hl) he.2 x hx
theorem Uj {c : ai} (h1 : ql c = true) (hk : c.f0 = 2 ∨ c.f0 = 3) (hl : c.f3.length ≤ 20000) :
  (c.f3.map (fun k => bC (c.f0 - 1) k.f1)).sum + (c.f3.length : Int) - 1 = bC (c.f0 - 1) c.f1 ∧ ∀ x, x ∈ c.f3 → bC (3 - (c.f0 - 1)) x.f1 = bC (3 - (c.f0 - 1)) c.f1 := by
 unfold ql Gm at h1
 rw [show (c.f0 == 1) = false from by simp; omega, Bool.false_or] at h1
 simp only [Bool.and_eq_true] at h1
 obtain ⟨ht, hlen, hE⟩ := h1
 obtain ⟨hax, gp, gs, _⟩ := Hf ht
 have e1 : Dk c.f0 = c.f0 - 1 := by unfold Dk; omega
 rw [e1] at hax gp gs
 have e2 : jY c = c.f3.map (fun k => bC (c.f0 - 1) k.f1) := by
  unfold jY
  apply List.map_congr_left
  intro k _
  unfold szK pV bC
  rcases hk with h | h
  ·rw [if_pos h, if_pos (by omega)]
  ·rw [if_neg (by omega), if_neg (by omega), if_pos (by omega)]
 have e3 : ∀ r : dE, tX (c.f0 - 1) r.f2 r.f3 = bC (c.f0 - 1) r ∧ tX (c.f0 - 1) r.f3 r.f2 = bC (3 - (c.f0 - 1)) r := by
  intro r
  rcases hk with h | h <;> simp [tX, bC, h]
 refine ⟨?_, fun x hx => ?_⟩
 ·rw [← e2, ← (e3 c.f1).1, ← gs]
  simp [jY]
 ·rw [gp] at hE
  rw [← (e3 c.f1).2]
  exact KO (c.f0 - 1) _ _ _ _ hax c.f3 (jY c) 0 (by simp [jY]) hE x hx
theorem zo {c : ai} (h : oL c = true) : mY c.f1 = true := by
 unfold oL at h
 simp only [Bool.and_eq_true] at h
 exact h.1.1.1
theorem vU {r : dE} (h : mY r = true) {ax : Int} (hax : ax = 1 ∨ ax = 2) : 1 ≤ bC ax r ∧ bC ax r ≤ 10000 := by
 have := MM.1 h
 unfold bC
 rcases hax with rfl | rfl
 ·rw [if_pos rfl]; omega
 ·rw [if_neg (by omega), if_pos rfl]; omega
theorem yQ {c x : ai} (h : kW c = true) (hx : x ∈ c.f3) : kW x = true := by
 rw [BZ, Bool.and_eq_true] at h
 exact List.all_eq_true.1 h.2 x hx
theorem Uw {ax u : Int} : ∀ {l : List ai} {m : Int}, m ≤ u → (∀ x, x ∈ l → dF ax x ≤ u) → oD ax m l ≤ u := by
 intro l
 induction l with
 | nil => intro m h _; rw [qN]; exact h
 | cons x xs ih =>
  intro m h hx
  rw [pI]
  exact ih (VT h (hx x (by simp))) (fun y hy => hx y (by simp [hy]))
theorem Uu {ax : Int} : ∀ {l : List ai} {m : Int}, m ≤ oD ax m l := by
 intro l
 induction l with
 | nil => intro m; rw [qN]; exact Int.le_refl _
 | cons x xs ih =>
  intro m
  rw [pI]
  exact Int.le_trans (QX m (dF ax x)) ih
theorem YN {ax : Int} : ∀ {l : List ai}, (∀ x, x ∈ l → dF ax x ≤ bC ax x.f1) → mr ax l ≤ (l.map (fun k => bC ax k.f1)).sum := by
 intro l
 induction l with
 | nil => intro _; rw [sF]; exact Int.le_refl _
 | cons x xs ih =>
  intro hx
  rw [sV, List.map_cons, List.sum_cons]
  have h1 := hx x (by simp)
  have h2 := ih (fun y hy => hx y (by simp [hy]))
  omega
theorem zV {ax : Int} (hax : ax = 1 ∨ ax = 2) : ∀ (N : Nat) (c : ai), sz c ≤ N → N ≤ 20000 → (gU c).all oL = true → 1 ≤ dF ax c ∧ (kW c = true → dF ax c ≤ bC ax c.f1) := by
 intro N
 induction N with
 | zero => intro c h; rw [dR] at h; omega
 | succ N ih =>
  intro c hc hN hok
  have hs := dR c
  have hlen := jJ c.f3
  have hk : ∀ x, x ∈ c.f3 → 1 ≤ dF ax x ∧ (kW x = true → dF ax x ≤ bC ax x.f1) := fun x hx => by
   refine ih x ?_ (by omega) (Gl hok hx)
   have := RU hx
   omega
  rw [vN]
  rcases J3 (uX hok) with ⟨h1, h2⟩ | ⟨h1, h2⟩
  ·rw [if_pos h1]
   exact ⟨Int.le_refl _, fun _ => (vU (zo (uX hok)) hax).1⟩
  ·rw [if_neg (by omega)]
   have hsum : ∀ l : List ai, (∀ x, x ∈ l → 1 ≤ dF ax x) → (l.length : Int) ≤ mr ax l := by
    intro l
    induction l with
    | nil => intro _; rw [sF]; simp
    | cons x xs ihl =>
     intro h
     have a1 := h x (by simp)
     have a2 := ihl (fun y hy => h y (by simp [hy]))
     rw [sV, List.length_cons]
     omega
   have abu := fun (ht : kW c = true) => Uj (c := c) (by rw [BZ, Bool.and_eq_true] at ht; exact ht.1) h1 (by omega)
   cases ha : jf ax c.f0 with
   | true =>
    have e : c.f0 - 1 = ax := by
     unfold jf at ha
     simp at ha
     omega
    simp only [if_true]
    refine ⟨by have := hsum c.f3 (fun x hx => (hk x hx).1); omega, fun ht => ?_⟩
    obtain ⟨g1, _⟩ := abu ht
    rw [e] at g1
    have := YN (ax := ax) (l := c.f3) (fun x hx => (hk x hx).2 (yQ ht hx))
    omega
   | false =>
    have e : 3 - (c.f0 - 1) = ax := by
     unfold jf at ha
     simp at ha
     omega
    simp only [Bool.false_eq_true, if_false]
    refine ⟨?_, fun ht => ?_⟩
    ·cases hl : c.f3 with
     | nil => rw [hl] at h2; simp at h2
     | cons x xs =>
      have := (hk x (by rw [hl]; simp)).1
      rw [pI]
      exact Int.le_trans this (Int.le_trans (abM 0 _) Uu)
    ·obtain ⟨_, g2⟩ := abu ht
     rw [e] at g2
     have := vU (zo (uX hok)) hax
     exact Uw (by omega) (fun x hx => by
      have := (hk x hx).2 (yQ ht hx)
      rw [g2 x hx] at this
      exact this)
section
variable {W : World} {b : Nat} {P : Nat → Prop} {A : Option Addr} {cc : Nat}
theorem xn (c : ai) (hz : sz c ≤ 1048576) (h1 : Kd.C k26 W A 1 [c]) (h2 : 1 ≤ cc) : Calls Try.prog 148 #[.slice A 1 cc] W fun e w' => e = .returned (.bool (fB c)) ∧ Below W.heap.size W w' := by
 have h := KC [c] (fun x hx => by rw [List.mem_singleton.1 hx]; exact hz) A cc W h1 h2
 simpa using h
theorem qh {c : ai} {v : Bool} {f : FuncId} {args : Array Value} (h : fB c = v) (hc : Calls Try.prog f args W fun e w' => e = .returned (.bool (fB c)) ∧ Below W.heap.size W w') : Calls Try.prog f args W fun e w' => e = .returned (.bool v) ∧ Below W.heap.size W w' := by
 rw [h] at hc
 exact hc
theorem vk (c : ai) (hz : sz c ≤ 1048576) (hV : Kd.V k26 26 W b P (.slice A c.f3.length cc) c.f3) :
  Calls Try.prog 84 #[.agg #[.int .u8 c.f0, .int .i64 c.f1.f0, .int .i64 c.f1.f1, .int .i64 c.f1.f2, .int .i64 c.f1.f3, .int .i64 c.f2, .slice A c.f3.length cc]] W fun e w' => e = .returned (.bool (fB c)) ∧ Below W.heap.size W w' := by
 obtain ⟨k, hk⟩ := (Kr c hz).rounds
 have h := Kd.kz hV
 exact lW.calls k _ _ _ _ _ _ A cc c.f3 _ W h.2.2 h.2.1 hk
theorem zy (r : dE) (ax : Int) : Calls Try.prog 98 #[.agg #[.int .i64 r.f0, .int .i64 r.f1, .int .i64 r.f2, .int .i64 r.f3], .int .u8 ax] W fun e w' => e = .returned (.int .i64 (bC ax r)) ∧ Below W.heap.size W w' :=
 nM.calls r.f0 r.f1 r.f2 r.f3 ax _ W (H7 r ax)
end
section
variable {Pr : Program} {ops : Array Oper} {rest : List Oper} {op : Oper} {a : Act} {Q : Exit → Act → World → Prop} {w W : World} {P P' : Nat → Prop} {bs : List (Option Nat × Obj)} {ow : List (Value × List ai)} {ts : List (Value × List ai)} {ro : List (Addr × Value)}
theorem xg {N : Tmp} (hd : op.dst = some N) (hgd : op.guard = none) (x : ai) {A : Option Addr} {c b : Nat} (S : St w P bs ow ts ro W) (hV : Kd.V k26 26 W b P' (.slice A x.f3.length c) x.f3)
  (hrun : (execOp a.eval op).run Pr W = .ok (.value (.slice (some ⟨W.heap.size, 0, none⟩) 1 1)) (W.alloc (.cells (l7 x A c).toArray 26)))
  (h : ∀ A1 c1 w1, St w P bs ow ts ro w1 → 1 ≤ c1 → Kd.C k26 w1 A1 1 [x] → wpList Pr ops Q rest (a.put op.dst (.slice A1 1 c1)) w1) : wpList Pr ops Q (op :: rest) a W := by
 obtain ⟨_, hl, hF⟩ := Kd.AX hV
 refine Kd.wR k26 (w0 := W) W.heap.size 26 hgd hd (xs := [x]) (inner := l7 x A c) (ok := fun _ => True) (fH := P') hrun (bD.c7 (pY W P' x hl hF) (bD.none _ _)) (fun _ _ => trivial) trivial (Below.refl _ _) (Nat.le_refl _) (by simp) ?_
 intro v1 w1 hN _ hg _
 obtain ⟨A1, c1, rfl⟩ := Kd.jU hN
 exact h A1 c1 w1 (S.call (um hg)) (Kd.jk hN).2.1 (Kd.jk hN).2.2
end
abbrev yu (w : World) (P : Nat → Prop) (z : ai) (n : Int) (e : Ending) (w' : World) : Prop := ∃ A c, e = .returned (.tuple #[.agg #[.int .u8 z.f0, .int .i64 z.f1.f0, .int .i64 z.f1.f1, .int .i64 z.f1.f2, .int .i64 z.f1.f3, .int .i64 z.f2, .slice A z.f3.length c], .int .i64 n]) ∧ Kd.N k26 26 w' w.heap.size (fun k => P k ∨ w.heap.size ≤ k) (.slice A z.f3.length c) z.f3 ∧ Below w.heap.size w w'
noncomputable def qi (ax : Int) (c : ai) : Bool := !fB c || (ax != 1 && ax != 2)
noncomputable def wJ (ax : Int) (c : ai) (b : Int) : Bool := decide (b < wrap64 (-(dX ax c))) || decide (b > wrap64 (10000 - bC ax ⟨0, 0, wrap64 (c.f1.f0 + c.f1.f2), wrap64 (c.f1.f1 + c.f1.f3)⟩))
noncomputable def aN (ax : Int) (c : ai) (b : Int) : Int := if qi ax c = true then 1 else if wJ ax c b = true then 7 else 0
noncomputable def aZ (ax : Int) (c : ai) (b : Int) : ai := if qi ax c = true then z26 else if wJ ax c b = true then z26 else aQ (dD ax c b) c.f1.f0 c.f1.f1
theorem ZQ {ax : Int} {c : ai} {b : Int} (h1 : qi ax c = false) (h2 : wJ ax c b = false) : fB c = true ∧ (ax = 1 ∨ ax = 2) ∧ sz c ≤ 20000 ∧ -10000 ≤ b ∧ b ≤ 10000 ∧ -(dX ax c) ≤ b ∧ dX ax c = bC ax c.f1 - dF ax c ∧ bC ax c.f1 + b ≤ 10000 := by
 unfold qi at h1
 simp only [Bool.or_eq_false_iff, Bool.not_eq_false', Bool.and_eq_false_iff, bne_eq_false_iff_eq] at h1
 obtain ⟨ht, hax⟩ := h1
 have hm := qO ht
 have hs := oW hm
 have hB : kW c = true := by
  unfold fB at ht
  simp only [Bool.and_eq_true] at ht
  exact ht.2
 have f := (zV hax (sz c) c (Nat.le_refl _) hs (vO hm)).2 hB
 have f1 := (zV hax (sz c) c (Nat.le_refl _) hs (vO hm)).1
 have hr := zo (uX (vO hm))
 have r := vU hr hax
 have hg : dX ax c = bC ax c.f1 - dF ax c := by
  unfold dX
  rw [if_pos ⟨hax, ht⟩]
  unfold wrap64
  omega
 unfold wJ at h2
 simp only [Bool.or_eq_false_iff, decide_eq_false_iff_not] at h2
 have hw1 : wrap64 (-(dX ax c)) = -(dX ax c) := by rw [hg]; unfold wrap64; omega
 have hq : 0 ≤ c.f1.f0 ∧ 0 ≤ c.f1.f1 ∧ c.f1.f0 + c.f1.f2 ≤ 10000 ∧ c.f1.f1 + c.f1.f3 ≤ 10000 ∧ 1 ≤ c.f1.f2 ∧ 1 ≤ c.f1.f3 := by
  unfold mY qL at hr
  simp only [Bool.and_eq_true, decide_eq_true_eq] at hr
  omega
 have he : bC ax ⟨0, 0, wrap64 (c.f1.f0 + c.f1.f2), wrap64 (c.f1.f1 + c.f1.f3)⟩ = (if ax = 1 then c.f1.f0 else c.f1.f1) + bC ax c.f1 := by
  unfold bC
  rcases hax with rfl | rfl
  ·simp only [if_true]; unfold wrap64; omega
  ·simp only [show ¬ ((2 : Int) = 1) by decide, if_false, if_true]; unfold wrap64; omega
 rw [hw1, he] at h2
 have hw2 : wrap64 (10000 - ((if ax = 1 then c.f1.f0 else c.f1.f1) + bC ax c.f1)) = 10000 - ((if ax = 1 then c.f1.f0 else c.f1.f1) + bC ax c.f1) := by unfold wrap64; split <;> omega
 rw [hw2] at h2
 refine ⟨ht, hax, hs, ?_, ?_, ?_, hg, ?_⟩ <;> (split at h2 <;> omega)
end Go.Proofs.Ytfdmfgaiblfbhaa.P
namespace Go.Proofs.Ytfdmfgaiblfbhaa.P
open Go.RowKit Go.Proofs.ag.aV Go.Proofs.ag.bM Go.Proofs.ag.di
attribute [local go_sem] kC kP lh lU jR jS kN kQ
def dO.f (k : Nat) (a0 : Int) (a1 : Int) : Option (List Int × Bool) := if a1 < 1 then (some (([] : List Int), false)) else (if a1 > 20000 then (some (([] : List Int), false)) else (if a0 < (wrap64 ((wrap64 (2 * a1)) - 1)) then (some (([] : List Int), false)) else (if a0 > 2147483647 then (some (([] : List Int), false)) else (if 0 ≤ a1 then (if (a1 : Int).toNat ≤ 35184372088832 then ((aX.f k (wrap64 ((wrap64 (a0 - a1)) + 1)) (List.replicate (a1 : Int).toNat 0)).bind fun Ez => (some (Ez.1, true))) else (none)) else (none)))))
theorem dO.mono : ∀ a0 a1 k, iI (dO.f k a0 a1) (dO.f (k + 1) a0 a1) := by
 intro a0 a1 k
 unfold dO.f
 repeat' first | (with_reducible exact aX.mono _ _ _) | (with_reducible exact iI.refl _) | (with_reducible refine iI.ite ?_ ?_) | (with_reducible refine iI.bind ?_ (fun _ => ?_))
theorem dO.calls (k : Nat) (a0 : Int) (a1 : Int) (r1 : List Int) (r2 : Bool) (w : World) (h : dO.f k a0 a1 = some (r1, r2)) :
  Calls Try.prog 53 #[.int .i64 a0, .int .i64 a1] w fun e w' => ∃ nU : Value, e = .returned (.tuple #[nU, .bool r2]) ∧ Kd.R (Kd.int .i64) 3 w' w.heap.size (fun _ => True) nU r1 ∧ Below w.heap.size w w' := by
 have HB := ae.mk (Below.refl w.heap.size w)
 have H : (if a1 < 1 then (some (([] : List Int), false)) else (if a1 > 20000 then (some (([] : List Int), false)) else (if a0 < (wrap64 ((wrap64 (2 * a1)) - 1)) then (some (([] : List Int), false)) else (if a0 > 2147483647 then (some (([] : List Int), false)) else (if 0 ≤ a1 then (if (a1 : Int).toNat ≤ 35184372088832 then ((aX.f k (wrap64 ((wrap64 (a0 - a1)) + 1)) (List.replicate (a1 : Int).toNat 0)).bind fun Ez => (some (Ez.1, true))) else (none)) else (none)))))) = some (r1, r2) := h
 clear h
 by_cases c3 : a1 < 1
 ·rw [if_pos c3] at H
  have nY : decide (a1 < 1) = true := decide_eq_true c3
  clear c3
  simp only [Option.some.injEq, Prod.mk.injEq] at H
  obtain ⟨rfl, rfl⟩ := H
  go_enter Try.func53, Try.ntmps53
  go_wp2
  go_ret2
  exact ⟨_, by rfl, by exact Kd.qR _ _ _ _ _, by repeat ((with_reducible exact HB.out))⟩
 ·rw [if_neg c3] at H
  have nY : decide (a1 < 1) = false := decide_eq_false c3
  clear c3
  by_cases c4 : a1 > 20000
  ·rw [if_pos c4] at H
   have wK : decide (20000 < a1) = true := decide_eq_true c4
   clear c4
   simp only [Option.some.injEq, Prod.mk.injEq] at H
   obtain ⟨rfl, rfl⟩ := H
   go_enter Try.func53, Try.ntmps53
   go_wp2
   go_ret2
   exact ⟨_, by rfl, by exact Kd.qR _ _ _ _ _, by repeat ((with_reducible exact HB.out))⟩
  ·rw [if_neg c4] at H
   have wK : decide (20000 < a1) = false := decide_eq_false c4
   clear c4
   by_cases c5 : a0 < (wrap64 ((wrap64 (2 * a1)) - 1))
   ·rw [if_pos c5] at H
    have zN : decide (a0 < (wrap64 ((wrap64 (2 * a1)) - 1))) = true := decide_eq_true c5
    clear c5
    simp only [Option.some.injEq, Prod.mk.injEq] at H
    obtain ⟨rfl, rfl⟩ := H
    go_enter Try.func53, Try.ntmps53
    go_wp2
    go_ret2
    exact ⟨_, by rfl, by exact Kd.qR _ _ _ _ _, by repeat ((with_reducible exact HB.out))⟩
   ·rw [if_neg c5] at H
    have zN : decide (a0 < (wrap64 ((wrap64 (2 * a1)) - 1))) = false := decide_eq_false c5
    clear c5
    by_cases c6 : a0 > 2147483647
    ·rw [if_pos c6] at H
     have uh : decide (2147483647 < a0) = true := decide_eq_true c6
     clear c6
     simp only [Option.some.injEq, Prod.mk.injEq] at H
     obtain ⟨rfl, rfl⟩ := H
     go_enter Try.func53, Try.ntmps53
     go_wp2
     go_ret2
     exact ⟨_, by rfl, by exact Kd.qR _ _ _ _ _, by repeat ((with_reducible exact HB.out))⟩
    ·rw [if_neg c6] at H
     have uh : decide (2147483647 < a0) = false := decide_eq_false c6
     clear c6
     by_cases c7 : 0 ≤ a1
     ·rw [if_pos c7] at H
      have qH := eq_true c7
      have NU : decide (0 ≤ a1) = true := decide_eq_true c7
      clear c7
      by_cases c8 : (a1 : Int).toNat ≤ 35184372088832
      ·rw [if_pos c8] at H
       have uQ := eq_true c8
       have aac : decide ((a1 : Int).toNat ≤ 35184372088832) = true := decide_eq_true c8
       clear c8
       obtain ⟨Vf, Ov⟩ : ∃ y_ : List Int, y_ = (List.replicate (a1 : Int).toNat 0) := ⟨_, rfl⟩
       replace H : ((aX.f k (wrap64 ((wrap64 (a0 - a1)) + 1)) Vf).bind fun Ez => (some (Ez.1, true))) = some (r1, r2) := by (rw [Ov]; with_reducible exact H)
       have acT := ae.mk Ov
       clear Ov
       replace H := Option.bind_eq_some_iff.mp H
       obtain ⟨⟨aci, afp⟩, Pj, H⟩ := H
       replace H : (some (aci, true)) = some (r1, r2) := H
       have A9 := ae.mk Pj
       clear Pj
       simp only [Option.some.injEq, Prod.mk.injEq] at H
       obtain ⟨rfl, rfl⟩ := H
       go_enter Try.func53, Try.ntmps53
       go_wp2_with (first | ((with_reducible refine aC (N := 31) rfl ?_); refine Kd.PL (Kd.int .i64) _ 3 rfl (N := 31) rfl 41 _ _ rfl a1 rfl rfl Try.underlying41 (.int .i64 0) 8 info3 rfl (by decide) (by omega) 0 (ok := fun _ => True) (fH := fun _ => True) rfl (fun _ hk => hk) trivial (of_decide_eq_true (by (with_reducible assumption))) (Nat.le_trans (Nat.mul_le_mul_right _ (of_decide_eq_true (by (with_reducible assumption)) : a1.toNat ≤ 35184372088832)) (by omega)) (Below.refl _ _) (Nat.le_refl _) ?_; intro ajw w10 uo hb kF gQ; clear kF gQ; (rw [← acT.out] at uo); have Cj := ae.mk (Kd.iV uo (bP (by repeat ((with_reducible exact HB.out))))); replace HB := ae.mk (ak (by repeat ((with_reducible exact HB.out))) hb); clear hb uo; obtain ⟨SA, TD, Jz⟩ := Kd.fG Cj.out; subst Jz) | ((with_reducible refine gK (f := 49) rfl ?_); refine jF (some 32) rfl rfl Try.func49 (by kernel_rfl) rfl #[.int .i64 (wrap64 ((wrap64 (a0 - a1)) + 1)), .slice SA Vf.length TD] rfl (by (try simp only [List.map_toArray, List.map_cons, List.map_nil]); rfl) ?_; (with_reducible refine (aX.calls k (wrap64 ((wrap64 (a0 - a1)) + 1)) _ _ Vf aci afp _ ?lK ?nT A9.out).mono ?_); (case lK => repeat (exact (Kd.bQ Cj.out).2.2)); (case nT => exact (Kd.bQ Cj.out).2.1); rintro e qP ⟨ajx, rfl, ho0, hb⟩; refine ⟨_, rfl, ?_⟩; have acI := ae.mk (Kd.iV (Kd.pO ho0 (Kd.uI Cj.out)) (bP (by repeat ((with_reducible exact HB.out))))); replace Cj := ae.mk (Kd.lY Cj.out (Kd.mJ ho0) hb); replace HB := ae.mk (ak (by repeat ((with_reducible exact HB.out))) hb); (try clear hb); (try clear ho0)))
       go_ret2
       exact ⟨_, by rfl, by exact Kd.oG acI.out (fun _ hk => trivial), by repeat ((with_reducible exact HB.out))⟩
      ·rw [if_neg c8] at H
       exact absurd H (by simp)
     ·rw [if_neg c7] at H
      exact absurd H (by simp)
def jw.f (k : Nat)  : Option (Bool) := (dO.f k 80 3).bind fun EC => ((dO.f k 8 3).bind fun yB => (if EC.2 = true then (if yB.2 = true then ((bf.f k EC.1 (([26, 26, 26] : List Int))).bind fun rD => (if rD = true then ((bf.f k yB.1 (([2, 2, 2] : List Int))).bind fun mZ => (some mZ)) else (some false))) else (some false)) else (some false)))
theorem jw.mono : ∀ k, iI (jw.f k ) (jw.f (k + 1) ) := by
 intro  k
 unfold jw.f
 repeat' first | (with_reducible exact bf.mono _ _ _) | (with_reducible exact dO.mono _ _ _) | (with_reducible exact iI.refl _) | (with_reducible refine iI.ite ?_ ?_) | (with_reducible refine iI.bind ?_ (fun _ => ?_))
theorem jw.calls (k : Nat)  (r : Bool) (w : World) (h : jw.f k  = some r) :
  Calls Try.prog 52 #[] w fun e w' => e = .returned (.bool r) ∧ Below w.heap.size w w' := by
 have HB := ae.mk (Below.refl w.heap.size w)
 have H : ((dO.f k 80 3).bind fun EC => ((dO.f k 8 3).bind fun yB => (if EC.2 = true then (if yB.2 = true then ((bf.f k EC.1 (([26, 26, 26] : List Int))).bind fun rD => (if rD = true then ((bf.f k yB.1 (([2, 2, 2] : List Int))).bind fun mZ => (some mZ)) else (some false))) else (some false)) else (some false)))) = some r := h
 clear h
 replace H := Option.bind_eq_some_iff.mp H
 obtain ⟨⟨yc, U3⟩, K_, H⟩ := H
 replace H : ((dO.f k 8 3).bind fun yB => (if U3 = true then (if yB.2 = true then ((bf.f k yc (([26, 26, 26] : List Int))).bind fun rD => (if rD = true then ((bf.f k yB.1 (([2, 2, 2] : List Int))).bind fun mZ => (some mZ)) else (some false))) else (some false)) else (some false))) = some r := H
 have A1 := ae.mk K_
 clear K_
 replace H := Option.bind_eq_some_iff.mp H
 obtain ⟨⟨wP, OZ⟩, G_, H⟩ := H
 replace H : (if U3 = true then (if OZ = true then ((bf.f k yc (([26, 26, 26] : List Int))).bind fun rD => (if rD = true then ((bf.f k wP (([2, 2, 2] : List Int))).bind fun mZ => (some mZ)) else (some false))) else (some false)) else (some false)) = some r := H
 have A2 := ae.mk G_
 clear G_
 by_cases c3 : U3 = true
 ·subst c3
  have H1 : (if OZ = true then ((bf.f k yc (([26, 26, 26] : List Int))).bind fun rD => (if rD = true then ((bf.f k wP (([2, 2, 2] : List Int))).bind fun mZ => (some mZ)) else (some false))) else (some false)) = some r := by rw [if_pos rfl] at H; exact H
  clear H
  have H := H1
  clear H1
  by_cases c4 : OZ = true
  ·subst c4
   have H1 : ((bf.f k yc (([26, 26, 26] : List Int))).bind fun rD => (if rD = true then ((bf.f k wP (([2, 2, 2] : List Int))).bind fun mZ => (some mZ)) else (some false))) = some r := by rw [if_pos rfl] at H; exact H
   clear H
   have H := H1
   clear H1
   obtain ⟨Vg, Ox⟩ : ∃ y_ : List Int, y_ = (([26, 26, 26] : List Int)) := ⟨_, rfl⟩
   replace H : ((bf.f k yc Vg).bind fun rD => (if rD = true then ((bf.f k wP (([2, 2, 2] : List Int))).bind fun mZ => (some mZ)) else (some false))) = some r := by (rw [Ox]; with_reducible exact H)
   have Vx := ae.mk Ox
   clear Ox
   replace H := Option.bind_eq_some_iff.mp H
   obtain ⟨rD, Pg, H⟩ := H
   replace H : (if rD = true then ((bf.f k wP (([2, 2, 2] : List Int))).bind fun mZ => (some mZ)) else (some false)) = some r := H
   have A5 := ae.mk Pg
   clear Pg
   by_cases c6 : rD = true
   ·subst c6
    have H1 : ((bf.f k wP (([2, 2, 2] : List Int))).bind fun mZ => (some mZ)) = some r := by rw [if_pos rfl] at H; exact H
    clear H
    have H := H1
    clear H1
    obtain ⟨acv, Oy⟩ : ∃ y_ : List Int, y_ = (([2, 2, 2] : List Int)) := ⟨_, rfl⟩
    replace H : ((bf.f k wP acv).bind fun mZ => (some mZ)) = some r := by (rw [Oy]; with_reducible exact H)
    have acU := ae.mk Oy
    clear Oy
    replace H := Option.bind_eq_some_iff.mp H
    obtain ⟨mZ, Ph, H⟩ := H
    replace H : (some mZ) = some r := H
    have A7 := ae.mk Ph
    clear Ph
    obtain rfl := Option.some.inj H
    go_enter Try.func52, Try.ntmps52
    go_wp2_with (first | ((with_reducible refine gK (f := 53) rfl ?_); refine jF (some 6) rfl rfl Try.func53 (by kernel_rfl) rfl #[.int .i64 80, .int .i64 3] rfl (by (try simp only [List.map_toArray, List.map_cons, List.map_nil]); rfl) ?_; (with_reducible refine (dO.calls k 80 3 yc true _ A1.out).mono ?_); rintro e w8 ⟨U6, rfl, ho0, hb⟩; refine ⟨_, rfl, ?_⟩; have jq := ae.mk (Kd.iV ho0 (bP (by repeat ((with_reducible exact HB.out))))); replace HB := ae.mk (ak (by repeat ((with_reducible exact HB.out))) hb); (try clear hb); (try clear ho0)) | ((with_reducible refine gK (f := 53) rfl ?_); refine jF (some 10) rfl rfl Try.func53 (by kernel_rfl) rfl #[.int .i64 8, .int .i64 3] rfl (by (try simp only [List.map_toArray, List.map_cons, List.map_nil]); rfl) ?_; (with_reducible refine (dO.calls k 8 3 wP true _ A2.out).mono ?_); rintro e w9 ⟨U7, rfl, ho0, hb⟩; refine ⟨_, rfl, ?_⟩; have o7 := ae.mk (Kd.iV (Kd.pO ho0 (Kd.uI jq.out)) (bP (by repeat ((with_reducible exact HB.out))))); replace jq := ae.mk (Kd.lY jq.out (Kd.mJ ho0) hb); replace HB := ae.mk (ak (by repeat ((with_reducible exact HB.out))) hb); (try clear hb); (try clear ho0)) | ((with_reducible refine aC (N := 19) rfl ?_); (try (refine fQ (by rfl) ?_; dsimp only)); refine Kd.o8 (Kd.int .i64) _ 3 ?hg (N := 19) ?hd (xs := ([26, 26, 26] : List Int)) (inner := [.int .i64 26, .int .i64 26, .int .i64 26]) (ok := fun _ => True) (fH := fun _ => True) ?hr ?hp (fun _ hk => hk) trivial (Below.refl _ _) (Nat.le_refl _) (by simp) ?_; (case hd => rfl); (case hg => rfl); (case hr => (go_simp; done)); (case hp => exact (bD.one (show Kd.M (Kd.int .i64) _ _ _ 26 [.int .i64 26] from rfl) (bD.one (show Kd.M (Kd.int .i64) _ _ _ 26 [.int .i64 26] from rfl) (bD.one (show Kd.M (Kd.int .i64) _ _ _ 26 [.int .i64 26] from rfl) (bD.none _ _))))); intro aft w10 uo hb kF gQ; clear kF gQ; (rw [← Vx.out] at uo); have vC := ae.mk (Kd.iV (Kd.pO (Kd.pO uo (Kd.uI jq.out)) (Kd.uI o7.out)) (bP (by repeat ((with_reducible exact HB.out))))); replace jq := ae.mk (Kd.lY jq.out (Kd.mJ uo) hb); replace o7 := ae.mk (Kd.lY o7.out (Kd.mJ uo) hb); replace HB := ae.mk (ak (by repeat ((with_reducible exact HB.out))) hb); clear hb uo; obtain ⟨SA, TD, Jz⟩ := Kd.fG jq.out; subst Jz; obtain ⟨aiR, ai8, ae1⟩ := Kd.fG vC.out; subst ae1) | (go_at_call 51; (with_reducible refine (bf.calls k _ _ yc _ _ Vg true _ ?lK ?nT ?EX ?EY A5.out).mono ?_); (case lK => repeat (exact (Kd.bQ jq.out).2.2)); (case nT => exact (Kd.bQ jq.out).2.1); (case EX => repeat (exact (Kd.bQ vC.out).2.2)); (case EY => exact (Kd.bQ vC.out).2.1); rintro e w' ⟨rfl, ⟨nd, rfl⟩⟩) | ((with_reducible refine aC (N := 24) rfl ?_); (try (refine fQ (by rfl) ?_; dsimp only)); refine Kd.o8 (Kd.int .i64) _ 3 ?hg (N := 24) ?hd (xs := ([2, 2, 2] : List Int)) (inner := [.int .i64 2, .int .i64 2, .int .i64 2]) (ok := fun _ => True) (fH := fun _ => True) ?hr ?hp (fun _ hk => hk) trivial (Below.refl _ _) (Nat.le_refl _) (by simp) ?_; (case hd => rfl); (case hg => rfl); (case hr => (go_simp; done)); (case hp => exact (bD.one (show Kd.M (Kd.int .i64) _ _ _ 2 [.int .i64 2] from rfl) (bD.one (show Kd.M (Kd.int .i64) _ _ _ 2 [.int .i64 2] from rfl) (bD.one (show Kd.M (Kd.int .i64) _ _ _ 2 [.int .i64 2] from rfl) (bD.none _ _))))); intro ajy V3 F6 hb kF gQ; clear kF gQ; (rw [← acU.out] at F6); have NC := ae.mk (Kd.iV (Kd.pO (Kd.pO (Kd.pO F6 (Kd.uI (by (with_reducible repeat (apply Kd.w_)); exact jq.out))) (Kd.uI (by (with_reducible repeat (apply Kd.w_)); exact o7.out))) (Kd.uI (by (with_reducible repeat (apply Kd.w_)); exact vC.out))) (bP (by repeat ((with_reducible first | exact HB.out | apply dP))))); replace jq := ae.mk (Kd.lY (by (with_reducible repeat (apply Kd.w_)); exact jq.out) (Kd.mJ F6) hb); replace o7 := ae.mk (Kd.lY (by (with_reducible repeat (apply Kd.w_)); exact o7.out) (Kd.mJ F6) hb); replace vC := ae.mk (Kd.lY (by (with_reducible repeat (apply Kd.w_)); exact vC.out) (Kd.mJ F6) hb); replace HB := ae.mk (ak (by repeat ((with_reducible first | exact HB.out | apply dP))) hb); clear hb F6; obtain ⟨aeG, aeU, ae3⟩ := Kd.fG o7.out; subst ae3; obtain ⟨aiT, ai_, ae4⟩ := Kd.fG NC.out; subst ae4) | (go_at_call 51; (with_reducible refine (bf.calls k _ _ wP _ _ acv mZ _ ?lK ?nT ?EX ?EY A7.out).mono ?_); (case lK => repeat (exact (Kd.bQ o7.out).2.2)); (case nT => exact (Kd.bQ o7.out).2.1); (case EX => repeat (exact (Kd.bQ NC.out).2.2)); (case EY => exact (Kd.bQ NC.out).2.1); rintro e w' ⟨rfl, ⟨nd, rfl⟩⟩))
    go_ret
    exact ⟨by rfl, by repeat ((with_reducible first | exact HB.out | apply dP))⟩
   ·replace c6 := Bool.eq_false_iff.mpr c6
    subst c6
    have H1 : (some false) = some r := by rw [if_neg (show ¬ (false = true) by decide)] at H; exact H
    clear H
    have H := H1
    clear H1
    obtain rfl := Option.some.inj H
    go_enter Try.func52, Try.ntmps52
    go_wp2_with (first | ((with_reducible refine gK (f := 53) rfl ?_); refine jF (some 6) rfl rfl Try.func53 (by kernel_rfl) rfl #[.int .i64 80, .int .i64 3] rfl (by (try simp only [List.map_toArray, List.map_cons, List.map_nil]); rfl) ?_; (with_reducible refine (dO.calls k 80 3 yc true _ A1.out).mono ?_); rintro e w18 ⟨U6, rfl, ho0, hb⟩; refine ⟨_, rfl, ?_⟩; have jq := ae.mk (Kd.iV ho0 (bP (by repeat ((with_reducible exact HB.out))))); replace HB := ae.mk (ak (by repeat ((with_reducible exact HB.out))) hb); (try clear hb); (try clear ho0)) | ((with_reducible refine gK (f := 53) rfl ?_); refine jF (some 10) rfl rfl Try.func53 (by kernel_rfl) rfl #[.int .i64 8, .int .i64 3] rfl (by (try simp only [List.map_toArray, List.map_cons, List.map_nil]); rfl) ?_; (with_reducible refine (dO.calls k 8 3 wP true _ A2.out).mono ?_); rintro e Cb ⟨U7, rfl, ho0, hb⟩; refine ⟨_, rfl, ?_⟩; have o7 := ae.mk (Kd.iV (Kd.pO ho0 (Kd.uI jq.out)) (bP (by repeat ((with_reducible exact HB.out))))); replace jq := ae.mk (Kd.lY jq.out (Kd.mJ ho0) hb); replace HB := ae.mk (ak (by repeat ((with_reducible exact HB.out))) hb); (try clear hb); (try clear ho0)) | ((with_reducible refine aC (N := 19) rfl ?_); (try (refine fQ (by rfl) ?_; dsimp only)); refine Kd.o8 (Kd.int .i64) _ 3 ?hg (N := 19) ?hd (xs := ([26, 26, 26] : List Int)) (inner := [.int .i64 26, .int .i64 26, .int .i64 26]) (ok := fun _ => True) (fH := fun _ => True) ?hr ?hp (fun _ hk => hk) trivial (Below.refl _ _) (Nat.le_refl _) (by simp) ?_; (case hd => rfl); (case hg => rfl); (case hr => (go_simp; done)); (case hp => exact (bD.one (show Kd.M (Kd.int .i64) _ _ _ 26 [.int .i64 26] from rfl) (bD.one (show Kd.M (Kd.int .i64) _ _ _ 26 [.int .i64 26] from rfl) (bD.one (show Kd.M (Kd.int .i64) _ _ _ 26 [.int .i64 26] from rfl) (bD.none _ _))))); intro aft w20 JP hb kF gQ; clear kF gQ; (rw [← Vx.out] at JP); have vC := ae.mk (Kd.iV (Kd.pO (Kd.pO JP (Kd.uI jq.out)) (Kd.uI o7.out)) (bP (by repeat ((with_reducible exact HB.out))))); replace jq := ae.mk (Kd.lY jq.out (Kd.mJ JP) hb); replace o7 := ae.mk (Kd.lY o7.out (Kd.mJ JP) hb); replace HB := ae.mk (ak (by repeat ((with_reducible exact HB.out))) hb); clear hb JP; obtain ⟨aiU, ai', ae5⟩ := Kd.fG jq.out; subst ae5; obtain ⟨aiV, aja, ae6⟩ := Kd.fG vC.out; subst ae6) | (go_at_call 51; (with_reducible refine (bf.calls k _ _ yc _ _ Vg false _ ?lK ?nT ?EX ?EY A5.out).mono ?_); (case lK => repeat (exact (Kd.bQ jq.out).2.2)); (case nT => exact (Kd.bQ jq.out).2.1); (case EX => repeat (exact (Kd.bQ vC.out).2.2)); (case EY => exact (Kd.bQ vC.out).2.1); rintro e w' ⟨rfl, ⟨nd, rfl⟩⟩))
    go_ret
    exact ⟨by rfl, by repeat ((with_reducible first | exact HB.out | apply dP))⟩
  ·replace c4 := Bool.eq_false_iff.mpr c4
   subst c4
   have H1 : (some false) = some r := by rw [if_neg (show ¬ (false = true) by decide)] at H; exact H
   clear H
   have H := H1
   clear H1
   obtain rfl := Option.some.inj H
   go_enter Try.func52, Try.ntmps52
   go_wp2_with (first | ((with_reducible refine gK (f := 53) rfl ?_); refine jF (some 6) rfl rfl Try.func53 (by kernel_rfl) rfl #[.int .i64 80, .int .i64 3] rfl (by (try simp only [List.map_toArray, List.map_cons, List.map_nil]); rfl) ?_; (with_reducible refine (dO.calls k 80 3 yc true _ A1.out).mono ?_); rintro e w24 ⟨U6, rfl, ho0, hb⟩; refine ⟨_, rfl, ?_⟩; have jq := ae.mk (Kd.iV ho0 (bP (by repeat ((with_reducible exact HB.out))))); replace HB := ae.mk (ak (by repeat ((with_reducible exact HB.out))) hb); (try clear hb); (try clear ho0)) | ((with_reducible refine gK (f := 53) rfl ?_); refine jF (some 10) rfl rfl Try.func53 (by kernel_rfl) rfl #[.int .i64 8, .int .i64 3] rfl (by (try simp only [List.map_toArray, List.map_cons, List.map_nil]); rfl) ?_; (with_reducible refine (dO.calls k 8 3 wP false _ A2.out).mono ?_); rintro e Sr ⟨U7, rfl, ho0, hb⟩; refine ⟨_, rfl, ?_⟩; have o7 := ae.mk (Kd.iV (Kd.pO ho0 (Kd.uI jq.out)) (bP (by repeat ((with_reducible exact HB.out))))); replace jq := ae.mk (Kd.lY jq.out (Kd.mJ ho0) hb); replace HB := ae.mk (ak (by repeat ((with_reducible exact HB.out))) hb); (try clear hb); (try clear ho0)))
   go_ret
   exact ⟨by rfl, by repeat ((with_reducible exact HB.out))⟩
 ·replace c3 := Bool.eq_false_iff.mpr c3
  subst c3
  have H1 : (some false) = some r := by rw [if_neg (show ¬ (false = true) by decide)] at H; exact H
  clear H
  have H := H1
  clear H1
  obtain rfl := Option.some.inj H
  go_enter Try.func52, Try.ntmps52
  go_wp2_with (first | ((with_reducible refine gK (f := 53) rfl ?_); refine jF (some 6) rfl rfl Try.func53 (by kernel_rfl) rfl #[.int .i64 80, .int .i64 3] rfl (by (try simp only [List.map_toArray, List.map_cons, List.map_nil]); rfl) ?_; (with_reducible refine (dO.calls k 80 3 yc false _ A1.out).mono ?_); rintro e w26 ⟨U6, rfl, ho0, hb⟩; refine ⟨_, rfl, ?_⟩; have jq := ae.mk (Kd.iV ho0 (bP (by repeat ((with_reducible exact HB.out))))); replace HB := ae.mk (ak (by repeat ((with_reducible exact HB.out))) hb); (try clear hb); (try clear ho0)) | ((with_reducible refine gK (f := 53) rfl ?_); refine jF (some 10) rfl rfl Try.func53 (by kernel_rfl) rfl #[.int .i64 8, .int .i64 3] rfl (by (try simp only [List.map_toArray, List.map_cons, List.map_nil]); rfl) ?_; (with_reducible refine (dO.calls k 8 3 wP OZ _ A2.out).mono ?_); rintro e Su ⟨U7, rfl, ho0, hb⟩; refine ⟨_, rfl, ?_⟩; have o7 := ae.mk (Kd.iV (Kd.pO ho0 (Kd.uI jq.out)) (bP (by repeat ((with_reducible exact HB.out))))); replace jq := ae.mk (Kd.lY jq.out (Kd.mJ ho0) hb); replace HB := ae.mk (ak (by repeat ((with_reducible exact HB.out))) hb); (try clear hb); (try clear ho0)))
  go_ret
  exact ⟨by rfl, by repeat ((with_reducible exact HB.out))⟩
mutual
def a_.j0 : Nat → Int → Int → List Int → Bool → Option (List Int × Bool)
 | 0, _, _, _, _ => none
 | k + 1, x0, x1, x6, x27 => if x27 = true then (some (x6, false)) else (if x1 = 0 then (none) else (a_.l0 k x1 x6 (wrap64 (Int.tdiv (wrap64 (x0 - (wrap64 (x1 - 1)))) x1)) (Int.tmod (wrap64 (x0 - (wrap64 (x1 - 1)))) x1) 0))
def a_.l0 : Nat → Int → List Int → Int → Int → Int → Option (List Int × Bool)
 | 0, _, _, _, _, _ => none
 | k + 1, x1, x6, x7, x8, x9 => if x9 < x1 then (if x9 < x8 then (if x6.length < 17592186044416 then (a_.l0 k x1 (x6 ++ [wrap64 (x7 + 1)]) x7 x8 (wrap64 (x9 + 1))) else (none)) else (if x6.length < 17592186044416 then (a_.l0 k x1 (x6 ++ [x7]) x7 x8 (wrap64 (x9 + 1))) else (none))) else (some (x6, true))
end
def a_.f (k : Nat) (a0 : Int) (a1 : Int) : Option (List Int × Bool) := (some (([] : List Int) : List Int)).bind fun pK => (if a1 < 1 then (a_.j0 k a0 a1 pK true) else (if a1 > 20000 then (a_.j0 k a0 a1 pK true) else (if a0 < (wrap64 ((wrap64 (2 * a1)) - 1)) then (a_.j0 k a0 a1 pK true) else (a_.j0 k a0 a1 pK (decide (a0 > 2147483647))))))
theorem a_.calls (k : Nat) (a0 : Int) (a1 : Int) (r1 : List Int) (r2 : Bool) (w : World) (h : a_.f k a0 a1 = some (r1, r2)) :
  Calls Try.prog 54 #[.int .i64 a0, .int .i64 a1] w fun e w' => ∃ nU : Value, e = .returned (.tuple #[nU, .bool r2]) ∧ Kd.R (Kd.int .i64) 3 w' w.heap.size (fun _ => True) nU r1 ∧ Below w.heap.size w w' := by
 have HB := ae.mk (Below.refl w.heap.size w)
 have H : ((some (([] : List Int) : List Int)).bind fun pK => (if a1 < 1 then (a_.j0 k a0 a1 pK true) else (if a1 > 20000 then (a_.j0 k a0 a1 pK true) else (if a0 < (wrap64 ((wrap64 (2 * a1)) - 1)) then (a_.j0 k a0 a1 pK true) else (a_.j0 k a0 a1 pK (decide (a0 > 2147483647))))))) = some (r1, r2) := h
 clear h
 obtain ⟨pK, Oz⟩ : ∃ y_ : List Int, y_ = (([] : List Int)) := ⟨_, rfl⟩
 replace H : (if a1 < 1 then (a_.j0 k a0 a1 pK true) else (if a1 > 20000 then (a_.j0 k a0 a1 pK true) else (if a0 < (wrap64 ((wrap64 (2 * a1)) - 1)) then (a_.j0 k a0 a1 pK true) else (a_.j0 k a0 a1 pK (decide (a0 > 2147483647)))))) = some (r1, r2) := by (have H2_ := (Option.bind_some _ _).symm.trans H; rw [Oz]; with_reducible exact H2_)
 have acV := ae.mk Oz
 clear Oz
 have IL := ae.mk H
 clear H
 go_enter Try.func54, Try.ntmps54
 go_upto_region 2 with (((with_reducible refine aC (N := 10) rfl ?_); refine Kd.o8 (Kd.int .i64) _ 3 ?hg (N := 10) ?hd (xs := ([] : List Int)) (inner := []) (ok := fun _ => True) (fH := fun _ => True) ?hr ?hp (fun _ hk => hk) trivial (Below.refl _ _) (Nat.le_refl _) (by simp) ?_; (case hd => rfl); (case hg => rfl); (case hr => (go_simp; done)); (case hp => exact (bD.none _ _)); intro afu w4 zl hb kF gQ; clear kF gQ; (rw [← acV.out] at zl); have Ik := ae.mk (Kd.iV zl (bP (by repeat ((with_reducible exact HB.out))))); replace HB := ae.mk (ak (by repeat ((with_reducible exact HB.out))) hb); clear hb zl))
 (skip)
 go_cut [27] (fun v27 wc => ∃ (kq : Nat) (IC : Bool), v27 = .bool IC ∧ ae (a_.j0 kq a0 a1 pK IC = some (r1, r2)) ∧ ae (kq ≤ k) ∧ ae (Kd.R (Kd.int .i64) 3 wc w.heap.size (fun _ => True) afu pK) ∧ ae (Below w.heap.size w wc))
 case first =>
  have H := IL.out
  clear IL
  by_cases c6 : a1 < 1
  ·rw [if_pos c6] at H
   have uh : decide (a1 < 1) = true := decide_eq_true c6
   clear c6
   (skip)
   have H' := ae.mk H
   clear H
   go_wp2
   go_meet
   case rel => exact ⟨_, (true), (by rfl), H', ⟨by omega⟩, ⟨by exact Ik.out⟩, ⟨by repeat ((with_reducible exact HB.out))⟩⟩
  ·rw [if_neg c6] at H
   have uh : decide (a1 < 1) = false := decide_eq_false c6
   clear c6
   (skip)
   by_cases c7 : a1 > 20000
   ·rw [if_pos c7] at H
    have qH : decide (20000 < a1) = true := decide_eq_true c7
    clear c7
    have H' := ae.mk H
    clear H
    go_wp2
    go_meet
    case rel => exact ⟨_, (true), (by rfl), H', ⟨by omega⟩, ⟨by exact Ik.out⟩, ⟨by repeat ((with_reducible exact HB.out))⟩⟩
   ·rw [if_neg c7] at H
    have qH : decide (20000 < a1) = false := decide_eq_false c7
    clear c7
    by_cases c8 : a0 < (wrap64 ((wrap64 (2 * a1)) - 1))
    ·rw [if_pos c8] at H
     have uQ : decide (a0 < (wrap64 ((wrap64 (2 * a1)) - 1))) = true := decide_eq_true c8
     clear c8
     have H' := ae.mk H
     clear H
     go_wp2
     go_meet
     case rel => exact ⟨_, (true), (by rfl), H', ⟨by omega⟩, ⟨by exact Ik.out⟩, ⟨by repeat ((with_reducible exact HB.out))⟩⟩
    ·rw [if_neg c8] at H
     have uQ : decide (a0 < (wrap64 ((wrap64 (2 * a1)) - 1))) = false := decide_eq_false c8
     clear c8
     have H' := ae.mk H
     clear H
     go_wp2
     go_meet
     case rel => exact ⟨_, (decide (a0 > 2147483647)), (by rfl), H', ⟨by omega⟩, ⟨by exact Ik.out⟩, ⟨by repeat ((with_reducible exact HB.out))⟩⟩
 case rest =>
  clear IL
  obtain ⟨kq, IC, rfl, HA, HJ2, AQ, HB⟩ := hcut
  cases kq with
  | zero => exact absurd HA.out (by simp [a_.j0])
  | succ JW =>
   have H := HA.out
   clear HA
   simp only [a_.j0] at H
   by_cases c9 : IC = true
   ·subst c9
    have H1 : (some (pK, false)) = some (r1, r2) := by rw [if_pos rfl] at H; exact H
    clear H
    have H := H1
    clear H1
    simp only [Option.some.injEq, Prod.mk.injEq] at H
    obtain ⟨rfl, rfl⟩ := H
    go_wp2
    go_ret2
    exact ⟨_, by rfl, by exact AQ.out, by repeat ((with_reducible exact HB.out))⟩
   ·replace c9 := Bool.eq_false_iff.mpr c9
    subst c9
    have H1 : (if a1 = 0 then (none) else (a_.l0 JW a1 pK (wrap64 (Int.tdiv (wrap64 (a0 - (wrap64 (a1 - 1)))) a1)) (Int.tmod (wrap64 (a0 - (wrap64 (a1 - 1)))) a1) 0)) = some (r1, r2) := by rw [if_neg (show ¬ (false = true) by decide)] at H; exact H
    clear H
    have H := H1
    clear H1
    by_cases c10 : a1 = 0
    ·rw [if_pos c10] at H
     exact absurd H (by simp)
    ·rw [if_neg c10] at H
     have ED : (a1 == 0) = false := beq_eq_false_iff_ne.mpr c10
     have NR : (a1 != 0) = true := bne_iff_ne.mpr c10
     have H' := ae.mk H
     clear H
     go_wp2
     go_loopg [6, 9] JW (fun kq v6 v9 w' => ∃ (m_ : List Int) (vz : Int), v9 = .int .i64 vz ∧ ae (a_.l0 kq a1 m_ (wrap64 (Int.tdiv (wrap64 (a0 - (wrap64 (a1 - 1)))) a1)) (Int.tmod (wrap64 (a0 - (wrap64 (a1 - 1)))) a1) vz = some (r1, r2)) ∧ ae (kq ≤ JW) ∧ ae (Kd.R (Kd.int .i64) 3 w' w.heap.size (fun _ => True) v6 m_) ∧ ae (Below w.heap.size w w'))
     case atStart => exact ⟨(pK), (0), (by rfl), H', ⟨Nat.le_refl _⟩, ⟨by exact AQ.out⟩, ⟨by repeat ((with_reducible exact HB.out))⟩⟩
     case round =>
      clear H'
      clear c10 ED NR
      obtain ⟨m_, vz, rfl, HA, tJ, AQ, HB⟩ := hrel
      cases gk with
      | zero => exact absurd HA.out (by simp [a_.l0])
      | succ k2 =>
       have H := HA.out
       clear HA
       simp only [a_.l0] at H
       by_cases c11 : vz < a1
       ·rw [if_pos c11] at H
        have zM : decide (vz < a1) = true := decide_eq_true c11
        clear c11
        by_cases c12 : vz < (Int.tmod (wrap64 (a0 - (wrap64 (a1 - 1)))) a1)
        ·rw [if_pos c12] at H
         have wU : decide (vz < (Int.tmod (wrap64 (a0 - (wrap64 (a1 - 1)))) a1)) = true := decide_eq_true c12
         clear c12
         by_cases c13 : m_.length < 17592186044416
         ·rw [if_pos c13] at H
          have NG := ae.mk c13
          clear c13
          obtain ⟨acw, OA⟩ : ∃ y_ : List Int, y_ = (m_ ++ [wrap64 ((wrap64 (Int.tdiv (wrap64 (a0 - (wrap64 (a1 - 1)))) a1)) + 1)]) := ⟨_, rfl⟩
          replace H : (a_.l0 k2 a1 acw (wrap64 (Int.tdiv (wrap64 (a0 - (wrap64 (a1 - 1)))) a1)) (Int.tmod (wrap64 (a0 - (wrap64 (a1 - 1)))) a1) (wrap64 (vz + 1))) = some (r1, r2) := by (rw [OA]; with_reducible exact H)
          have acW := ae.mk OA
          clear OA
          have H' := ae.mk H
          clear H
          go_wp2_with (((with_reducible refine oI (b := .append) (xs := #[.tmp 49, .tmp 52]) rfl ?_); at_builtin; refine Kd.xx (Kd.int .i64) (w0 := w) w.heap.size rfl (.tmp 49) (.tmp 52) 41 3 (.int .i64 0) 8 rfl Try.underlying41 info3 rfl (by decide) (by omega) u6 m_ (wrap64 ((wrap64 (Int.tdiv (wrap64 (a0 - (wrap64 (a1 - 1)))) a1)) + 1)) [.int .i64 (wrap64 ((wrap64 (Int.tdiv (wrap64 (a0 - (wrap64 (a1 - 1)))) a1)) + 1))] (fun _ => True) (fun _ => False) rfl rfl ?aP (fun _ hk => hk.elim) ?aF ?aO ?aB ?aS ?aL ?_; (case aP => exact rfl); (case aB => exact (by repeat ((with_reducible exact HB.out)))); (case aF => exact (fun _ _ => trivial)); (case aO => exact AQ.out); (case aS => exact (bP (by repeat ((with_reducible exact HB.out))))); (case aL => have := NG.out; omega); intro ajz V3 ho hb hg hat; rw [← acW.out] at ho; have acJ := ae.mk (ho); replace HB := ae.mk (hb); clear AQ; clear ho hb hg hat))
          go_roundg k2
          case measure => have := HJ2.out; have := tJ.out; omega
          case rel => exact ⟨(acw), (wrap64 (vz + 1)), (by rfl), H', ⟨by have := HJ2.out; have := tJ.out; omega⟩, ⟨by exact acJ.out⟩, ⟨by repeat ((with_reducible exact HB.out))⟩⟩
         ·rw [if_neg c13] at H
          exact absurd H (by simp)
        ·rw [if_neg c12] at H
         have wU : decide (vz < (Int.tmod (wrap64 (a0 - (wrap64 (a1 - 1)))) a1)) = false := decide_eq_false c12
         clear c12
         by_cases c15 : m_.length < 17592186044416
         ·rw [if_pos c15] at H
          have acM := ae.mk c15
          clear c15
          obtain ⟨acx, OB⟩ : ∃ y_ : List Int, y_ = (m_ ++ [(wrap64 (Int.tdiv (wrap64 (a0 - (wrap64 (a1 - 1)))) a1))]) := ⟨_, rfl⟩
          replace H : (a_.l0 k2 a1 acx (wrap64 (Int.tdiv (wrap64 (a0 - (wrap64 (a1 - 1)))) a1)) (Int.tmod (wrap64 (a0 - (wrap64 (a1 - 1)))) a1) (wrap64 (vz + 1))) = some (r1, r2) := by (rw [OB]; with_reducible exact H)
          have acX := ae.mk OB
          clear OB
          have H' := ae.mk H
          clear H
          go_wp2_with (((with_reducible refine oI (b := .append) (xs := #[.tmp 54, .tmp 56]) rfl ?_); at_builtin; refine Kd.xx (Kd.int .i64) (w0 := w) w.heap.size rfl (.tmp 54) (.tmp 56) 41 3 (.int .i64 0) 8 rfl Try.underlying41 info3 rfl (by decide) (by omega) u6 m_ (wrap64 (Int.tdiv (wrap64 (a0 - (wrap64 (a1 - 1)))) a1)) [.int .i64 (wrap64 (Int.tdiv (wrap64 (a0 - (wrap64 (a1 - 1)))) a1))] (fun _ => True) (fun _ => False) rfl rfl ?aP (fun _ hk => hk.elim) ?aF ?aO ?aB ?aS ?aL ?_; (case aP => exact rfl); (case aB => exact (by repeat ((with_reducible exact HB.out)))); (case aF => exact (fun _ _ => trivial)); (case aO => exact AQ.out); (case aS => exact (bP (by repeat ((with_reducible exact HB.out))))); (case aL => have := acM.out; omega); intro ajA w16 ho hb hg hat; rw [← acX.out] at ho; have acK := ae.mk (ho); replace HB := ae.mk (hb); clear AQ; clear ho hb hg hat))
          go_roundg k2
          case measure => have := HJ2.out; have := tJ.out; omega
          case rel => exact ⟨(acx), (wrap64 (vz + 1)), (by rfl), H', ⟨by have := HJ2.out; have := tJ.out; omega⟩, ⟨by exact acK.out⟩, ⟨by repeat ((with_reducible exact HB.out))⟩⟩
         ·rw [if_neg c15] at H
          exact absurd H (by simp)
       ·rw [if_neg c11] at H
        have zM : decide (vz < a1) = false := decide_eq_false c11
        clear c11
        simp only [Option.some.injEq, Prod.mk.injEq] at H
        obtain ⟨rfl, rfl⟩ := H
        go_wp2
        go_ret2
        exact ⟨_, by rfl, by exact AQ.out, by repeat ((with_reducible exact HB.out))⟩
end Go.Proofs.Ytfdmfgaiblfbhaa.P
namespace Go.Proofs.Ytfdmfgaiblfbhaa.Pure
open Go.RowKit Go.Proofs.Ytfdmfgaiblfbhaa.P Go.Proofs.ag.aV Go.Proofs.ag.bM Go.Proofs.ag.di
theorem WC : Ev (fun k => jw.f k) true := Ev.of (k := 200) (fun k => jw.mono k) (by decide +kernel)
def Can (s n : Int) : Prop := 1 ≤ n ∧ n ≤ 20000 ∧ 2 * n - 1 ≤ s ∧ s ≤ 2147483647
theorem U1 (s n : Int) (h : Can s n) : Ev (fun k => dO.f k s n) (moreL (s - n + 1) n.toNat, true) := by
 obtain ⟨h1, h2, h3, h4⟩ := h
 have hw1 : wrap64 (2 * n) = 2 * n := wp (by omega) (by omega)
 have hw2 : wrap64 (2 * n - 1) = 2 * n - 1 := wp (by omega) (by omega)
 have hw3 : wrap64 (s - n) = s - n := wp (by omega) (by omega)
 have hw4 : wrap64 (s - n + 1) = s - n + 1 := wp (by omega) (by omega)
 unfold dO.f
 rw [hw1, hw2, hw3, hw4]
 refine Ev.iY (by omega) (Ev.iY (by omega) (Ev.iY (by omega) (Ev.iY (by omega) (Ev.jD (by omega) (Ev.jD (by omega) ?_)))))
 obtain ⟨r, hr, hE⟩ := H6 (s - n + 1) (List.replicate n.toNat 0) (by simp; omega) (by omega) (by omega)
 have hz : total (List.replicate n.toNat 0) = 0 := by
  generalize n.toNat = m
  induction m with
  | zero => rfl
  | succ m ih => simp only [List.replicate_succ, total, ih]; rfl
 have hr2 : r = (moreL (s - n + 1) n.toNat, true) := by
  rcases hr with ⟨_, h | h | ⟨_, h⟩⟩ | ⟨h, _⟩ | ⟨qs, _, _, hb, _⟩
  ·have := congrArg List.length h; simp at this; omega
  ·exact absurd (fun g hg => by rw [List.eq_of_mem_replicate hg]; omega) h
  ·rw [hz] at h; omega
  ·rw [h, List.length_replicate]
  ·omega
 rw [hr2] at hE
 exact Ev.bind hE (Ev.now _)
theorem U0 (s n : Int) (h : ¬ Can s n) : Ev (fun k => dO.f k s n) ([], false) := by
 unfold Can at h
 unfold dO.f
 by_cases h1 : n < 1
 ·exact Ev.jD h1 (Ev.now _)
 ·refine Ev.iY h1 ?_
  by_cases h2 : n > 20000
  ·exact Ev.jD h2 (Ev.now _)
  ·refine Ev.iY h2 ?_
   have hw1 : wrap64 (2 * n) = 2 * n := wp (by omega) (by omega)
   have hw2 : wrap64 (2 * n - 1) = 2 * n - 1 := wp (by omega) (by omega)
   rw [hw1, hw2]
   by_cases h3 : s < 2 * n - 1
   ·exact Ev.jD h3 (Ev.now _)
   ·exact Ev.iY h3 (Ev.jD (by omega) (Ev.now _))
theorem ab5 (s n : Int) (h : ¬ Can s n) : Ev (fun k => a_.f k s n) ([], false) := by
 have j : Ev (fun k => a_.j0 k s n [] true) ([], false) := by
  refine Ev.step (fun k => ?_) (Ev.now _)
  simp only [a_.j0]
  rw [if_pos trivial]
 unfold Can at h
 unfold a_.f
 refine Ev.congr (f := fun k => _) (fun k => Option.bind_some _ _) ?_
 by_cases h1 : n < 1
 ·exact Ev.jD h1 j
 ·refine Ev.iY h1 ?_
  by_cases h2 : n > 20000
  ·exact Ev.jD h2 j
  ·refine Ev.iY h2 ?_
   have hw1 : wrap64 (2 * n) = 2 * n := wp (by omega) (by omega)
   have hw2 : wrap64 (2 * n - 1) = 2 * n - 1 := wp (by omega) (by omega)
   rw [hw1, hw2]
   by_cases h3 : s < 2 * n - 1
   ·exact Ev.jD h3 j
   ·refine Ev.iY h3 ?_
    rw [decide_eq_true (by omega)]
    exact j
theorem ab6 (s n : Int) (h : Can s n) : Ev (fun k => a_.f k s n) (moreL (s - n + 1) n.toNat, true) := by
 obtain ⟨h1, h2, h3, h4⟩ := h
 have q0 : 0 ≤ (s - n + 1) / n := Int.ediv_nonneg (by omega) (by omega)
 have q1 : (s - n + 1) / n ≤ s - n + 1 := Int.ediv_le_self _ (by omega)
 have HW6 := ae.mk (wp (x := (s - n + 1) / n + 1) (by omega) (by omega))
 have key : ∀ d i, i + d = n.toNat → Ev (fun k => a_.l0 k n ((moreL (s - n + 1) n.toNat).take i) ((s - n + 1) / n) ((s - n + 1) % n) (i : Nat)) (moreL (s - n + 1) n.toNat, true) := by
  intro d
  induction d with
  | zero =>
   intro i hi
   refine Ev.step (fun k => ?_) (Ev.now _)
   simp only [a_.l0]
   rw [if_neg (by omega), List.take_of_length_le (by rw [lN]; omega)]
  | succ d ih =>
   intro i hi
   refine Ev.step (fun k => ?_) (ih (i + 1) (by omega))
   have hi' : i < (moreL (s - n + 1) n.toNat).length := by rw [lN]; omega
   have e : (moreL (s - n + 1) n.toNat).take (i + 1) = (moreL (s - n + 1) n.toNat).take i ++ [jX (s - n + 1) n (i : Nat)] := by
    rw [List.take_succ_eq_append_getElem hi']
    congr 2
    simp only [moreL, List.getElem_map, List.getElem_range]
    rw [show ((n.toNat : Nat) : Int) = n by omega]
   have hl0 : ((moreL (s - n + 1) n.toNat).take i).length ≤ 20000 := by rw [List.length_take, lN]; omega
   have hwi : wrap64 ((i : Int) + 1) = ((i + 1 : Nat) : Int) := by rw [wp (by omega) (by omega)]; omega
   have hin : (i : Int) < n := by omega
   have hl : ((moreL (s - n + 1) n.toNat).take i).length < 17592186044416 := Nat.lt_of_le_of_lt hl0 (by decide)
   simp only [a_.l0]
   rw [if_pos hin, HW6.out, hwi, e, if_pos hl]
   unfold jX
   by_cases hc : (i : Int) < (s - n + 1) % n
   ·rw [if_pos hc, if_pos hc]
   ·rw [if_neg hc, if_neg hc, if_pos hl, Int.add_zero]
 have hw1 : wrap64 (2 * n) = 2 * n := wp (by omega) (by omega)
 have hw2 : wrap64 (2 * n - 1) = 2 * n - 1 := wp (by omega) (by omega)
 have hw3 : wrap64 (n - 1) = n - 1 := wp (by omega) (by omega)
 have hw4 : wrap64 (s - (n - 1)) = s - n + 1 := by rw [wp (by omega) (by omega)]; omega
 have hw5 : wrap64 ((s - n + 1) / n) = (s - n + 1) / n := wp (by omega) (by omega)
 unfold a_.f
 refine Ev.congr (f := fun k => _) (fun k => Option.bind_some _ _) ?_
 rw [hw1, hw2, decide_eq_false (by omega)]
 refine Ev.iY (by omega) (Ev.iY (by omega) (Ev.iY (by omega) ?_))
 refine Ev.step (f := fun k => a_.l0 k n [] ((s - n + 1) / n) ((s - n + 1) % n) 0) (fun k => ?_) ?_
 ·simp only [a_.j0]
  rw [if_neg (by simp), if_neg (by omega), hw3, hw4, Int.tdiv_eq_ediv_of_nonneg (by omega), Int.tmod_eq_emod_of_nonneg (by omega), hw5]
 ·have := key n.toNat 0 (by omega)
  simpa using this
end Go.Proofs.Ytfdmfgaiblfbhaa.Pure
namespace Go.Proofs.Ytfdmfgaiblfbhaa.P
open Go.RowKit Go.Proofs.ag.aV Go.Proofs.ag.bM Go.Proofs.ag.di
theorem BR : ∀ (N : Nat), (∀ c : ai, sz c ≤ N → ∀ x y, sz (aQ c x y) = sz c) ∧ (∀ l : List ai, fV l ≤ N → ∀ a x y, fV (lC a l x y) = fV l) := by
 intro N
 induction N with
 | zero => exact ⟨fun c h => by rw [dR] at h; omega, fun l h a x y => by cases l with
  | nil => rw [sD]
  | cons k ks => rw [dU] at h; have := dR k; omega⟩
 | succ N ih =>
  have hC : ∀ c : ai, sz c ≤ N + 1 → ∀ x y, sz (aQ c x y) = sz c := fun c h x y => by
   rw [xm, dR, dR c]
   show 1 + fV (lC c.f0 c.f3 x y) = _
   rw [ih.2 c.f3 (by rw [dR] at h; omega)]
  refine ⟨hC, fun l => ?_⟩
  induction l with
  | nil => intro _ a x y; rw [sD]
  | cons k ks ihl =>
   intro h a x y
   rw [vW, dU, dU]
   rw [dU] at h
   rw [hC k (by omega), ihl (by omega)]
def zg (k : Int) : Int := ((k - 2) % 256 + 1) % 256
noncomputable def o5 (s n : Int) : List Int × Bool := by
 classical
 exact if Pure.Can s n then (moreL (s - n + 1) n.toNat, true) else ([], false)
theorem ach (s n : Int) : Ev (fun k => dO.f k s n) (o5 s n) := by
 unfold o5
 by_cases h : Pure.Can s n
 ·rw [if_pos h]; exact Pure.U1 s n h
 ·rw [if_neg h]; exact Pure.U0 s n h
theorem YP (s n : Int) : Ev (fun k => a_.f k s n) (o5 s n) := by
 unfold o5
 by_cases h : Pure.Can s n
 ·rw [if_pos h]; exact Pure.ab6 s n h
 ·rw [if_neg h]; exact Pure.ab5 s n h
theorem Nb {s : Int} {n : Nat} (h : (o5 s n).2 = true) : (o5 s n).1.length = n := by
 unfold o5 at h ⊢
 split at h
 ·rename_i hc
  rw [if_pos hc]
  rw [lN]
  simp
 ·cases h
noncomputable def pF (ax : Int) (k : ai) (n : Int) : Int := aN ax (aQ k 0 0) (wrap64 (n - bC ax k.f1))
noncomputable def cO (ax : Int) (k : ai) (n : Int) : ai := aZ ax (aQ k 0 0) (wrap64 (n - bC ax k.f1))
noncomputable def jv (ax : Int) (ns : Nat → Int) : Nat → List ai → List ai
 | _, [] => []
 | i, k :: ks => cO ax k (ns i) :: jv ax ns (i + 1) ks
noncomputable def pG (ax : Int) (ns : Nat → Int) : Nat → List ai → Bool
 | _, [] => false
 | i, k :: ks => (pF ax k (ns i) != 0) || pG ax ns (i + 1) ks
theorem sS (ax : Int) (ns : Nat → Int) : ∀ (l : List ai) (i : Nat), (jv ax ns i l).length = l.length := by
 intro l
 induction l with
 | nil => intro i; rfl
 | cons k ks ih => intro i; simp only [jv, List.length_cons, ih]
theorem EM (ax : Int) (ns : Nat → Int) (k : ai) : ∀ (l : List ai) (i : Nat), jv ax ns i (l ++ [k]) = jv ax ns i l ++ [cO ax k (ns (i + l.length))] := by
 intro l
 induction l with
 | nil => intro i; simp [jv]
 | cons x xs ih => intro i; simp only [List.cons_append, jv, ih, List.length_cons]; rw [show i + 1 + xs.length = i + (xs.length + 1) by omega]
theorem yE (ax : Int) (ns : Nat → Int) (b : List ai) : ∀ (a : List ai) (i : Nat), pG ax ns i (a ++ b) = (pG ax ns i a || pG ax ns (i + a.length) b) := by
 intro a
 induction a with
 | nil => intro i; simp [pG]
 | cons x xs ih => intro i; simp only [List.cons_append, pG, ih, List.length_cons, Bool.or_assoc]; rw [show i + 1 + xs.length = i + (xs.length + 1) by omega]
theorem Uk (ax : Int) (ns : Nat → Int) (pre : List ai) (k : ai) (rest : List ai) : (jv ax ns 0 pre ++ k :: rest).set pre.length (cO ax k (ns pre.length)) = jv ax ns 0 (pre ++ [k]) ++ rest := by
 rw [EM, List.append_assoc, List.set_append_right _ _ (by rw [sS]; exact Nat.le_refl _), sS, Nat.sub_self, List.set_cons_zero, Nat.zero_add]
 rfl
theorem Yp (ax : Int) (ns : Nat → Int) (pre : List ai) (k : ai) (rest : List ai) : aI (jv ax ns 0 pre ++ k :: rest) (pre.length : Int) = k := by
 have := iZ (jv ax ns 0 pre) k rest
 rw [sS] at this
 exact this
noncomputable def jI (c : ai) : List ai × Int :=
 if c.f0 = 1 then ([], 10) else if (o5 (bC (zg c.f0) c.f1) (c.f3.length : Int)).2 = false then ([], 7)
 else if pG (zg c.f0) (fun i => rd (o5 (bC (zg c.f0) c.f1) (c.f3.length : Int)).1 (i : Int)) 0 c.f3 = true then ([], 7)
 else (jv (zg c.f0) (fun i => rd (o5 (bC (zg c.f0) c.f1) (c.f3.length : Int)).1 (i : Int)) 0 c.f3, 0)
noncomputable def cZ : Nat → ai → ai
 | 0, c => c
 | n + 1, c => ⟨c.f0, c.f1, c.f2, (if (jI c).2 = 0 then (jI c).1 else c.f3).map (cZ n)⟩
theorem ac4 (ax : Int) (c : ai) (b : Int) : sz (aZ ax c b) ≤ sz c := by
 have h1 := dR c
 unfold aZ
 split
 ·rw [show sz z26 = 1 by decide]; omega
 ·split
  ·rw [show sz z26 = 1 by decide]; omega
  ·rw [(BR _).1 _ (Nat.le_refl _), (Jh ax _).1 _ (Nat.le_refl _)]; exact Nat.le_refl _
theorem Ui (ax : Int) (ns : Nat → Int) : ∀ (l : List ai) (i : Nat), fV (jv ax ns i l) ≤ fV l := by
 intro l
 induction l with
 | nil => intro i; exact Nat.le_refl _
 | cons k ks ih =>
  intro i
  simp only [jv]
  rw [dU, dU]
  have h1 := ac4 ax (aQ k 0 0) (wrap64 (ns i - bC ax k.f1))
  rw [(BR _).1 _ (Nat.le_refl _)] at h1
  have h2 := ih (i + 1)
  unfold cO
  omega
theorem DX (c : ai) : fV (if (jI c).2 = 0 then (jI c).1 else c.f3) ≤ fV c.f3 := by
 split
 ·unfold jI
  split
  ·rw [qf]; omega
  ·split
   ·rw [qf]; omega
   ·split
    ·rw [qf]; omega
    ·exact Ui _ _ _ _
 ·exact Nat.le_refl _
theorem Ky : ∀ (n : Nat) (c : ai), sz (cZ n c) ≤ sz c := by
 intro n
 induction n with
 | zero => intro c; exact Nat.le_refl _
 | succ n ih =>
  intro c
  have hm : ∀ l : List ai, fV (l.map (cZ n)) ≤ fV l := by
   intro l
   induction l with
   | nil => exact Nat.le_refl _
   | cons x xs ihl => rw [List.map_cons, dU, dU]; have := ih x; omega
  have h1 := hm (if (jI c).2 = 0 then (jI c).1 else c.f3)
  have h2 := DX c
  simp only [cZ]
  rw [dR, dR c]
  show 1 + fV ((if (jI c).2 = 0 then (jI c).1 else c.f3).map (cZ n)) ≤ _
  omega
noncomputable def NL (c : ai) : Int := if fB c = true then 0 else 1
noncomputable def nX (c : ai) : ai := if fB c = true then aQ (cZ 100000 c) c.f1.f0 c.f1.f1 else z26
theorem Yx (f : ai → ai) (pre : List ai) (k : ai) (rest : List ai) : (pre.map f ++ k :: rest).set pre.length (f k) = (pre ++ [k]).map f ++ rest := by
 rw [List.map_append, List.append_assoc, List.set_append_right _ _ (by rw [List.length_map]; exact Nat.le_refl _), List.length_map, Nat.sub_self, List.set_cons_zero]
 rfl
theorem abN (f : ai → ai) (pre : List ai) (k : ai) (rest : List ai) : aI (pre.map f ++ k :: rest) (pre.length : Int) = k := by
 have := iZ (pre.map f) k rest
 rw [List.length_map] at this
 exact this
section
variable {W : World} {b : Nat} {P : Nat → Prop} {A : Option Addr} {cc : Nat}
theorem YL (s n : Int) : Calls Try.prog 53 #[.int .i64 s, .int .i64 n] W fun e w' => ∃ A' c', e = .returned (.tuple #[.slice A' (o5 s n).1.length c', .bool (o5 s n).2]) ∧ (Kd.int .i64).R 3 w' W.heap.size (fun _ => True) (.slice A' (o5 s n).1.length c') (o5 s n).1 ∧ Below W.heap.size W w' := by
 obtain ⟨k, hk⟩ := (ach s n).rounds
 exact (dO.calls k s n _ _ W hk).mono (fun e w' ⟨v, he, hR, hB⟩ => by
  obtain ⟨A', c', rfl⟩ := Kd.fG hR
  exact ⟨A', c', he, hR, hB⟩)
theorem UR (s n : Int) : Calls Try.prog 54 #[.int .i64 s, .int .i64 n] W fun e w' => ∃ A' c', e = .returned (.tuple #[.slice A' (o5 s n).1.length c', .bool (o5 s n).2]) ∧ (Kd.int .i64).R 3 w' W.heap.size (fun _ => True) (.slice A' (o5 s n).1.length c') (o5 s n).1 ∧ Below W.heap.size W w' := by
 obtain ⟨k, hk⟩ := (YP s n).rounds
 exact (a_.calls k s n _ _ W hk).mono (fun e w' ⟨v, he, hR, hB⟩ => by
  obtain ⟨A', c', rfl⟩ := Kd.fG hR
  exact ⟨A', c', he, hR, hB⟩)
end
abbrev SV (w : World) (P : Nat → Prop) (l : List ai) (n : Int) (e : Ending) (w' : World) : Prop := ∃ A c, e = .returned (.tuple #[.slice A l.length c, .int .i64 n]) ∧ Kd.V k26 26 w' w.heap.size (fun k => P k ∨ w.heap.size ≤ k) (.slice A l.length c) l ∧ Below w.heap.size w w'
def tq.T18 : Bool × List (List Nat × List Nat) := (true, [([], []), ([0], [0]), ([], []), ([], []), ([], []), ([], []), ([3, 4, 5], [3, 4, 5]), ([1, 2, 0, 1, 2, 3, 4, 5, 6], [1, 2]), ([7, 6, 6, 0, 1, 2, 3, 4, 5, 6], [6, 7])])
def tq.B18 : List Nat := [0, 1, 0, 0, 0, 0, 56, 127, 255]
theorem tq.ad6 : iP .any (opsOf Try.f199 18) = tq.T18 := by kernel_rfl
theorem tq.Z4 : iL tq.T18.2 tq.B18 = true := by kernel_rfl
theorem Wy {W : World} {b : Nat} {P : Nat → Prop} {A : Option Addr} {n cc : Nat} (c : ai) (ax : Int) (hV : Kd.V k26 26 W b P (.slice A n cc) c.f3) :
  Calls Try.prog 99 #[.agg #[.int .u8 c.f0, .int .i64 c.f1.f0, .int .i64 c.f1.f1, .int .i64 c.f1.f2, .int .i64 c.f1.f3, .int .i64 c.f2, .slice A n cc], .int .u8 ax] W fun e w' => e = .returned (.bool (jf ax c.f0)) ∧ Below W.heap.size W w' := by
 obtain rfl := (Kd.kz hV).1
 exact Wx c ax hV
theorem ZR (ax : Int) : ∀ (N : Nat) (c : ai), sz c ≤ N → N ≤ 100000 → ∀ (bg : Int), (-2147483647 ≤ bg ∧ bg ≤ 2147483647) → ∀ (P : Nat → Prop) (A : Option Addr) (cc : Nat) (w : World), Kd.V k26 26 w w.heap.size P (.slice A c.f3.length cc) c.f3 →
  Calls Try.prog 199 #[.agg #[.int .u8 c.f0, .int .i64 c.f1.f0, .int .i64 c.f1.f1, .int .i64 c.f1.f2, .int .i64 c.f1.f3, .int .i64 c.f2, .slice A c.f3.length cc], .int .u8 ax, .int .i64 bg] w (tY w P (dD ax c bg)) := by
 intro N
 induction N with
 | zero => intro c h; rw [dR] at h; omega
 | succ N ih =>
  intro c hc hN bg hby P A cc w hv
  have hsz := dR c
  have hlen := jJ c.f3
  have hl1 : c.f3.length ≤ 100000 := by omega
  have IH := ae.mk fun (k : ai) (hk : k ∈ c.f3) (n : Int) (hn : -2147483647 ≤ n ∧ n ≤ 2147483647) P A cc w h => ih k (by have := qg hk; omega) (by omega) n hn P A cc w h
  have vJ := ae.mk fun (k : ai) (hk : k ∈ c.f3) => (show sz k ≤ 1048576 by have := qg hk; omega)
  have gy := ae.mk (show c.f3.length ≤ 1000000 by omega)
  have Hq := x_ bg (c.f3.map (dX ax)) (by simpa using hl1) hby.1 hby.2
  have hsl := Na (b := bg) (gs := c.f3.map (dX ax)) (by simpa using hl1) hby.1 hby.2
  have hsb := RP (b := bg) (gs := c.f3.map (dX ax)) (by simpa using hl1) hby.1 hby.2
  have zS := fun (Ag : Option Addr) (cg : Nat) (W : World) (hC : Kd.C (Kd.int .i64) W Ag (c.f3.map (dX ax)).length (c.f3.map (dX ax))) (h2 : (c.f3.map (dX ax)).length ≤ cg) => UY bg (c.f3.map (dX ax)) (by simpa using hl1) hby.1 hby.2 hC h2
  have rP : ∀ i, MO ax c.f0 c.f3 bg i = if (oZ bg (c.f3.map (dX ax))).2 = true ∧ jf ax c.f0 = true then rd (oZ bg (c.f3.map (dX ax))).1 (i : Int) else bg := fun i => rfl
  rw [Fq]
  have S := ae.mk (St.start (ts := [(.slice A c.f3.length cc, c.f3)]) (b0 := w.heap.size) (w := w) (P := P) (fun t ht => by rw [List.mem_singleton.1 ht]; exact hv))
  obtain ⟨ck, ⟨cx, cy, cw, ch⟩, aj, l⟩ := c
  simp only [] at S IH vJ gy Hq hsl hsb zS rP hl1 ⊢
  obtain ⟨gw, hgw⟩ : ∃ gw, gw = if ax = 1 then wrap64 (cw + bg) else cw := ⟨_, rfl⟩
  obtain ⟨gh, hgh⟩ : ∃ gh, gh = if ax = 1 then ch else wrap64 (ch + bg) := ⟨_, rfl⟩
  simp only [grow]
  rw [← hgw, ← hgh]
  generalize MO ax ck l bg = NS at rP ⊢
  obtain ⟨⟨sl, ok⟩, hsp⟩ : ∃ sp, sp = oZ bg (l.map (dX ax)) := ⟨_, rfl⟩
  simp only [← hsp, List.length_map] at hsl hsb zS rP
  have Zy := ae.mk (show ∀ i, i < l.length → -2147483647 ≤ NS i ∧ NS i ≤ 2147483647 from fun i hi => by
   rw [rP i]
   split
   ·rename_i h
    exact hsb _ (by unfold rd; rw [List.getD_eq_getElem?_getD, List.getElem?_eq_getElem (by rw [hsl h.1]; simpa using hi)]; exact List.getElem_mem _)
   ·exact hby)
  have xw := ae.mk hsl
  have Dj := ae.mk rP
  have Pz := ae.mk zS
  have Di := ae.mk hgw
  have IM := ae.mk hgh
  have HL1 := ae.mk hl1
  clear ih hc hN hby hv hsz hlen Hq hsl hsb zS rP hgw hgh hsp hl1
  go_enter Try.func199, Try.ntmps199
  go_upto_if 16 with (first
   | ((with_reducible refine az 3 rfl ?_); refine boxS 3 #[.int .u8 ck, .int .i64 cx, .int .i64 cy, .int .i64 cw, .int .i64 ch, .int .i64 aj, .slice A l.length cc] 26 S ?_; clear S; intro b3 fF S)
   | ((with_reducible refine az 6 rfl ?_); refine boxS 6 #[.int .u8 0, .int .i64 0, .int .i64 0, .int .i64 0, .int .i64 0, .int .i64 0, .slice none 0 0] 26 S ?_; clear S; intro b6 iw S)
   | fail)
  go_cut [] (fun wc => ae (St w P [(some b6, .cells #[.int .u8 0, .int .i64 0, .int .i64 0, .int .i64 0, .int .i64 0, .int .i64 0, .slice none 0 0] 26 (0, 0)), (some b3, .cells #[.int .u8 ck, .int .i64 cx, .int .i64 cy, .int .i64 gw, .int .i64 gh, .int .i64 aj, .slice A l.length cc] 26 (0, 0))] [] [(.slice A l.length cc, l)] [] wc))
  case first =>
   by_cases hx : ax = 1
   ·have hxb : (ax == 1) = true := beq_iff_eq.mpr hx
    have HX := ae.mk hx
    clear hx
    have bW := (S.out.at (.tail _ (.head _)) 3).trans rfl
    go_wp2_with (first
     | ((with_reducible refine fP 3 (.tmp 23) (.tmp 21) rfl ?_); refine wM 3 23 21 #[.int .u8 ck, .int .i64 cx, .int .i64 cy, .int .i64 (wrap64 (cw + bg)), .int .i64 ch, .int .i64 aj, .slice A l.length cc] 3 1 S ?_; clear S; intro jT S; clear bW)
     | fail)
    go_meet
    case rel => rw [Di.out, IM.out, if_pos HX.out, if_pos HX.out]; exact S
   ·have hxb : (ax == 1) = false := beq_eq_false_iff_ne.mpr hx
    have HX := ae.mk hx
    clear hx
    have eG := (S.out.at (.tail _ (.head _)) 4).trans rfl
    go_wp2_with (first
     | ((with_reducible refine fP 3 (.tmp 30) (.tmp 28) rfl ?_); refine wM 3 30 28 #[.int .u8 ck, .int .i64 cx, .int .i64 cy, .int .i64 cw, .int .i64 (wrap64 (ch + bg)), .int .i64 aj, .slice A l.length cc] 4 1 S ?_; clear S; intro lQ S; clear eG)
     | fail)
    go_meet
    case rel => rw [Di.out, IM.out, if_neg HX.out, if_neg HX.out]; exact S
  case rest =>
   clear S Di IM
   rename World => wx
   have S := hcut
   clear hcut
   have dH := (S.out.at (.tail _ (.head _)) 6).trans rfl
   go_wp2_with (first
    | ((with_reducible refine az 33 rfl ?_); refine Oc (some 33) Try.func137 S (FC l gy.out (S.out.tree _ (.head _))) ?_; clear S; intro A1 c1 tC S; clear dH)
    | ((with_reducible refine fP 24 (.tmp 34) (.tmp 33) rfl ?_); refine wM 24 34 33 #[.int .u8 ck, .int .i64 cx, .int .i64 cy, .int .i64 gw, .int .i64 gh, .int .i64 aj, .slice A1 l.length c1] 6 1 S ?_; clear S; intro Cc S; have dH := (S.out.at (.tail _ (.head _)) 6).trans rfl)
    | fail)
   clear dH
   obtain ⟨oi, S1, HI0⟩ := S.out.noI
   clear S
   go_loopg [7, 38] l.length (fun gg v7 v38 wr => ∃ (pre rest : List ai) (Ag : Option Addr) (cg : Nat) (og : Obj), v7 = .slice Ag pre.length cg ∧ v38 = .int .i64 (pre.length : Int) ∧ ae (pre ++ rest = l) ∧ rest.length ≤ gg ∧ ae (IR w.heap.size (.slice Ag pre.length cg) (pre.map (dX ax)) og) ∧ ae (St w P [((Value.slice Ag pre.length cg).ownBlock, og), (some b6, .cells #[.int .u8 0, .int .i64 0, .int .i64 0, .int .i64 0, .int .i64 0, .int .i64 0, .slice none 0 0] 26 (0, 0)), (some b3, .cells #[.int .u8 ck, .int .i64 cx, .int .i64 cy, .int .i64 gw, .int .i64 gh, .int .i64 aj, .slice A1 l.length c1] 26 (0, 0))] [(.slice A1 l.length c1, l)] [(.slice A l.length cc, l)] [] wr))
   case atStart => exact ⟨[], l, none, 0, oi, rfl, rfl, ⟨rfl⟩, Nat.le_refl _, ⟨HI0⟩, ⟨S1⟩⟩
   case round =>
    clear S1 HI0 oi
    obtain ⟨pre, rest, Ag, cg, og, rfl, rfl, HE, hgg, HI, S⟩ := hrel
    cases rest with
    | nil =>
     have hE := HE.out
     rw [List.append_nil] at hE
     have hE2 := hE.symm
     subst hE2
     clear hE HE hgg
     have hlt : ¬ ((l.length : Int) < (l.length : Int)) := by omega
     have Hq := fun W hW => Pz.out Ag cg W (by have h := (Kd.bQ (HI.out W hW)).2.2; rw [List.length_map] at h; exact h) (by have h := (Kd.bQ (HI.out W hW)).2.1; exact h)
     have Vt := ae.mk Hq
     clear Hq Pz
     go_wp2_with (first
      | ((with_reducible refine az 52 rfl ?_); refine uj (some 52) Try.func49 (Vt.out _ (S.out.blk _ (.head _))) ?_; rintro e AB ⟨As, cs, rfl, h1, hb⟩; refine ⟨_, rfl, ?_⟩; obtain ⟨os, S1, HI1⟩ := S.out.BO h1 hb; replace S := ae.mk S1; have HIS := ae.mk HI1; clear S1 HI1 h1 hb; have dH := (S.out.at (.tail _ (.tail _ (.tail _ (.head _)))) 6).trans rfl)
      | fail)
     clear dH
     go_loopg [58] l.length (fun gg v58 wr => ∃ (pre rest : List ai), v58 = .int .i64 (pre.length : Int) ∧ ae (pre ++ rest = l) ∧ rest.length ≤ gg ∧ ae (St w P [((Value.slice As sl.length cs).ownBlock, os), ((Value.slice Ag l.length cg).ownBlock, og), (some b6, .cells #[.int .u8 0, .int .i64 0, .int .i64 0, .int .i64 0, .int .i64 0, .int .i64 0, .slice none 0 0] 26 (0, 0)), (some b3, .cells #[.int .u8 ck, .int .i64 cx, .int .i64 cy, .int .i64 gw, .int .i64 gh, .int .i64 aj, .slice A1 l.length c1] 26 (0, 0))] [(.slice A1 l.length c1, (jE ax pre NS 0 ++ rest))] [(.slice A l.length cc, l)] [] wr))
     case atStart => exact ⟨[], l, rfl, ⟨rfl⟩, Nat.le_refl _, ⟨by rw [uP]; exact S.out⟩⟩
     case round =>
      clear S
      obtain ⟨pre, rest, rfl, HE, hgg, S⟩ := hrel
      cases rest with
      | nil =>
       have hE := HE.out
       rw [List.append_nil] at hE
       have hE2 := hE.symm
       subst hE2
       clear hE HE hgg
       have hlt : ¬ ((l.length : Int) < (l.length : Int)) := by omega
       obtain ⟨bT, bU, bV, bW, eG, fO, dH⟩ := St.iJ S (.tail _ (.tail _ (.tail _ (.head _))))
       go_wp2_with (first
        | ((with_reducible refine fP 26 (.tmp 6) (.tmp 83) rfl ?_); refine abX 26 6 83 #[.int .u8 ck, .int .i64 cx, .int .i64 cy, .int .i64 gw, .int .i64 gh, .int .i64 aj, .slice A1 l.length c1] 0 7 S ?_; clear S; intro Fb S; clear bT bU bV bW eG fO dH)
        | fail)
       refine bodyPost_ret (results_cell_row rfl _ _ b6 26 #[.int .u8 ck, .int .i64 cx, .int .i64 cy, .int .i64 gw, .int .i64 gh, .int .i64 aj, .slice A1 l.length c1] (0, 0) _ rfl (S.out.blk _ (.tail _ (.tail _ (.head _))) _ rfl) Try.underlying26 rfl (by kernel_rfl)) rfl ?_
       have hN := S.out.uY
       rw [List.append_nil] at hN
       simp only [tY, uO]
       exact ⟨_, _, rfl, hN, S.out.below⟩
      | cons k rest =>
       have hk : k ∈ l := by rw [← HE.out]; simp
       have hlt : (pre.length : Int) < (l.length : Int) := by rw [← HE.out, List.length_append, List.length_cons]; omega
       have hw1 : wrap64 ((pre.length : Int) + 1) = ((pre ++ [k]).length : Int) := by have := gy.out; rw [List.length_append, List.length_singleton]; unfold wrap64; omega
       have HW1 := ae.mk hw1
       have jd := ae.mk hgg
       have HK := ae.mk hk
       have AP := ae.mk (vJ.out k hk)
       have qB := ae.mk (show pre.length ≤ 1000000 by have := gy.out; omega)
       have HJ := ae.mk (show pre.length < l.length by omega)
       have yt := ae.mk (show (pre.length : Int) < ((jE ax pre NS 0 ++ k :: rest).length : Int) by rw [List.length_append, uO, List.length_cons]; omega)
       obtain ⟨g, cap, ev, _⟩ := Kd.AU S.out.uY (by have := yt.out; omega)
       injection ev with e1 e2 e3
       subst e1
       clear e2 e3 hk hgg hw1
       obtain ⟨ua, uc, S1, hcell⟩ := S.out.CQ (pre.length : Int) (Int.natCast_nonneg _) yt.out
       have hrd : aI (jE ax pre NS 0 ++ k :: rest) (pre.length : Int) = k := ZT ax NS pre k rest
       rw [hrd] at S1 hcell
       replace S := ae.mk S1
       have x0 : wr.cell? ⟨g, pre.length * 7, none⟩ = some (.int .u8 k.f0) := hcell 0 _ rfl
       have x1 : wr.cell? ⟨g, pre.length * 7 + 1, none⟩ = some (.int .i64 k.f1.f0) := hcell 1 _ rfl
       have x2 : wr.cell? ⟨g, pre.length * 7 + 2, none⟩ = some (.int .i64 k.f1.f1) := hcell 2 _ rfl
       have x3 : wr.cell? ⟨g, pre.length * 7 + 3, none⟩ = some (.int .i64 k.f1.f2) := hcell 3 _ rfl
       have x4 : wr.cell? ⟨g, pre.length * 7 + 4, none⟩ = some (.int .i64 k.f1.f3) := hcell 4 _ rfl
       have x5 : wr.cell? ⟨g, pre.length * 7 + 5, none⟩ = some (.int .i64 k.f2) := hcell 5 _ rfl
       have x6 : wr.cell? ⟨g, pre.length * 7 + 6, none⟩ = some (.slice ua k.f3.length uc) := hcell 6 _ rfl
       clear S1 hcell hrd
       go_upto_region 16 with (first
        | ((with_reducible refine az 13 rfl ?_); refine boxS 13 #[.int .u8 0, .int .i64 0, .int .i64 0, .int .i64 0, .int .i64 0, .int .i64 0, .slice none 0 0] 26 S ?_; clear S; intro b13 H9 S; clear x0 x1 x2 x3 x4 x5 x6)
        | ((with_reducible refine fP 26 (.tmp 13) (.tmp 62) rfl ?_); refine kD 26 13 62 #[.int .u8 k.f0, .int .i64 k.f1.f0, .int .i64 k.f1.f1, .int .i64 k.f1.f2, .int .i64 k.f1.f3, .int .i64 k.f2, .slice ua k.f3.length uc] 0 7 S ?_; clear S; intro Gy S)
        | fail)
       go_cut [69] (fun v69 wc => v69 = .bool (ok && jf ax ck) ∧ ae (St w P [(some b13, .cells #[.int .u8 k.f0, .int .i64 k.f1.f0, .int .i64 k.f1.f1, .int .i64 k.f1.f2, .int .i64 k.f1.f3, .int .i64 k.f2, .slice ua k.f3.length uc] 26 (0, 0)), ((Value.slice As sl.length cs).ownBlock, os), ((Value.slice Ag l.length cg).ownBlock, og), (some b6, .cells #[.int .u8 0, .int .i64 0, .int .i64 0, .int .i64 0, .int .i64 0, .int .i64 0, .slice none 0 0] 26 (0, 0)), (some b3, .cells #[.int .u8 ck, .int .i64 cx, .int .i64 cy, .int .i64 gw, .int .i64 gh, .int .i64 aj, .slice (some ⟨g, 0, none⟩) l.length c1] 26 (0, 0))] [(.slice (some ⟨g, 0, none⟩) l.length c1, (jE ax pre NS 0 ++ k :: rest))] [(.slice ua k.f3.length uc, k.f3), (.slice A l.length cc, l)] [] wc))
       case first =>
        cases ok with
        | false =>
         go_wp2
         go_meet
         case rel => exact ⟨by first | rfl | simp, S⟩
        | true =>
         obtain ⟨bT, bU, bV, bW, eG, fO, dH⟩ := St.iJ S (.tail _ (.tail _ (.tail _ (.tail _ (.head _)))))
         go_wp2_with (first
          | ((with_reducible refine az 68 rfl ?_); (refine fQ (by rfl) ?_; dsimp only); refine dN (some 68) Try.func99 S (Wy ⟨ck, ⟨cx, cy, gw, gh⟩, aj, _⟩ ax (Kd.rG (base' := 0) (S.out.own _ (.head _)))) ?_; clear S; intro Ee S; clear bT bU bV bW eG fO dH)
          | fail)
         go_meet
         case rel => exact ⟨by first | rfl | simp, S⟩
       case rest =>
        clear S
        obtain ⟨rfl, S⟩ := hcut
        rename World => wz
        go_upto_if 69 with fail
        go_cut [14] (fun v14 wc => v14 = .int .i64 (NS pre.length) ∧ ae (St w P [(some b13, .cells #[.int .u8 k.f0, .int .i64 k.f1.f0, .int .i64 k.f1.f1, .int .i64 k.f1.f2, .int .i64 k.f1.f3, .int .i64 k.f2, .slice ua k.f3.length uc] 26 (0, 0)), ((Value.slice As sl.length cs).ownBlock, os), ((Value.slice Ag l.length cg).ownBlock, og), (some b6, .cells #[.int .u8 0, .int .i64 0, .int .i64 0, .int .i64 0, .int .i64 0, .int .i64 0, .slice none 0 0] 26 (0, 0)), (some b3, .cells #[.int .u8 ck, .int .i64 cx, .int .i64 cy, .int .i64 gw, .int .i64 gh, .int .i64 aj, .slice (some ⟨g, 0, none⟩) l.length c1] 26 (0, 0))] [(.slice (some ⟨g, 0, none⟩) l.length c1, (jE ax pre NS 0 ++ k :: rest))] [(.slice ua k.f3.length uc, k.f3), (.slice A l.length cc, l)] [] wc))
        case first =>
         cases hoa : (ok && jf ax ck) with
         | false =>
          go_wp2
          go_meet
          case rel => exact ⟨by rw [Dj.out, if_neg (by intro h; rw [h.1, h.2] at hoa; cases hoa)], S⟩
         | true =>
          have hok : ok = true ∧ jf ax ck = true := by simpa using hoa
          have hsl2 : sl.length = l.length := xw.out hok.1
          have hlt2 : (pre.length : Int) < (sl.length : Int) := by rw [hsl2]; exact hlt
          obtain ⟨PO, ea, _⟩ := Kd.iE (Kd.bQ (HIS.out _ (S.out.blk _ (.tail _ (.head _))))).2.2 (pre.length : Int) (Int.natCast_nonneg _) hlt2
          subst ea
          have Py := ae.mk hok
          clear hok
          have xs := zC HIS.out (S.out.blk _ (.tail _ (.head _))) pre.length hlt2
          go_wp2
          clear xs
          go_meet
          case rel => exact ⟨by rw [Dj.out, if_pos Py.out], S⟩
        case rest =>
         clear S
         obtain ⟨rfl, S⟩ := hcut
         rename World => wy
         go_wp2
         refine jA (n := 9) (S := fun w' => St w _ _ _ _ _ w') (ds := [8]) (bA 9 0) (by kernel_rfl) rfl rfl (S.out.call (bF (Below.refl _ _))) (fun hHeld => ?_); refine f_ tq.ad6 tq.Z4 (fun au eF => ?_)
         replace S := ae.mk (S.out.call (bF (Below.refl _ _)))
         generalize wy.drew = ajG at S hHeld ⊢
         refine aG 0 74 (bA 9 1) au ?_
         refine dJ 1 75 (bA 9 3) au eF hHeld ?_ (hv := by intro w' hs_; have dH := (hs_.at (.tail _ (.tail _ (.tail _ (.tail _ (.head _))))) 6).trans rfl; go_simp; with_reducible rfl)
         refine aG 2 76 (bA 9 7) au ?_
         refine dJ 3 77 (bA 9 15) au eF hHeld ?_ (hv := by intro w' hs_; have ahh := (hs_.at (.head _) 0).trans rfl; have ahi := (hs_.at (.head _) 1).trans rfl; have ahj := (hs_.at (.head _) 2).trans rfl; have ahk := (hs_.at (.head _) 3).trans rfl; have ahl := (hs_.at (.head _) 4).trans rfl; have ahm := (hs_.at (.head _) 5).trans rfl; have ahn := (hs_.at (.head _) 6).trans rfl; go_simp; with_reducible rfl)
         refine aG 4 78 (bA 9 31) au ?_
         refine aG 5 79 (bA 9 63) au ?_
         refine gZ (i := 6) (N := some 80) (bA 9 127) rfl rfl (dG au.out (by kernel_rfl)) (by decide) (fun K hK => ?_)
         refine fM Try.func199 (by kernel_rfl) rfl #[.agg #[.int .u8 k.f0, .int .i64 k.f1.f0, .int .i64 k.f1.f1, .int .i64 k.f1.f2, .int .i64 k.f1.f3, .int .i64 k.f2, .slice ua k.f3.length uc], .int .u8 ax, .int .i64 (NS pre.length)] (by rfl) rfl rfl (by (try simp only [List.map_toArray, List.map_cons, List.map_nil]); first | done | rfl) ?_
         refine (IH.out k HK.out (NS pre.length) (Zy.out _ HJ.out) _ ua uc _ (fK (S.out.tree _ (.head _)))).mono ?_
         rintro e KG ⟨Av, cv, rfl, h1, hb⟩
         refine ⟨_, rfl, ?_⟩
         replace S := ae.mk (S.out.res (Kd.rG (base' := 0) h1) hb)
         clear h1 hb
         refine hK.out _ _ S.out.bH (fun hHeld => ?_)
         clear hK K
         refine ed 80 ?_
         refine aG 7 81 (bA 9 255) au ?_
         refine qX (i := 8) (N := none) (bA 9 511) rfl rfl (dG au.out (by kernel_rfl)) (by decide) (fun K hK => ?_)
         refine MX (pre.length : Int) (dD ax k (NS pre.length)) (.tmp 81) (.tmp 80) rfl S.out (by rfl) rfl (Int.natCast_nonneg _) yt.out (by first | rfl | (go_simp; rfl)) rfl (by kernel_rfl) (.head _) ?_
         intro U9 S1
         rw [show (jE ax pre NS 0 ++ k :: rest).set (pre.length : Int).toNat (dD ax k (NS pre.length)) = jE ax (pre ++ [k]) NS 0 ++ rest from Wv ax NS pre k rest] at S1
         replace S := ae.mk S1
         clear S1
         refine hK.out _ _ ?_
         clear hK K
         refine kG (iK au.out (by kernel_rfl)) ?_
         clear hHeld
         go_wp2
         have hw1 := HW1.out
         go_wp2
         go_roundg rest.length
         case measure => exact Nat.lt_of_lt_of_le (Nat.lt_succ_self _) jd.out
         case rel => exact ⟨pre ++ [k], rest, (by rw [hw1]), ⟨by rw [List.append_assoc]; exact HE.out⟩, Nat.le_refl _, ⟨S.out.eH.bH.bH⟩⟩
    | cons k rest =>
     have hk : k ∈ l := by rw [← HE.out]; simp
     have hlt : (pre.length : Int) < (l.length : Int) := by rw [← HE.out, List.length_append, List.length_cons]; omega
     have hw1 : wrap64 ((pre.length : Int) + 1) = ((pre ++ [k]).length : Int) := by have := gy.out; rw [List.length_append, List.length_singleton]; unfold wrap64; omega
     have HW1 := ae.mk hw1
     have jd := ae.mk hgg
     have HK := ae.mk hk
     have AP := ae.mk (vJ.out k hk)
     have qB := ae.mk (show pre.length ≤ 1000000 by have := gy.out; omega)
     have HJ := ae.mk (show pre.length < l.length by omega)
     have yt := ae.mk (show (pre.length : Int) < ((l).length : Int) by omega)
     obtain ⟨g, cap, ev, _⟩ := Kd.AU S.out.uY (by have := yt.out; omega)
     injection ev with e1 e2 e3
     subst e1
     clear e2 e3 hk hgg hw1
     obtain ⟨ua, uc, S1, hcell⟩ := S.out.CQ (pre.length : Int) (Int.natCast_nonneg _) yt.out
     have hrd : aI (l) (pre.length : Int) = k := (by rw [← HE.out]; exact iZ pre k rest)
     rw [hrd] at S1 hcell
     replace S := ae.mk S1
     have x0 : wr.cell? ⟨g, pre.length * 7, none⟩ = some (.int .u8 k.f0) := hcell 0 _ rfl
     have x1 : wr.cell? ⟨g, pre.length * 7 + 1, none⟩ = some (.int .i64 k.f1.f0) := hcell 1 _ rfl
     have x2 : wr.cell? ⟨g, pre.length * 7 + 2, none⟩ = some (.int .i64 k.f1.f1) := hcell 2 _ rfl
     have x3 : wr.cell? ⟨g, pre.length * 7 + 3, none⟩ = some (.int .i64 k.f1.f2) := hcell 3 _ rfl
     have x4 : wr.cell? ⟨g, pre.length * 7 + 4, none⟩ = some (.int .i64 k.f1.f3) := hcell 4 _ rfl
     have x5 : wr.cell? ⟨g, pre.length * 7 + 5, none⟩ = some (.int .i64 k.f2) := hcell 5 _ rfl
     have x6 : wr.cell? ⟨g, pre.length * 7 + 6, none⟩ = some (.slice ua k.f3.length uc) := hcell 6 _ rfl
     clear S1 hcell hrd
     go_wp2_with (first
      | ((with_reducible refine az 9 rfl ?_); refine boxS 9 #[.int .u8 0, .int .i64 0, .int .i64 0, .int .i64 0, .int .i64 0, .int .i64 0, .slice none 0 0] 26 S ?_; clear S; intro b9 O7 S; clear x0 x1 x2 x3 x4 x5 x6)
      | ((with_reducible refine fP 26 (.tmp 9) (.tmp 41) rfl ?_); refine kD 26 9 41 #[.int .u8 k.f0, .int .i64 k.f1.f0, .int .i64 k.f1.f1, .int .i64 k.f1.f2, .int .i64 k.f1.f3, .int .i64 k.f2, .slice ua k.f3.length uc] 0 7 S ?_; clear S; intro U_ S; obtain ⟨qo, wV, qU, wW, EF, Ir, Iu⟩ := St.iJ S (.head _))
      | ((with_reducible refine az 45 rfl ?_); refine dN (some 45) Try.func86 S (CU k ax AP.out (S.out.tree _ (.head _))) ?_; clear S; intro acm S; clear qo wV qU wW EF Ir Iu)
      | ((with_reducible refine aC (N := 47) rfl ?_); at_builtin; go_loud (refine WA (.tmp 42) (.tmp 46) rfl rfl Try.underlying41 info3 S.out.E5 HI.out (dX ax k) rfl (by first | (go_simp; done) | (go_simp; rfl)) (by have := qB.out; simp only [List.length_map]; omega) ?_); intro Zf cg2 og2 Va S1 I1; rw [show (pre.map (dX ax) ++ [dX ax k]).length = (pre ++ [k]).length by simp] at S1 I1 ⊢; replace S := ae.mk S1.E5; have HI2 := ae.mk I1; clear S1 I1 HI)
      | fail)
     have hw1 := HW1.out
     go_wp2
     go_roundg rest.length
     case measure => exact Nat.lt_of_lt_of_le (Nat.lt_succ_self _) jd.out
     case rel => exact ⟨pre ++ [k], rest, Zf, cg2, og2, (by simp), (by rw [hw1]), ⟨by rw [List.append_assoc]; exact HE.out⟩, Nat.le_refl _, ⟨by rw [List.map_append]; exact HI2.out⟩, ⟨S.out.eH.bH⟩⟩
def v_.T6 : Bool × List (List Nat × List Nat) := (true, [([], []), ([], []), ([], []), ([0, 1, 2], [0, 1, 2]), ([], []), ([4], [4]), ([5], [5]), ([], []), ([7], [7]), ([8], [8]), ([3, 6, 9, 3], [3, 6, 9]), ([10, 10, 0, 1, 2, 3, 4, 5, 6, 7, 8, 9, 10], [10]), ([11, 0, 1, 2, 3, 4, 5, 6, 7, 8, 9, 10, 11], [])])
def v_.B6 : List Nat := [0, 0, 0, 7, 0, 16, 48, 0, 128, 384, 1023, 2047, 4095]
theorem v_.tab6 : iP .any (opsOf Try.f183 6) = v_.T6 := by kernel_rfl
theorem v_.CJ : iL v_.T6.2 v_.B6 = true := by kernel_rfl
theorem yz (ax : Int) (c : ai) (hz : sz c ≤ 1048576) (bg : Int) (P : Nat → Prop) (A : Option Addr) (cc : Nat) (w : World) (hv : Kd.V k26 26 w w.heap.size P (.slice A c.f3.length cc) c.f3) :
  Calls Try.prog 183 #[.agg #[.int .u8 c.f0, .int .i64 c.f1.f0, .int .i64 c.f1.f1, .int .i64 c.f1.f2, .int .i64 c.f1.f3, .int .i64 c.f2, .slice A c.f3.length cc], .int .u8 ax, .int .i64 bg] w (yu w P (aZ ax c bg) (aN ax c bg)) := by
 have S := ae.mk (St.start (ts := [(.slice A c.f3.length cc, c.f3)]) (b0 := w.heap.size) (w := w) (P := P) (fun t ht => by rw [List.mem_singleton.1 ht]; exact hv))
 have HZ := ae.mk hz
 obtain ⟨ck, ⟨cx, cy, cw, ch⟩, aj, l⟩ := c
 simp only [] at S
 clear hv hz
 cases ht : fB ⟨ck, ⟨cx, cy, cw, ch⟩, aj, l⟩ with
 | false =>
  have HB := ae.mk (show qi ax ⟨ck, ⟨cx, cy, cw, ch⟩, aj, l⟩ = true by unfold qi; rw [ht]; rfl)
  go_enter Try.func183, Try.ntmps183
  go_wp2_with (first
   | ((with_reducible refine az 3 rfl ?_); refine boxS 3 #[.int .u8 ck, .int .i64 cx, .int .i64 cy, .int .i64 cw, .int .i64 ch, .int .i64 aj, .slice A l.length cc] 26 S ?_; clear S; intro b3 fF S)
   | ((with_reducible refine az 6 rfl ?_); refine boxS 6 #[.int .u8 0, .int .i64 0, .int .i64 0, .int .i64 0, .int .i64 0, .int .i64 0, .slice none 0 0] 26 S ?_; clear S; intro b6 iw S; obtain ⟨bT, bU, bV, bW, eG, fO, dH⟩ := St.iJ S (.tail _ (.head _)))
   | ((with_reducible refine aC (N := 10) rfl ?_); refine xg (N := 10) rfl rfl ⟨ck, ⟨cx, cy, cw, ch⟩, aj, l⟩ S.out (S.out.tree _ (.head _)) ?hr ?_; (case hr => first | (go_simp; done) | (go_simp; rfl)); intro Sz TB jT S1 h1 h2; replace S := ae.mk S1; have xq := ae.mk h1; have yU := ae.mk h2; clear S1 h1 h2; clear bT bU bV bW eG fO dH)
   | ((with_reducible refine az 11 rfl ?_); refine dN (some 11) Try.func148 S (xn ⟨ck, ⟨cx, cy, cw, ch⟩, aj, l⟩ HZ.out yU.out xq.out) ?_; clear S; intro lQ S)
   | ((with_reducible refine fP 26 (.tmp 6) (.tmp 21) rfl ?_); refine kD 26 6 21 #[.int .u8 0, .int .i64 0, .int .i64 0, .int .i64 0, .int .i64 0, .int .i64 0, .slice none 0 0] 0 7 S ?_; clear S; intro tC S)
   | fail)
  refine bodyPost_ret (gJ rfl _ _ b6 26 #[.int .u8 0, .int .i64 0, .int .i64 0, .int .i64 0, .int .i64 0, .int .i64 0, .slice none 0 0] (0, 0) _ rfl (S.out.blk _ (.head _) _ rfl) Try.underlying26 rfl (by kernel_rfl)) rfl ?_
  rw [show aN ax ⟨ck, ⟨cx, cy, cw, ch⟩, aj, l⟩ bg = 1 by unfold aN; rw [if_pos HB.out], show aZ ax ⟨ck, ⟨cx, cy, cw, ch⟩, aj, l⟩ bg = z26 by unfold aZ; rw [if_pos HB.out]]
  exact ⟨_, _, rfl, Kd.qm _ _ _ _ _, S.out.below⟩
 | true =>
  have HT := ae.mk ht
  by_cases hax : ax = 1 ∨ ax = 2
  ·have HB := ae.mk (show qi ax ⟨ck, ⟨cx, cy, cw, ch⟩, aj, l⟩ = false by unfold qi; rw [ht]; rcases hax with rfl | rfl <;> rfl)
   have tH := ae.mk hax
   clear ht hax
   go_enter Try.func183, Try.ntmps183
   go_upto_region 1 with (first
    | ((with_reducible refine az 3 rfl ?_); refine boxS 3 #[.int .u8 ck, .int .i64 cx, .int .i64 cy, .int .i64 cw, .int .i64 ch, .int .i64 aj, .slice A l.length cc] 26 S ?_; clear S; intro b3 fF S)
    | ((with_reducible refine az 6 rfl ?_); refine boxS 6 #[.int .u8 0, .int .i64 0, .int .i64 0, .int .i64 0, .int .i64 0, .int .i64 0, .slice none 0 0] 26 S ?_; clear S; intro b6 iw S)
    | fail)
   (try simp only [Act.put, List.setIfInBounds_toArray, List.set_cons_zero, List.set_cons_succ])
   go_cut [20] (fun v20 wc => v20 = .bool false ∧ ae (St w P [(some b6, .cells #[.int .u8 0, .int .i64 0, .int .i64 0, .int .i64 0, .int .i64 0, .int .i64 0, .slice none 0 0] 26 (0, 0)), (some b3, .cells #[.int .u8 ck, .int .i64 cx, .int .i64 cy, .int .i64 cw, .int .i64 ch, .int .i64 aj, .slice A l.length cc] 26 (0, 0))] [] [(.slice A l.length cc, l)] [] wc))
   case first =>
    by_cases h1 : ax = 1
    ·have HX := ae.mk h1
     have h1b : (ax != 1) = false := by rw [h1]; rfl
     clear h1
     obtain ⟨bT, bU, bV, bW, eG, fO, dH⟩ := St.iJ S (.tail _ (.head _))
     go_wp2_with (first
      | ((with_reducible refine aC (N := 10) rfl ?_); refine xg (N := 10) rfl rfl ⟨ck, ⟨cx, cy, cw, ch⟩, aj, l⟩ S.out (S.out.tree _ (.head _)) ?hr ?_; (case hr => first | (go_simp; done) | (go_simp; rfl)); intro Sz TB fF S1 h1 h2; replace S := ae.mk S1; have xq := ae.mk h1; have yU := ae.mk h2; clear S1 h1 h2; clear bT bU bV bW eG fO dH)
      | ((with_reducible refine az 11 rfl ?_); refine dN (some 11) Try.func148 S (qh HT.out (xn ⟨ck, ⟨cx, cy, cw, ch⟩, aj, l⟩ HZ.out yU.out xq.out)) ?_; clear S; intro iw S)
      | fail)
     go_meet
     case rel => exact ⟨by first | rfl | simp, S⟩
    ·have HX := ae.mk h1
     have h1b : (ax != 1) = true := bne_iff_ne.mpr h1
     have h2b : (ax != 2) = false := by rw [tH.out.resolve_left h1]; rfl
     clear h1
     obtain ⟨bT, bU, bV, bW, eG, fO, dH⟩ := St.iJ S (.tail _ (.head _))
     go_wp2_with (first
      | ((with_reducible refine aC (N := 10) rfl ?_); refine xg (N := 10) rfl rfl ⟨ck, ⟨cx, cy, cw, ch⟩, aj, l⟩ S.out (S.out.tree _ (.head _)) ?hr ?_; (case hr => first | (go_simp; done) | (go_simp; rfl)); intro Sz TB fF S1 h1 h2; replace S := ae.mk S1; have xq := ae.mk h1; have yU := ae.mk h2; clear S1 h1 h2; clear bT bU bV bW eG fO dH)
      | ((with_reducible refine az 11 rfl ?_); refine dN (some 11) Try.func148 S (qh HT.out (xn ⟨ck, ⟨cx, cy, cw, ch⟩, aj, l⟩ HZ.out yU.out xq.out)) ?_; clear S; intro iw S)
      | fail)
     go_meet
     case rel => exact ⟨by first | rfl | simp, S⟩
   case rest =>
    clear S
    obtain ⟨rfl, S⟩ := hcut
    rename World => wx
    have bU := (S.out.at (.tail _ (.head _)) 1).trans rfl
    have bW := (S.out.at (.tail _ (.head _)) 3).trans rfl
    have bV := (S.out.at (.tail _ (.head _)) 2).trans rfl
    have eG := (S.out.at (.tail _ (.head _)) 4).trans rfl
    go_upto_region 4 with (first
     | ((with_reducible refine az 38 rfl ?_); refine dN (some 38) Try.func98 S (zy ⟨0, 0, wrap64 (cx + cw), wrap64 (cy + ch)⟩ ax) ?_; clear S; intro fF S; clear bU bW bV eG)
     | fail)
    (try simp only [Act.put, List.setIfInBounds_toArray, List.set_cons_zero, List.set_cons_succ])
    by_cases h4 : bg < wrap64 (-(dX ax ⟨ck, ⟨cx, cy, cw, ch⟩, aj, l⟩))
    ·have Ba : decide (bg < wrap64 (-(dX ax ⟨ck, ⟨cx, cy, cw, ch⟩, aj, l⟩))) = true := decide_eq_true h4
     have HO := ae.mk (show wJ ax ⟨ck, ⟨cx, cy, cw, ch⟩, aj, l⟩ bg = true by unfold wJ; rw [Ba]; rfl)
     clear h4
     obtain ⟨bT, bU, bV, bW, eG, fO, dH⟩ := St.iJ S (.tail _ (.head _))
     go_wp2_with (first
      | ((with_reducible refine az 42 rfl ?_); refine dN (some 42) Try.func86 S (CU ⟨ck, ⟨cx, cy, cw, ch⟩, aj, l⟩ ax HZ.out (S.out.tree _ (.head _))) ?_; clear S; intro fF S; clear bT bU bV bW eG fO dH)
      | ((with_reducible refine fP 26 (.tmp 6) (.tmp 51) rfl ?_); refine kD 26 6 51 #[.int .u8 0, .int .i64 0, .int .i64 0, .int .i64 0, .int .i64 0, .int .i64 0, .slice none 0 0] 0 7 S ?_; clear S; intro iw S)
      | fail)
     refine bodyPost_ret (gJ rfl _ _ b6 26 #[.int .u8 0, .int .i64 0, .int .i64 0, .int .i64 0, .int .i64 0, .int .i64 0, .slice none 0 0] (0, 0) _ rfl (S.out.blk _ (.head _) _ rfl) Try.underlying26 rfl (by kernel_rfl)) rfl ?_
     rw [show aN ax ⟨ck, ⟨cx, cy, cw, ch⟩, aj, l⟩ bg = 7 by unfold aN; rw [if_neg (by rw [HB.out]; simp), if_pos HO.out], show aZ ax ⟨ck, ⟨cx, cy, cw, ch⟩, aj, l⟩ bg = z26 by unfold aZ; rw [if_neg (by rw [HB.out]; simp), if_pos HO.out]]
     exact ⟨_, _, rfl, Kd.qm _ _ _ _ _, S.out.below⟩
    ·have Ba : decide (bg < wrap64 (-(dX ax ⟨ck, ⟨cx, cy, cw, ch⟩, aj, l⟩))) = false := decide_eq_false h4
     by_cases h5 : bg > wrap64 (10000 - (bC ax ⟨0, 0, wrap64 (cx + cw), wrap64 (cy + ch)⟩))
     ·have EK : decide (bg > wrap64 (10000 - (bC ax ⟨0, 0, wrap64 (cx + cw), wrap64 (cy + ch)⟩))) = true := decide_eq_true h5
      have Qe : decide (wrap64 (10000 - (bC ax ⟨0, 0, wrap64 (cx + cw), wrap64 (cy + ch)⟩)) < bg) = true := decide_eq_true h5
      have HO := ae.mk (show wJ ax ⟨ck, ⟨cx, cy, cw, ch⟩, aj, l⟩ bg = true by unfold wJ; rw [Ba]; exact EK)
      clear h4 h5
      obtain ⟨bT, bU, bV, bW, eG, fO, dH⟩ := St.iJ S (.tail _ (.head _))
      go_wp2_with (first
       | ((with_reducible refine az 42 rfl ?_); refine dN (some 42) Try.func86 S (CU ⟨ck, ⟨cx, cy, cw, ch⟩, aj, l⟩ ax HZ.out (S.out.tree _ (.head _))) ?_; clear S; intro fF S; clear bT bU bV bW eG fO dH)
       | ((with_reducible refine fP 26 (.tmp 6) (.tmp 51) rfl ?_); refine kD 26 6 51 #[.int .u8 0, .int .i64 0, .int .i64 0, .int .i64 0, .int .i64 0, .int .i64 0, .slice none 0 0] 0 7 S ?_; clear S; intro iw S)
       | fail)
      refine bodyPost_ret (gJ rfl _ _ b6 26 #[.int .u8 0, .int .i64 0, .int .i64 0, .int .i64 0, .int .i64 0, .int .i64 0, .slice none 0 0] (0, 0) _ rfl (S.out.blk _ (.head _) _ rfl) Try.underlying26 rfl (by kernel_rfl)) rfl ?_
      rw [show aN ax ⟨ck, ⟨cx, cy, cw, ch⟩, aj, l⟩ bg = 7 by unfold aN; rw [if_neg (by rw [HB.out]; simp), if_pos HO.out], show aZ ax ⟨ck, ⟨cx, cy, cw, ch⟩, aj, l⟩ bg = z26 by unfold aZ; rw [if_neg (by rw [HB.out]; simp), if_pos HO.out]]
      exact ⟨_, _, rfl, Kd.qm _ _ _ _ _, S.out.below⟩
     ·have EK : decide (bg > wrap64 (10000 - (bC ax ⟨0, 0, wrap64 (cx + cw), wrap64 (cy + ch)⟩))) = false := decide_eq_false h5
      have Qe : decide (wrap64 (10000 - (bC ax ⟨0, 0, wrap64 (cx + cw), wrap64 (cy + ch)⟩)) < bg) = false := decide_eq_false h5
      have HO := ae.mk (show wJ ax ⟨ck, ⟨cx, cy, cw, ch⟩, aj, l⟩ bg = false by unfold wJ; rw [Ba]; exact EK)
      have hf := ZQ HB.out HO.out
      have HZ2 := ae.mk (show sz ⟨ck, ⟨cx, cy, cw, ch⟩, aj, l⟩ ≤ 100000 by omega)
      have HZ3 := ae.mk (show sz (dD ax ⟨ck, ⟨cx, cy, cw, ch⟩, aj, l⟩ bg) ≤ 1000000 by rw [(Jh ax _).1 _ (Nat.le_refl _)]; omega)
      have Zo := ae.mk (show -2147483647 ≤ bg ∧ bg ≤ 2147483647 by omega)
      clear hf h4 h5
      obtain ⟨bT, bU, bV, bW, eG, fO, dH⟩ := St.iJ S (.tail _ (.head _))
      go_wp2_with (first
       | ((with_reducible refine az 42 rfl ?_); refine dN (some 42) Try.func86 S (CU ⟨ck, ⟨cx, cy, cw, ch⟩, aj, l⟩ ax HZ.out (S.out.tree _ (.head _))) ?_; clear S; intro fF S; clear bT bU bV bW eG fO dH)
       | fail)
      refine jA (n := 13) (S := fun w' => St w _ _ _ _ _ w') (ds := [11]) (bA 13 0) (by kernel_rfl) rfl rfl (S.out.call (bF (Below.refl _ _))) (fun hHeld => ?_); refine f_ v_.tab6 v_.CJ (fun au eF => ?_)
      replace S := ae.mk (S.out.call (bF (Below.refl _ _)))
      generalize fF.drew = wd2 at S hHeld ⊢
      refine dJ 0 52 (bA 13 1) au eF hHeld ?_ (hv := by intro w' hs_; have bT := (hs_.at (.tail _ (.head _)) 0).trans rfl; have bU := (hs_.at (.tail _ (.head _)) 1).trans rfl; have bV := (hs_.at (.tail _ (.head _)) 2).trans rfl; have bW := (hs_.at (.tail _ (.head _)) 3).trans rfl; have eG := (hs_.at (.tail _ (.head _)) 4).trans rfl; have fO := (hs_.at (.tail _ (.head _)) 5).trans rfl; have dH := (hs_.at (.tail _ (.head _)) 6).trans rfl; go_simp; with_reducible rfl)
      refine aG 1 53 (bA 13 3) au ?_
      refine aG 2 54 (bA 13 7) au ?_
      refine aG 4 56 (bA 13 23) au ?_
      refine aG 5 57 (bA 13 55) au ?_
      refine dJ 6 58 (bA 13 119) au eF hHeld ?_ (hv := by intro w' hs_; have bU := (hs_.at (.tail _ (.head _)) 1).trans rfl; go_simp; with_reducible rfl)
      refine aG 7 59 (bA 13 247) au ?_
      refine aG 8 60 (bA 13 503) au ?_
      refine dJ 9 61 (bA 13 1015) au eF hHeld ?_ (hv := by intro w' hs_; have bV := (hs_.at (.tail _ (.head _)) 2).trans rfl; go_simp; with_reducible rfl)
      refine gZ (i := 3) (N := some 55) (bA 13 1023) rfl rfl (dG au.out (by kernel_rfl)) (by decide) (fun K hK => ?_)
      refine fM Try.func199 (by kernel_rfl) rfl #[.agg #[.int .u8 ck, .int .i64 cx, .int .i64 cy, .int .i64 cw, .int .i64 ch, .int .i64 aj, .slice A l.length cc], .int .u8 ax, .int .i64 bg] (by rfl) rfl rfl (by (try simp only [List.map_toArray, List.map_cons, List.map_nil]); first | done | rfl) ?_
      refine (ZR ax 100000 ⟨ck, ⟨cx, cy, cw, ch⟩, aj, l⟩ HZ2.out (Nat.le_refl _) bg Zo.out _ A cc _ (fK (S.out.tree _ (.head _)))).mono ?_
      rintro e jT ⟨yS, uS, rfl, h1, hb⟩
      refine ⟨_, rfl, ?_⟩
      replace S := ae.mk (S.out.res (Kd.rG (base' := 0) h1) hb)
      clear h1 hb
      refine hK.out _ _ S.out.bH (fun hHeld => ?_)
      clear hK K
      refine ed 55 ?_
      refine gZ (i := 10) (N := some 62) (bA 13 2047) rfl rfl (dG au.out (by kernel_rfl)) (by decide) (fun K hK => ?_)
      refine fM Try.func66 (by kernel_rfl) rfl #[.agg #[.int .u8 ((dD ax ⟨ck, ⟨cx, cy, cw, ch⟩, aj, l⟩ bg).f0), .int .i64 ((dD ax ⟨ck, ⟨cx, cy, cw, ch⟩, aj, l⟩ bg).f1.f0), .int .i64 ((dD ax ⟨ck, ⟨cx, cy, cw, ch⟩, aj, l⟩ bg).f1.f1), .int .i64 ((dD ax ⟨ck, ⟨cx, cy, cw, ch⟩, aj, l⟩ bg).f1.f2), .int .i64 ((dD ax ⟨ck, ⟨cx, cy, cw, ch⟩, aj, l⟩ bg).f1.f3), .int .i64 ((dD ax ⟨ck, ⟨cx, cy, cw, ch⟩, aj, l⟩ bg).f2), .slice yS ((dD ax ⟨ck, ⟨cx, cy, cw, ch⟩, aj, l⟩ bg).f3.length) uS], .int .i64 cx, .int .i64 cy] (by rfl) rfl rfl (by (try simp only [List.map_toArray, List.map_cons, List.map_nil]); first | done | rfl) ?_
      refine (Iy (dD ax ⟨ck, ⟨cx, cy, cw, ch⟩, aj, l⟩ bg) cx cy HZ3.out (S.out.tree _ (.head _))).mono ?_
      rintro e lQ ⟨Vh, NY, rfl, h1, hb⟩
      refine ⟨_, rfl, ?_⟩
      replace S := ae.mk (S.out.Gq h1 hb)
      clear h1 hb
      refine hK.out _ _ S.out.free.bH.bH (fun hHeld => ?_)
      clear hK K
      refine ed 62 ?_
      refine qX (i := 11) (N := none) (bA 13 4095) rfl rfl (dG au.out (by kernel_rfl)) (by decide) (fun K hK => ?_)
      refine xk 0 rfl 26 (.tmp 6) (.tmp 62) rfl #[.int .u8 ((aQ (dD ax ⟨ck, ⟨cx, cy, cw, ch⟩, aj, l⟩ bg) cx cy).f0), .int .i64 ((aQ (dD ax ⟨ck, ⟨cx, cy, cw, ch⟩, aj, l⟩ bg) cx cy).f1.f0), .int .i64 ((aQ (dD ax ⟨ck, ⟨cx, cy, cw, ch⟩, aj, l⟩ bg) cx cy).f1.f1), .int .i64 ((aQ (dD ax ⟨ck, ⟨cx, cy, cw, ch⟩, aj, l⟩ bg) cx cy).f1.f2), .int .i64 ((aQ (dD ax ⟨ck, ⟨cx, cy, cw, ch⟩, aj, l⟩ bg) cx cy).f1.f3), .int .i64 ((aQ (dD ax ⟨ck, ⟨cx, cy, cw, ch⟩, aj, l⟩ bg) cx cy).f2), .slice Vh ((aQ (dD ax ⟨ck, ⟨cx, cy, cw, ch⟩, aj, l⟩ bg) cx cy).f3.length) NY] (j := 0) (u := .agg #[.int .u8 ((aQ (dD ax ⟨ck, ⟨cx, cy, cw, ch⟩, aj, l⟩ bg) cx cy).f0), .int .i64 ((aQ (dD ax ⟨ck, ⟨cx, cy, cw, ch⟩, aj, l⟩ bg) cx cy).f1.f0), .int .i64 ((aQ (dD ax ⟨ck, ⟨cx, cy, cw, ch⟩, aj, l⟩ bg) cx cy).f1.f1), .int .i64 ((aQ (dD ax ⟨ck, ⟨cx, cy, cw, ch⟩, aj, l⟩ bg) cx cy).f1.f2), .int .i64 ((aQ (dD ax ⟨ck, ⟨cx, cy, cw, ch⟩, aj, l⟩ bg) cx cy).f1.f3), .int .i64 ((aQ (dD ax ⟨ck, ⟨cx, cy, cw, ch⟩, aj, l⟩ bg) cx cy).f2), .slice Vh ((aQ (dD ax ⟨ck, ⟨cx, cy, cw, ch⟩, aj, l⟩ bg) cx cy).f3.length) NY]) (bI := [.int .u8 ((aQ (dD ax ⟨ck, ⟨cx, cy, cw, ch⟩, aj, l⟩ bg) cx cy).f0), .int .i64 ((aQ (dD ax ⟨ck, ⟨cx, cy, cw, ch⟩, aj, l⟩ bg) cx cy).f1.f0), .int .i64 ((aQ (dD ax ⟨ck, ⟨cx, cy, cw, ch⟩, aj, l⟩ bg) cx cy).f1.f1), .int .i64 ((aQ (dD ax ⟨ck, ⟨cx, cy, cw, ch⟩, aj, l⟩ bg) cx cy).f1.f2), .int .i64 ((aQ (dD ax ⟨ck, ⟨cx, cy, cw, ch⟩, aj, l⟩ bg) cx cy).f1.f3), .int .i64 ((aQ (dD ax ⟨ck, ⟨cx, cy, cw, ch⟩, aj, l⟩ bg) cx cy).f2), .slice Vh ((aQ (dD ax ⟨ck, ⟨cx, cy, cw, ch⟩, aj, l⟩ bg) cx cy).f3.length) NY]) S.out (by rfl) rfl rfl rfl rfl (by kernel_rfl) (by simp [Value.oneCell']) (by first | decide | simp) rfl ?_
      intro tC S1
      simp only [List.set_cons_zero, List.set_cons_succ] at S1
      replace S := ae.mk S1
      clear S1
      refine hK.out _ _ ?_
      clear hK K
      refine aG 12 7 (bA 13 8191) au ?_
      refine kG (iK au.out (by kernel_rfl)) ?_
      clear hHeld
      go_wp2
      refine bodyPost_ret (gJ rfl _ _ b6 26 #[.int .u8 ((aQ (dD ax ⟨ck, ⟨cx, cy, cw, ch⟩, aj, l⟩ bg) cx cy).f0), .int .i64 ((aQ (dD ax ⟨ck, ⟨cx, cy, cw, ch⟩, aj, l⟩ bg) cx cy).f1.f0), .int .i64 ((aQ (dD ax ⟨ck, ⟨cx, cy, cw, ch⟩, aj, l⟩ bg) cx cy).f1.f1), .int .i64 ((aQ (dD ax ⟨ck, ⟨cx, cy, cw, ch⟩, aj, l⟩ bg) cx cy).f1.f2), .int .i64 ((aQ (dD ax ⟨ck, ⟨cx, cy, cw, ch⟩, aj, l⟩ bg) cx cy).f1.f3), .int .i64 ((aQ (dD ax ⟨ck, ⟨cx, cy, cw, ch⟩, aj, l⟩ bg) cx cy).f2), .slice Vh ((aQ (dD ax ⟨ck, ⟨cx, cy, cw, ch⟩, aj, l⟩ bg) cx cy).f3.length) NY] (0, 0) _ rfl (S.out.blk _ (.head _) _ rfl) Try.underlying26 rfl (by kernel_rfl)) rfl ?_
      rw [show aN ax ⟨ck, ⟨cx, cy, cw, ch⟩, aj, l⟩ bg = 0 by unfold aN; rw [if_neg (by rw [HB.out]; simp), if_neg (by rw [HO.out]; simp)], show aZ ax ⟨ck, ⟨cx, cy, cw, ch⟩, aj, l⟩ bg = aQ (dD ax ⟨ck, ⟨cx, cy, cw, ch⟩, aj, l⟩ bg) cx cy by unfold aZ; rw [if_neg (by rw [HB.out]; simp), if_neg (by rw [HO.out]; simp)]]
      exact ⟨_, _, rfl, S.out.uY, S.out.below⟩
  ·have h1b : (ax != 1) = true := bne_iff_ne.mpr (fun h => hax (.inl h))
   have h2b : (ax != 2) = true := bne_iff_ne.mpr (fun h => hax (.inr h))
   have HB := ae.mk (show qi ax ⟨ck, ⟨cx, cy, cw, ch⟩, aj, l⟩ = true by unfold qi; rw [ht, h1b, h2b]; rfl)
   clear hax
   go_enter Try.func183, Try.ntmps183
   go_wp2_with (first
    | ((with_reducible refine az 3 rfl ?_); refine boxS 3 #[.int .u8 ck, .int .i64 cx, .int .i64 cy, .int .i64 cw, .int .i64 ch, .int .i64 aj, .slice A l.length cc] 26 S ?_; clear S; intro b3 fF S)
    | ((with_reducible refine az 6 rfl ?_); refine boxS 6 #[.int .u8 0, .int .i64 0, .int .i64 0, .int .i64 0, .int .i64 0, .int .i64 0, .slice none 0 0] 26 S ?_; clear S; intro b6 iw S; obtain ⟨bT, bU, bV, bW, eG, fO, dH⟩ := St.iJ S (.tail _ (.head _)))
    | ((with_reducible refine aC (N := 10) rfl ?_); refine xg (N := 10) rfl rfl ⟨ck, ⟨cx, cy, cw, ch⟩, aj, l⟩ S.out (S.out.tree _ (.head _)) ?hr ?_; (case hr => first | (go_simp; done) | (go_simp; rfl)); intro Sz TB jT S1 h1 h2; replace S := ae.mk S1; have xq := ae.mk h1; have yU := ae.mk h2; clear S1 h1 h2; clear bT bU bV bW eG fO dH)
    | ((with_reducible refine az 11 rfl ?_); refine dN (some 11) Try.func148 S (xn ⟨ck, ⟨cx, cy, cw, ch⟩, aj, l⟩ HZ.out yU.out xq.out) ?_; clear S; intro lQ S)
    | ((with_reducible refine fP 26 (.tmp 6) (.tmp 21) rfl ?_); refine kD 26 6 21 #[.int .u8 0, .int .i64 0, .int .i64 0, .int .i64 0, .int .i64 0, .int .i64 0, .slice none 0 0] 0 7 S ?_; clear S; intro tC S)
    | fail)
   refine bodyPost_ret (gJ rfl _ _ b6 26 #[.int .u8 0, .int .i64 0, .int .i64 0, .int .i64 0, .int .i64 0, .int .i64 0, .slice none 0 0] (0, 0) _ rfl (S.out.blk _ (.head _) _ rfl) Try.underlying26 rfl (by kernel_rfl)) rfl ?_
   rw [show aN ax ⟨ck, ⟨cx, cy, cw, ch⟩, aj, l⟩ bg = 1 by unfold aN; rw [if_pos HB.out], show aZ ax ⟨ck, ⟨cx, cy, cw, ch⟩, aj, l⟩ bg = z26 by unfold aZ; rw [if_pos HB.out]]
   exact ⟨_, _, rfl, Kd.qm _ _ _ _ _, S.out.below⟩
def rV.T4 : Bool × List (List Nat × List Nat) := (true, [([], []), ([0], [0]), ([], []), ([1, 2], [1, 2]), ([], []), ([4], [4]), ([5], [5]), ([3, 6, 3], [3, 6]), ([7], [7]), ([8], [8]), ([8], [8]), ([9, 7, 0, 1, 2, 3, 4, 5, 6, 7, 8, 9], [9]), ([10, 11, 0, 1, 2, 3, 4, 5, 6, 7, 8, 9, 10, 11], [10])])
def rV.B4 : List Nat := [0, 1, 0, 7, 0, 16, 48, 127, 255, 511, 511, 1023, 4095]
theorem rV.acj : iP .any (opsOf Try.f155 4) = rV.T4 := by kernel_rfl
theorem rV.VC : iL rV.T4.2 rV.B4 = true := by kernel_rfl
def sW.T11 : Bool × List (List Nat × List Nat) := (true, [([], []), ([0], [0]), ([], []), ([], []), ([], []), ([3, 4], [3, 4]), ([5], [5]), ([], []), ([7], [7]), ([], []), ([8, 9, 1], [8, 9]), ([6, 10], [6, 10]), ([1, 2, 11, 10], [1, 2, 11]), ([12], [12]), ([13], [13]), ([13], [13]), ([], []), ([16, 14, 12, 0, 1, 2, 3, 4, 5, 6, 7, 8, 9, 10, 11, 12, 13, 14, 16], [14, 16]), ([15, 17, 0, 1, 2, 3, 4, 5, 6, 7, 8, 9, 10, 11, 12, 13, 14, 15, 16, 17], [15])])
def sW.B11 : List Nat := [0, 1, 0, 0, 0, 24, 56, 0, 128, 0, 899, 2043, 4095, 8191, 16383, 16383, 0, 98303, 262143]
theorem sW.O0 : iP .any (opsOf Try.f155 11) = sW.T11 := by kernel_rfl
theorem sW.Jl : iL sW.T11.2 sW.B11 = true := by kernel_rfl
theorem CZ {ax n m : Int} {k : ai} {args : Array Value} {W : World} {P : Nat → Prop} (h : n = m) (hc : Calls Try.prog 183 args W (yu W P (aZ ax (aQ k 0 0) (wrap64 (n - bC ax k.f1))) (aN ax (aQ k 0 0) (wrap64 (n - bC ax k.f1))))) : Calls Try.prog 183 args W (yu W P (cO ax k m) (pF ax k m)) := by
 subst h
 exact hc
theorem Yo (c : ai) (hz : sz c ≤ 100000) (P : Nat → Prop) (A : Option Addr) (cc : Nat) (w : World) (hv : Kd.V k26 26 w w.heap.size P (.slice A c.f3.length cc) c.f3) :
  Calls Try.prog 155 #[.agg #[.int .u8 c.f0, .int .i64 c.f1.f0, .int .i64 c.f1.f1, .int .i64 c.f1.f2, .int .i64 c.f1.f3, .int .i64 c.f2, .slice A c.f3.length cc]] w (SV w P (jI c).1 (jI c).2) := by
 have S := ae.mk (St.start (ts := [(.slice A c.f3.length cc, c.f3)]) (b0 := w.heap.size) (w := w) (P := P) (fun t ht => by rw [List.mem_singleton.1 ht]; exact hv))
 have hsz := dR c
 have hlen := jJ c.f3
 have gy := ae.mk (show c.f3.length ≤ 1000000 by omega)
 have DD := ae.mk fun (k : ai) (hk : k ∈ c.f3) => (show sz k ≤ 1000000 by have := qg hk; omega)
 obtain ⟨ck, ⟨cx, cy, cw, ch⟩, aj, l⟩ := c
 simp only [] at S gy DD
 clear hv hz hsz hlen
 by_cases hk : ck = 1
 ·have hkb : (ck == 1) = true := beq_iff_eq.mpr hk
  have HR := ae.mk (show jI ⟨ck, ⟨cx, cy, cw, ch⟩, aj, l⟩ = ([], 10) by unfold jI; rw [if_pos hk])
  clear hk
  go_enter Try.func155, Try.ntmps155
  go_wp2_with (first
   | ((with_reducible refine az 1 rfl ?_); refine boxS 1 #[.int .u8 ck, .int .i64 cx, .int .i64 cy, .int .i64 cw, .int .i64 ch, .int .i64 aj, .slice A l.length cc] 26 S ?_; clear S; intro b1 fF S; have bG := (S.out.at (.head _) 0).trans rfl)
   | fail)
  clear bG
  refine bodyPost_ret (results_tmp2 rfl _ _ _) rfl ?_
  rw [HR.out]
  exact ⟨none, 0, rfl, Kd.NJ _ _ _ _ _, S.out.below⟩
 ·have hkb : (ck == 1) = false := beq_eq_false_iff_ne.mpr hk
  have lD := ae.mk hk
  obtain ⟨ax, hax⟩ : ∃ ax, ax = zg ck := ⟨_, rfl⟩
  have hSZ := fun W => YL (W := W) (bC ax ⟨cx, cy, cw, ch⟩) (l.length : Int)
  have hR : jI ⟨ck, ⟨cx, cy, cw, ch⟩, aj, l⟩ = if (o5 (bC ax ⟨cx, cy, cw, ch⟩) (l.length : Int)).2 = false then ([], 7) else if pG ax (fun (i : Nat) => rd (o5 (bC ax ⟨cx, cy, cw, ch⟩) (l.length : Int)).1 (i : Int)) 0 l = true then ([], 7) else (jv ax (fun (i : Nat) => rd (o5 (bC ax ⟨cx, cy, cw, ch⟩) (l.length : Int)).1 (i : Int)) 0 l, 0) := by rw [hax]; unfold jI; rw [if_neg hk]
  have hsl := @Nb (bC ax ⟨cx, cy, cw, ch⟩) l.length
  generalize o5 (bC ax ⟨cx, cy, cw, ch⟩) (l.length : Int) = sp at hSZ hR hsl
  obtain ⟨sl, ok⟩ := sp
  simp only [] at hSZ hR hsl
  have yY := ae.mk hSZ
  have xw := ae.mk hsl
  have tH := ae.mk hax
  clear hk hSZ hsl hax
  cases ok with
  | false =>
   have HR := ae.mk (hR.trans (if_pos rfl))
   clear hR
   go_enter Try.func155, Try.ntmps155
   go_upto_region 3 with (first
    | ((with_reducible refine az 1 rfl ?_); refine boxS 1 #[.int .u8 ck, .int .i64 cx, .int .i64 cy, .int .i64 cw, .int .i64 ch, .int .i64 aj, .slice A l.length cc] 26 S ?_; clear S; intro b1 fF S; have bG := (S.out.at (.head _) 0).trans rfl)
    | fail)
   clear bG
   go_cut [4] (fun v4 wc => v4 = .int .u8 ax ∧ ae (St w P [(some b1, .cells #[.int .u8 ck, .int .i64 cx, .int .i64 cy, .int .i64 cw, .int .i64 ch, .int .i64 aj, .slice A l.length cc] 26 (0, 0))] [] [(.slice A l.length cc, l)] [] wc))
   case first =>
    have bG := (S.out.at (.head _) 0).trans rfl
    go_wp2
    clear bG
    go_meet
    case rel => exact ⟨by rw [tH.out]; first | rfl | (simp [zg]; done), S⟩
   case rest =>
    clear S
    obtain ⟨rfl, S⟩ := hcut
    rename World => wx
    go_wp2
    refine jA (n := 13) (S := fun w' => St w _ _ _ _ _ w') (ds := []) (bA 13 0) (by kernel_rfl) rfl rfl (S.out.call (bF (Below.refl _ _))) (fun hHeld => ?_); refine f_ rV.acj rV.VC (fun au eF => ?_)
    replace S := ae.mk (S.out.call (bF (Below.refl _ _)))
    generalize wx.drew = wd2 at S hHeld ⊢
    refine aG 0 20 (bA 13 1) au ?_
    refine dJ 1 21 (bA 13 3) au eF hHeld ?_ (hv := by intro w' hs_; have dV := (hs_.at (.head _) 1).trans rfl; have dW := (hs_.at (.head _) 2).trans rfl; have dZ := (hs_.at (.head _) 3).trans rfl; have d_ := (hs_.at (.head _) 4).trans rfl; go_simp; with_reducible rfl)
    refine aG 2 22 (bA 13 7) au ?_
    refine aG 4 24 (bA 13 23) au ?_
    refine dJ 5 25 (bA 13 55) au eF hHeld ?_ (hv := by intro w' hs_; have b_ := (hs_.at (.head _) 6).trans rfl; go_simp; with_reducible rfl)
    refine aG 6 26 (bA 13 119) au ?_
    refine gZ (i := 3) (N := some 23) (bA 13 127) rfl rfl (dG au.out (by kernel_rfl)) (by decide) (fun K hK => ?_)
    refine fM Try.func98 (by kernel_rfl) rfl #[.agg #[.int .i64 cx, .int .i64 cy, .int .i64 cw, .int .i64 ch], .int .u8 ax] (by rfl) rfl rfl (by (try simp only [List.map_toArray, List.map_cons, List.map_nil]); first | done | rfl) ?_
    refine (zy ⟨cx, cy, cw, ch⟩ ax).mono ?_
    rintro e jT ⟨rfl, hb⟩
    refine ⟨_, rfl, ?_⟩
    replace S := ae.mk (S.out.call hb)
    clear hb
    refine hK.out _ _ S.out (fun hHeld => ?_)
    clear hK K
    refine ed 23 ?_
    refine gZ (i := 7) (N := some 27) (bA 13 255) rfl rfl (dG au.out (by kernel_rfl)) (by decide) (fun K hK => ?_)
    refine fM Try.func53 (by kernel_rfl) rfl #[.int .i64 (bC ax ⟨cx, cy, cw, ch⟩), .int .i64 (l.length : Int)] (by rfl) rfl rfl (by (try simp only [List.map_toArray, List.map_cons, List.map_nil]); first | done | rfl) ?_
    refine (yY.out _).mono ?_
    rintro e lQ ⟨As, cs, rfl, h1, hb⟩
    refine ⟨_, rfl, ?_⟩
    obtain ⟨os, S1, HI1⟩ := S.out.BO h1 hb
    replace S := ae.mk S1
    have HIS := ae.mk HI1
    clear S1 HI1 h1 hb
    refine hK.out _ _ S.out.eH (fun hHeld => ?_)
    clear hK K
    refine ed 27 ?_
    refine aG 8 19 (bA 13 511) au ?_
    refine aG 9 28 (bA 13 1023) au ?_
    refine aG 10 29 (bA 13 2047) au ?_
    refine aG 11 5 (bA 13 4095) au ?_
    refine aG 12 6 (bA 13 8191) au ?_
    refine kG (iK au.out (by kernel_rfl)) ?_
    clear hHeld
    go_wp2
    refine bodyPost_ret (results_tmp2 rfl _ _ _) rfl ?_
    rw [HR.out]
    exact ⟨none, 0, rfl, Kd.NJ _ _ _ _ _, S.out.below⟩
  | true =>
   have hR2 := hR.trans (if_neg (by simp))
   obtain ⟨NS, rP⟩ : ∃ NS : Nat → Int, NS = fun (i : Nat) => rd sl (i : Int) := ⟨_, rfl⟩
   rw [← rP] at hR2
   have HR := ae.mk hR2
   have Dj := ae.mk rP
   clear hR hR2 rP
   go_enter Try.func155, Try.ntmps155
   go_upto_region 3 with (first
    | ((with_reducible refine az 1 rfl ?_); refine boxS 1 #[.int .u8 ck, .int .i64 cx, .int .i64 cy, .int .i64 cw, .int .i64 ch, .int .i64 aj, .slice A l.length cc] 26 S ?_; clear S; intro b1 fF S; have bG := (S.out.at (.head _) 0).trans rfl)
    | fail)
   clear bG
   go_cut [4] (fun v4 wc => v4 = .int .u8 ax ∧ ae (St w P [(some b1, .cells #[.int .u8 ck, .int .i64 cx, .int .i64 cy, .int .i64 cw, .int .i64 ch, .int .i64 aj, .slice A l.length cc] 26 (0, 0))] [] [(.slice A l.length cc, l)] [] wc))
   case first =>
    have bG := (S.out.at (.head _) 0).trans rfl
    go_wp2
    clear bG
    go_meet
    case rel => exact ⟨by rw [tH.out]; first | rfl | (simp [zg]; done), S⟩
   case rest =>
    clear S
    obtain ⟨rfl, S⟩ := hcut
    rename World => wx
    go_wp2
    refine jA (n := 13) (S := fun w' => St w _ _ _ _ _ w') (ds := []) (bA 13 0) (by kernel_rfl) rfl rfl (S.out.call (bF (Below.refl _ _))) (fun hHeld => ?_); refine f_ rV.acj rV.VC (fun au eF => ?_)
    replace S := ae.mk (S.out.call (bF (Below.refl _ _)))
    generalize wx.drew = wd2 at S hHeld ⊢
    refine aG 0 20 (bA 13 1) au ?_
    refine dJ 1 21 (bA 13 3) au eF hHeld ?_ (hv := by intro w' hs_; have dV := (hs_.at (.head _) 1).trans rfl; have dW := (hs_.at (.head _) 2).trans rfl; have dZ := (hs_.at (.head _) 3).trans rfl; have d_ := (hs_.at (.head _) 4).trans rfl; go_simp; with_reducible rfl)
    refine aG 2 22 (bA 13 7) au ?_
    refine aG 4 24 (bA 13 23) au ?_
    refine dJ 5 25 (bA 13 55) au eF hHeld ?_ (hv := by intro w' hs_; have b_ := (hs_.at (.head _) 6).trans rfl; go_simp; with_reducible rfl)
    refine aG 6 26 (bA 13 119) au ?_
    refine gZ (i := 3) (N := some 23) (bA 13 127) rfl rfl (dG au.out (by kernel_rfl)) (by decide) (fun K hK => ?_)
    refine fM Try.func98 (by kernel_rfl) rfl #[.agg #[.int .i64 cx, .int .i64 cy, .int .i64 cw, .int .i64 ch], .int .u8 ax] (by rfl) rfl rfl (by (try simp only [List.map_toArray, List.map_cons, List.map_nil]); first | done | rfl) ?_
    refine (zy ⟨cx, cy, cw, ch⟩ ax).mono ?_
    rintro e jT ⟨rfl, hb⟩
    refine ⟨_, rfl, ?_⟩
    replace S := ae.mk (S.out.call hb)
    clear hb
    refine hK.out _ _ S.out (fun hHeld => ?_)
    clear hK K
    refine ed 23 ?_
    refine gZ (i := 7) (N := some 27) (bA 13 255) rfl rfl (dG au.out (by kernel_rfl)) (by decide) (fun K hK => ?_)
    refine fM Try.func53 (by kernel_rfl) rfl #[.int .i64 (bC ax ⟨cx, cy, cw, ch⟩), .int .i64 (l.length : Int)] (by rfl) rfl rfl (by (try simp only [List.map_toArray, List.map_cons, List.map_nil]); first | done | rfl) ?_
    refine (yY.out _).mono ?_
    rintro e lQ ⟨As, cs, rfl, h1, hb⟩
    refine ⟨_, rfl, ?_⟩
    obtain ⟨os, S1, HI1⟩ := S.out.BO h1 hb
    replace S := ae.mk S1
    have HIS := ae.mk HI1
    clear S1 HI1 h1 hb
    refine hK.out _ _ S.out.eH (fun hHeld => ?_)
    clear hK K
    refine ed 27 ?_
    refine aG 8 19 (bA 13 511) au ?_
    refine aG 9 28 (bA 13 1023) au ?_
    refine aG 10 29 (bA 13 2047) au ?_
    refine aG 11 5 (bA 13 4095) au ?_
    refine aG 12 6 (bA 13 8191) au ?_
    refine kG (iK au.out (by kernel_rfl)) ?_
    clear hHeld
    have b_ := (S.out.at (.tail _ (.head _)) 6).trans rfl
    go_wp2_with (first
     | ((with_reducible refine az 34 rfl ?_); refine Oc (some 34) Try.func137 S (FC l gy.out (S.out.tree _ (.head _))) ?_; clear S; intro A1 c1 tC S; clear b_)
     | fail)
    go_loopg [37] l.length (fun gg v37 wr => ∃ (pre rest : List ai), v37 = .int .i64 (pre.length : Int) ∧ ae (pre ++ rest = l) ∧ rest.length ≤ gg ∧ ae (pG ax NS 0 pre = false) ∧ ae (St w P [((Value.slice As sl.length cs).ownBlock, os), (some b1, .cells #[.int .u8 ck, .int .i64 cx, .int .i64 cy, .int .i64 cw, .int .i64 ch, .int .i64 aj, .slice A l.length cc] 26 (0, 0))] [(.slice A1 l.length c1, (jv ax NS 0 pre ++ rest))] [(.slice A l.length cc, l)] [] wr))
    case atStart => exact ⟨[], l, rfl, ⟨rfl⟩, Nat.le_refl _, ⟨rfl⟩, ⟨S.out⟩⟩
    case round =>
     clear S
     obtain ⟨pre, rest, rfl, HE, hgg, Pv, S⟩ := hrel
     cases rest with
     | nil =>
      have hE := HE.out
      rw [List.append_nil] at hE
      have hE2 := hE.symm
      subst hE2
      clear hE HE hgg
      have hlt : ¬ ((l.length : Int) < (l.length : Int)) := by omega
      go_wp2
      refine bodyPost_ret (results_tmp2 rfl _ _ _) rfl ?_
      rw [HR.out, if_neg (by rw [Pv.out]; simp)]
      have hV := S.out.free.J5 (b0 := w.heap.size) (.head _)
      rw [List.append_nil] at hV
      simp only [SV, sS]
      exact ⟨_, _, rfl, hV, S.out.below⟩
     | cons k rest =>
      have hk : k ∈ l := by rw [← HE.out]; simp
      have hlt : (pre.length : Int) < (l.length : Int) := by rw [← HE.out, List.length_append, List.length_cons]; omega
      have hw1 : wrap64 ((pre.length : Int) + 1) = ((pre ++ [k]).length : Int) := by have := gy.out; rw [List.length_append, List.length_singleton]; unfold wrap64; omega
      have HW1 := ae.mk hw1
      have jd := ae.mk hgg
      have AP := ae.mk (DD.out k hk)
      have vJ := ae.mk (show sz (aQ k 0 0) ≤ 1048576 by rw [(BR _).1 _ (Nat.le_refl _)]; have := DD.out k hk; omega)
      have yt := ae.mk (show (pre.length : Int) < ((jv ax NS 0 pre ++ k :: rest).length : Int) by rw [List.length_append, sS, List.length_cons]; omega)
      obtain ⟨g, cap, ev, _⟩ := Kd.AU S.out.uY (by have := yt.out; omega)
      injection ev with e1 e2 e3
      subst e1
      clear e2 e3 hk hgg hw1
      obtain ⟨ua, uc, S1, hcell⟩ := S.out.CQ (pre.length : Int) (Int.natCast_nonneg _) yt.out
      have hrd : aI (jv ax NS 0 pre ++ k :: rest) (pre.length : Int) = k := Yp ax NS pre k rest
      rw [hrd] at S1 hcell
      replace S := ae.mk S1
      have x0 : wr.cell? ⟨g, pre.length * 7, none⟩ = some (.int .u8 k.f0) := hcell 0 _ rfl
      have x1 : wr.cell? ⟨g, pre.length * 7 + 1, none⟩ = some (.int .i64 k.f1.f0) := hcell 1 _ rfl
      have x2 : wr.cell? ⟨g, pre.length * 7 + 2, none⟩ = some (.int .i64 k.f1.f1) := hcell 2 _ rfl
      have x3 : wr.cell? ⟨g, pre.length * 7 + 3, none⟩ = some (.int .i64 k.f1.f2) := hcell 3 _ rfl
      have x4 : wr.cell? ⟨g, pre.length * 7 + 4, none⟩ = some (.int .i64 k.f1.f3) := hcell 4 _ rfl
      have x5 : wr.cell? ⟨g, pre.length * 7 + 5, none⟩ = some (.int .i64 k.f2) := hcell 5 _ rfl
      have x6 : wr.cell? ⟨g, pre.length * 7 + 6, none⟩ = some (.slice ua k.f3.length uc) := hcell 6 _ rfl
      clear S1 hcell hrd
      have hlt2 : (pre.length : Int) < (sl.length : Int) := by rw [xw.out trivial]; exact hlt
      obtain ⟨PO, ea, _⟩ := Kd.iE (Kd.bQ (HIS.out _ (S.out.blk _ (.head _)))).2.2 (pre.length : Int) (Int.natCast_nonneg _) hlt2
      subst ea
      have SH := ae.mk hlt2
      obtain ⟨ni, hni⟩ : ∃ ni, ni = rd sl (pre.length : Int) := ⟨_, rfl⟩
      have abA : ni = NS pre.length := by rw [hni, Dj.out]
      have HNI := ae.mk abA
      have En := ae.mk (show rd sl (pre.length : Int) = NS pre.length by rw [Dj.out])
      clear hni abA ni HNI
      go_wp2_with (first
       | ((with_reducible refine az 9 rfl ?_); refine boxS 9 #[.int .u8 0, .int .i64 0, .int .i64 0, .int .i64 0, .int .i64 0, .int .i64 0, .slice none 0 0] 26 S ?_; clear S; intro b9 Cc S; clear x0 x1 x2 x3 x4 x5 x6)
       | ((with_reducible refine fP 26 (.tmp 9) (.tmp 41) rfl ?_); refine kD 26 9 41 #[.int .u8 k.f0, .int .i64 k.f1.f0, .int .i64 k.f1.f1, .int .i64 k.f1.f2, .int .i64 k.f1.f3, .int .i64 k.f2, .slice ua k.f3.length uc] 0 7 S ?_; clear S; intro AB S)
       | fail)
      refine jA (n := 19) (S := fun w' => St w _ _ _ _ _ w') (ds := [17]) (bA 19 0) (by kernel_rfl) rfl rfl (S.out.call (bF (Below.refl _ _))) (fun hHeld => ?_); refine f_ sW.O0 sW.Jl (fun au eF => ?_)
      replace S := ae.mk (S.out.call (bF (Below.refl _ _)))
      generalize AB.drew = wd8 at S hHeld ⊢
      refine dJ 0 43 (bA 19 1) au eF hHeld ?_ (hv := by intro w' hs_; have qo := (hs_.at (.head _) 0).trans rfl; have wV := (hs_.at (.head _) 1).trans rfl; have qU := (hs_.at (.head _) 2).trans rfl; have wW := (hs_.at (.head _) 3).trans rfl; have EF := (hs_.at (.head _) 4).trans rfl; have Ir := (hs_.at (.head _) 5).trans rfl; have Iu := (hs_.at (.head _) 6).trans rfl; go_simp; with_reducible rfl)
      refine aG 2 45 (bA 19 5) au ?_
      refine aG 3 46 (bA 19 13) au ?_
      refine aG 4 47 (bA 19 29) au ?_
      refine aG 5 48 (bA 19 61) au ?_
      refine dJ 6 49 (bA 19 125) au eF hHeld ?_ (hv := by intro w' hs_; have xs := zC HIS.out (hs_.blk _ (.tail _ (.head _))) pre.length SH.out; go_simp; with_reducible rfl)
      refine aG 7 50 (bA 19 253) au ?_
      refine dJ 8 51 (bA 19 509) au eF hHeld ?_ (hv := by intro w' hs_; have wV := (hs_.at (.head _) 1).trans rfl; have qU := (hs_.at (.head _) 2).trans rfl; have wW := (hs_.at (.head _) 3).trans rfl; have EF := (hs_.at (.head _) 4).trans rfl; go_simp; with_reducible rfl)
      refine aG 9 52 (bA 19 1021) au ?_
      refine VQ (σ := Option Addr × Nat × Option Addr × Nat × Nat) 2 (bA 19 131071) (fun s_ => [(44, .agg #[.int .u8 ((aQ k 0 0).f0), .int .i64 ((aQ k 0 0).f1.f0), .int .i64 ((aQ k 0 0).f1.f1), .int .i64 ((aQ k 0 0).f1.f2), .int .i64 ((aQ k 0 0).f1.f3), .int .i64 ((aQ k 0 0).f2), .slice s_.1 ((aQ k 0 0).f3.length) s_.2.1]), (53, .int .i64 (bC ax ⟨k.f1.f0, k.f1.f1, k.f1.f2, k.f1.f3⟩)), (54, .int .i64 (wrap64 ((rd sl (pre.length : Int)) - (bC ax ⟨k.f1.f0, k.f1.f1, k.f1.f2, k.f1.f3⟩)))), (55, .tuple #[.agg #[.int .u8 ((cO ax k (NS pre.length)).f0), .int .i64 ((cO ax k (NS pre.length)).f1.f0), .int .i64 ((cO ax k (NS pre.length)).f1.f1), .int .i64 ((cO ax k (NS pre.length)).f1.f2), .int .i64 ((cO ax k (NS pre.length)).f1.f3), .int .i64 ((cO ax k (NS pre.length)).f2), .slice s_.2.2.1 ((cO ax k (NS pre.length)).f3.length) s_.2.2.2.1], .int .i64 (pF ax k (NS pre.length))]), (42, .tuple #[.agg #[.int .u8 ((cO ax k (NS pre.length)).f0), .int .i64 ((cO ax k (NS pre.length)).f1.f0), .int .i64 ((cO ax k (NS pre.length)).f1.f1), .int .i64 ((cO ax k (NS pre.length)).f1.f2), .int .i64 ((cO ax k (NS pre.length)).f1.f3), .int .i64 ((cO ax k (NS pre.length)).f2), .slice s_.2.2.1 ((cO ax k (NS pre.length)).f3.length) s_.2.2.2.1], .int .i64 (pF ax k (NS pre.length))]), (56, .agg #[.int .u8 ((cO ax k (NS pre.length)).f0), .int .i64 ((cO ax k (NS pre.length)).f1.f0), .int .i64 ((cO ax k (NS pre.length)).f1.f1), .int .i64 ((cO ax k (NS pre.length)).f1.f2), .int .i64 ((cO ax k (NS pre.length)).f1.f3), .int .i64 ((cO ax k (NS pre.length)).f2), .slice s_.2.2.1 ((cO ax k (NS pre.length)).f3.length) s_.2.2.2.1]), (57, .int .i64 (pF ax k (NS pre.length))), (10, .pointer (some ⟨s_.2.2.2.2, 0, none⟩))]) (fun s_ w' => St w P [(some s_.2.2.2.2, .cells #[.int .u8 0, .int .i64 0, .int .i64 0, .int .i64 0, .int .i64 0, .int .i64 0, .slice none 0 0] 26 (0, 0)), (some b9, .cells #[.int .u8 k.f0, .int .i64 k.f1.f0, .int .i64 k.f1.f1, .int .i64 k.f1.f2, .int .i64 k.f1.f3, .int .i64 k.f2, .slice ua k.f3.length uc] 26 (0, 0)), ((Value.slice (some PO) sl.length cs).ownBlock, os), (some b1, .cells #[.int .u8 ck, .int .i64 cx, .int .i64 cy, .int .i64 cw, .int .i64 ch, .int .i64 aj, .slice A l.length cc] 26 (0, 0))] [(.slice (some ⟨g, 0, none⟩) l.length c1, (jv ax NS 0 pre ++ k :: rest))] [(.slice s_.2.2.1 ((cO ax k (NS pre.length)).f3.length) s_.2.2.2.1, (cO ax k (NS pre.length)).f3), (.slice s_.1 ((aQ k 0 0).f3.length) s_.2.1, (aQ k 0 0).f3), (.slice ua k.f3.length uc, k.f3), (.slice A l.length cc, l)] [] w') ?_ ?_
      rotate_left
      ·intro wX
       refine Gv (i := 1) (j := 16) (Ni := some 44) (Nj := some 10) (bA 19 1023) (bA 19 66557) rfl rfl rfl rfl (zA au.out (by kernel_rfl)) (by decide) (by decide) (fun K hK => ?_) (fun K hK => ?_)
       ·skip
        refine fM Try.func66 (by kernel_rfl) rfl #[.agg #[.int .u8 k.f0, .int .i64 k.f1.f0, .int .i64 k.f1.f1, .int .i64 k.f1.f2, .int .i64 k.f1.f3, .int .i64 k.f2, .slice ua k.f3.length uc], .int .i64 0, .int .i64 0] (by rfl) rfl rfl (by (try simp only [List.map_toArray, List.map_cons, List.map_nil]); first | done | rfl) ?_
        refine (Iy k 0 0 AP.out (S.out.tree _ (.head _))).mono ?_
        rintro e H9 ⟨Dc, yN, rfl, h1, hb⟩
        refine ⟨_, rfl, ?_⟩
        replace S := ae.mk (S.out.res (Kd.rG (base' := 0) h1) hb)
        clear h1 hb
        refine hK.out _ _ S.out.bH (fun hHeld => ?_)
        clear hK K
        refine ed 44 ?_
        refine Gv (i := 10) (j := 16) (Ni := some 53) (Nj := some 10) (bA 19 2047) (bA 19 66559) rfl rfl rfl rfl (zA au.out (by kernel_rfl)) (by decide) (by decide) (fun K hK => ?_) (fun K hK => ?_)
        ·skip
         refine fM Try.func98 (by kernel_rfl) rfl #[.agg #[.int .i64 k.f1.f0, .int .i64 k.f1.f1, .int .i64 k.f1.f2, .int .i64 k.f1.f3], .int .u8 ax] (by rfl) rfl rfl (by (try simp only [List.map_toArray, List.map_cons, List.map_nil]); first | done | rfl) ?_
         refine (zy ⟨k.f1.f0, k.f1.f1, k.f1.f2, k.f1.f3⟩ ax).mono ?_
         rintro e Gy ⟨rfl, hb⟩
         refine ⟨_, rfl, ?_⟩
         replace S := ae.mk (S.out.call hb)
         clear hb
         refine hK.out _ _ S.out.bH (fun hHeld => ?_)
         clear hK K
         refine ed 53 ?_
         refine aG 11 54 (bA 19 4095) au ?_
         refine Gv (i := 12) (j := 16) (Ni := some 55) (Nj := some 10) (bA 19 8191) (bA 19 69631) rfl rfl rfl rfl (zA au.out (by kernel_rfl)) (by decide) (by decide) (fun K hK => ?_) (fun K hK => ?_)
         ·skip
          refine fM Try.func183 (by kernel_rfl) rfl #[.agg #[.int .u8 ((aQ k 0 0).f0), .int .i64 ((aQ k 0 0).f1.f0), .int .i64 ((aQ k 0 0).f1.f1), .int .i64 ((aQ k 0 0).f1.f2), .int .i64 ((aQ k 0 0).f1.f3), .int .i64 ((aQ k 0 0).f2), .slice Dc ((aQ k 0 0).f3.length) yN], .int .u8 ax, .int .i64 (wrap64 ((rd sl (pre.length : Int)) - (bC ax ⟨k.f1.f0, k.f1.f1, k.f1.f2, k.f1.f3⟩)))] (by rfl) rfl rfl (by (try simp only [List.map_toArray, List.map_cons, List.map_nil]); first | done | rfl) ?_
          refine (CZ En.out (yz ax (aQ k 0 0) vJ.out _ _ _ _ _ (fK (S.out.tree _ (.head _))))).mono ?_
          rintro e Ee ⟨yS, uS, rfl, h1, hb⟩
          refine ⟨_, rfl, ?_⟩
          replace S := ae.mk (S.out.res (Kd.rG (base' := 0) h1) hb)
          clear h1 hb
          refine hK.out _ _ S.out.bH.bH (fun hHeld => ?_)
          clear hK K
          refine ed 55 ?_
          refine aG 13 42 (bA 19 16383) au ?_
          refine aG 14 56 (bA 19 32767) au ?_
          refine aG 15 57 (bA 19 65535) au ?_
          refine gZ (i := 16) (N := some 10) (bA 19 131071) rfl rfl (dG au.out (by kernel_rfl)) (by decide) (fun K hK => ?_)
          refine qG ?hg (N := 10) ?hd (cs := #[.int .u8 0, .int .i64 0, .int .i64 0, .int .i64 0, .int .i64 0, .int .i64 0, .slice none 0 0]) (t := 26) ?hr ?_; (case hd => rfl); (case hg => rfl); (case hr => first | (go_simp; done) | (go_simp; rfl))
          intro b10 hg KF hbox hb
          replace S := ae.mk (S.out.box hg hbox hb)
          clear hg hbox hb
          refine hK.out _ _ S.out.eH.bH.bH (fun hHeld => ?_)
          clear hK K
          refine ed 10 ?_
          exact rZ (by simp only [oM, Act.put, List.setIfInBounds_toArray, List.set_cons_zero, List.set_cons_succ] <;> rfl) (wX (Dc, yN, yS, uS, b10) _ S.out)
         ·skip
          refine qG ?hg (N := 10) ?hd (cs := #[.int .u8 0, .int .i64 0, .int .i64 0, .int .i64 0, .int .i64 0, .int .i64 0, .slice none 0 0]) (t := 26) ?hr ?_; (case hd => rfl); (case hg => rfl); (case hr => first | (go_simp; done) | (go_simp; rfl))
          intro b10 hg KG hbox hb
          replace S := ae.mk (S.out.box hg hbox hb)
          clear hg hbox hb
          refine hK.out _ _ S.out.eH.bH (fun hHeld => ?_)
          clear hK K
          refine ed 10 ?_
          refine gZ (i := 12) (N := some 55) (bA 19 73727) rfl rfl (dG au.out (by kernel_rfl)) (by decide) (fun K hK => ?_)
          refine fM Try.func183 (by kernel_rfl) rfl #[.agg #[.int .u8 ((aQ k 0 0).f0), .int .i64 ((aQ k 0 0).f1.f0), .int .i64 ((aQ k 0 0).f1.f1), .int .i64 ((aQ k 0 0).f1.f2), .int .i64 ((aQ k 0 0).f1.f3), .int .i64 ((aQ k 0 0).f2), .slice Dc ((aQ k 0 0).f3.length) yN], .int .u8 ax, .int .i64 (wrap64 ((rd sl (pre.length : Int)) - (bC ax ⟨k.f1.f0, k.f1.f1, k.f1.f2, k.f1.f3⟩)))] (by rfl) rfl rfl (by (try simp only [List.map_toArray, List.map_cons, List.map_nil]); first | done | rfl) ?_
          refine (CZ En.out (yz ax (aQ k 0 0) vJ.out _ _ _ _ _ (fK (S.out.tree _ (.head _))))).mono ?_
          rintro e U9 ⟨yS, uS, rfl, h1, hb⟩
          refine ⟨_, rfl, ?_⟩
          replace S := ae.mk (S.out.res (Kd.rG (base' := 0) h1) hb)
          clear h1 hb
          refine hK.out _ _ S.out.eH.bH.bH (fun hHeld => ?_)
          clear hK K
          refine ed 55 ?_
          refine aG 13 42 (bA 19 81919) au ?_
          refine aG 14 56 (bA 19 98303) au ?_
          refine aG 15 57 (bA 19 131071) au ?_
          exact rZ (by simp only [oM, Act.put, List.setIfInBounds_toArray, List.set_cons_zero, List.set_cons_succ] <;> rfl) (wX (Dc, yN, yS, uS, b10) _ S.out)
        ·skip
         refine qG ?hg (N := 10) ?hd (cs := #[.int .u8 0, .int .i64 0, .int .i64 0, .int .i64 0, .int .i64 0, .int .i64 0, .slice none 0 0]) (t := 26) ?hr ?_; (case hd => rfl); (case hg => rfl); (case hr => first | (go_simp; done) | (go_simp; rfl))
         intro b10 hg O7 hbox hb
         replace S := ae.mk (S.out.box hg hbox hb)
         clear hg hbox hb
         refine hK.out _ _ S.out.eH.bH (fun hHeld => ?_)
         clear hK K
         refine ed 10 ?_
         refine gZ (i := 10) (N := some 53) (bA 19 67583) rfl rfl (dG au.out (by kernel_rfl)) (by decide) (fun K hK => ?_)
         refine fM Try.func98 (by kernel_rfl) rfl #[.agg #[.int .i64 k.f1.f0, .int .i64 k.f1.f1, .int .i64 k.f1.f2, .int .i64 k.f1.f3], .int .u8 ax] (by rfl) rfl rfl (by (try simp only [List.map_toArray, List.map_cons, List.map_nil]); first | done | rfl) ?_
         refine (zy ⟨k.f1.f0, k.f1.f1, k.f1.f2, k.f1.f3⟩ ax).mono ?_
         rintro e U_ ⟨rfl, hb⟩
         refine ⟨_, rfl, ?_⟩
         replace S := ae.mk (S.out.call hb)
         clear hb
         refine hK.out _ _ S.out.eH.bH (fun hHeld => ?_)
         clear hK K
         refine ed 53 ?_
         refine aG 11 54 (bA 19 69631) au ?_
         refine gZ (i := 12) (N := some 55) (bA 19 73727) rfl rfl (dG au.out (by kernel_rfl)) (by decide) (fun K hK => ?_)
         refine fM Try.func183 (by kernel_rfl) rfl #[.agg #[.int .u8 ((aQ k 0 0).f0), .int .i64 ((aQ k 0 0).f1.f0), .int .i64 ((aQ k 0 0).f1.f1), .int .i64 ((aQ k 0 0).f1.f2), .int .i64 ((aQ k 0 0).f1.f3), .int .i64 ((aQ k 0 0).f2), .slice Dc ((aQ k 0 0).f3.length) yN], .int .u8 ax, .int .i64 (wrap64 ((rd sl (pre.length : Int)) - (bC ax ⟨k.f1.f0, k.f1.f1, k.f1.f2, k.f1.f3⟩)))] (by rfl) rfl rfl (by (try simp only [List.map_toArray, List.map_cons, List.map_nil]); first | done | rfl) ?_
         refine (CZ En.out (yz ax (aQ k 0 0) vJ.out _ _ _ _ _ (fK (S.out.tree _ (.head _))))).mono ?_
         rintro e acm ⟨yS, uS, rfl, h1, hb⟩
         refine ⟨_, rfl, ?_⟩
         replace S := ae.mk (S.out.res (Kd.rG (base' := 0) h1) hb)
         clear h1 hb
         refine hK.out _ _ S.out.eH.bH.bH (fun hHeld => ?_)
         clear hK K
         refine ed 55 ?_
         refine aG 13 42 (bA 19 81919) au ?_
         refine aG 14 56 (bA 19 98303) au ?_
         refine aG 15 57 (bA 19 131071) au ?_
         exact rZ (by simp only [oM, Act.put, List.setIfInBounds_toArray, List.set_cons_zero, List.set_cons_succ] <;> rfl) (wX (Dc, yN, yS, uS, b10) _ S.out)
       ·skip
        refine qG ?hg (N := 10) ?hd (cs := #[.int .u8 0, .int .i64 0, .int .i64 0, .int .i64 0, .int .i64 0, .int .i64 0, .slice none 0 0]) (t := 26) ?hr ?_; (case hd => rfl); (case hg => rfl); (case hr => first | (go_simp; done) | (go_simp; rfl))
        intro b10 hg Va hbox hb
        replace S := ae.mk (S.out.box hg hbox hb)
        clear hg hbox hb
        refine hK.out _ _ S.out.eH (fun hHeld => ?_)
        clear hK K
        refine ed 10 ?_
        refine gZ (i := 1) (N := some 44) (bA 19 66559) rfl rfl (dG au.out (by kernel_rfl)) (by decide) (fun K hK => ?_)
        refine fM Try.func66 (by kernel_rfl) rfl #[.agg #[.int .u8 k.f0, .int .i64 k.f1.f0, .int .i64 k.f1.f1, .int .i64 k.f1.f2, .int .i64 k.f1.f3, .int .i64 k.f2, .slice ua k.f3.length uc], .int .i64 0, .int .i64 0] (by rfl) rfl rfl (by (try simp only [List.map_toArray, List.map_cons, List.map_nil]); first | done | rfl) ?_
        refine (Iy k 0 0 AP.out (S.out.tree _ (.head _))).mono ?_
        rintro e afv ⟨Dc, yN, rfl, h1, hb⟩
        refine ⟨_, rfl, ?_⟩
        replace S := ae.mk (S.out.res (Kd.rG (base' := 0) h1) hb)
        clear h1 hb
        refine hK.out _ _ S.out.eH.bH (fun hHeld => ?_)
        clear hK K
        refine ed 44 ?_
        refine gZ (i := 10) (N := some 53) (bA 19 67583) rfl rfl (dG au.out (by kernel_rfl)) (by decide) (fun K hK => ?_)
        refine fM Try.func98 (by kernel_rfl) rfl #[.agg #[.int .i64 k.f1.f0, .int .i64 k.f1.f1, .int .i64 k.f1.f2, .int .i64 k.f1.f3], .int .u8 ax] (by rfl) rfl rfl (by (try simp only [List.map_toArray, List.map_cons, List.map_nil]); first | done | rfl) ?_
        refine (zy ⟨k.f1.f0, k.f1.f1, k.f1.f2, k.f1.f3⟩ ax).mono ?_
        rintro e ajC ⟨rfl, hb⟩
        refine ⟨_, rfl, ?_⟩
        replace S := ae.mk (S.out.call hb)
        clear hb
        refine hK.out _ _ S.out.eH.bH (fun hHeld => ?_)
        clear hK K
        refine ed 53 ?_
        refine aG 11 54 (bA 19 69631) au ?_
        refine gZ (i := 12) (N := some 55) (bA 19 73727) rfl rfl (dG au.out (by kernel_rfl)) (by decide) (fun K hK => ?_)
        refine fM Try.func183 (by kernel_rfl) rfl #[.agg #[.int .u8 ((aQ k 0 0).f0), .int .i64 ((aQ k 0 0).f1.f0), .int .i64 ((aQ k 0 0).f1.f1), .int .i64 ((aQ k 0 0).f1.f2), .int .i64 ((aQ k 0 0).f1.f3), .int .i64 ((aQ k 0 0).f2), .slice Dc ((aQ k 0 0).f3.length) yN], .int .u8 ax, .int .i64 (wrap64 ((rd sl (pre.length : Int)) - (bC ax ⟨k.f1.f0, k.f1.f1, k.f1.f2, k.f1.f3⟩)))] (by rfl) rfl rfl (by (try simp only [List.map_toArray, List.map_cons, List.map_nil]); first | done | rfl) ?_
        refine (CZ En.out (yz ax (aQ k 0 0) vJ.out _ _ _ _ _ (fK (S.out.tree _ (.head _))))).mono ?_
        rintro e afw ⟨yS, uS, rfl, h1, hb⟩
        refine ⟨_, rfl, ?_⟩
        replace S := ae.mk (S.out.res (Kd.rG (base' := 0) h1) hb)
        clear h1 hb
        refine hK.out _ _ S.out.eH.bH.bH (fun hHeld => ?_)
        clear hK K
        refine ed 55 ?_
        refine aG 13 42 (bA 19 81919) au ?_
        refine aG 14 56 (bA 19 98303) au ?_
        refine aG 15 57 (bA 19 131071) au ?_
        exact rZ (by simp only [oM, Act.put, List.setIfInBounds_toArray, List.set_cons_zero, List.set_cons_succ] <;> rfl) (wX (Dc, yN, yS, uS, b10) _ S.out)
      rintro ⟨Dc, yN, yS, uS, b10⟩ ajK S1
      simp only [oM, Act.put, List.setIfInBounds_toArray, List.set_cons_zero, List.set_cons_succ]
      replace S := ae.mk S1
      clear S1 hHeld
      have hHeld := S.out.eH.bH.bH
      refine qX (i := 17) (N := none) (bA 19 262143) rfl rfl (dG au.out (by kernel_rfl)) (by decide) (fun K hK => ?_)
      refine xk 0 rfl 26 (.tmp 10) (.tmp 56) rfl #[.int .u8 ((cO ax k (NS pre.length)).f0), .int .i64 ((cO ax k (NS pre.length)).f1.f0), .int .i64 ((cO ax k (NS pre.length)).f1.f1), .int .i64 ((cO ax k (NS pre.length)).f1.f2), .int .i64 ((cO ax k (NS pre.length)).f1.f3), .int .i64 ((cO ax k (NS pre.length)).f2), .slice yS ((cO ax k (NS pre.length)).f3.length) uS] (j := 0) (u := .agg #[.int .u8 ((cO ax k (NS pre.length)).f0), .int .i64 ((cO ax k (NS pre.length)).f1.f0), .int .i64 ((cO ax k (NS pre.length)).f1.f1), .int .i64 ((cO ax k (NS pre.length)).f1.f2), .int .i64 ((cO ax k (NS pre.length)).f1.f3), .int .i64 ((cO ax k (NS pre.length)).f2), .slice yS ((cO ax k (NS pre.length)).f3.length) uS]) (bI := [.int .u8 ((cO ax k (NS pre.length)).f0), .int .i64 ((cO ax k (NS pre.length)).f1.f0), .int .i64 ((cO ax k (NS pre.length)).f1.f1), .int .i64 ((cO ax k (NS pre.length)).f1.f2), .int .i64 ((cO ax k (NS pre.length)).f1.f3), .int .i64 ((cO ax k (NS pre.length)).f2), .slice yS ((cO ax k (NS pre.length)).f3.length) uS]) S.out (by rfl) rfl rfl rfl rfl (by kernel_rfl) (by simp [Value.oneCell']) (by first | decide | simp) rfl ?_
      intro afx S1
      simp only [List.set_cons_zero, List.set_cons_succ] at S1
      replace S := ae.mk S1
      clear S1
      refine hK.out _ _ ?_
      clear hK K
      refine aG 18 11 (bA 19 524287) au ?_
      refine kG (iK au.out (by kernel_rfl)) ?_
      clear hHeld
      by_cases hkn : (pF ax k (NS pre.length)) = 0
      ·have hkb2 : ((pF ax k (NS pre.length)) != 0) = false := by rw [hkn]; rfl
       have IP := ae.mk hkn
       have hkd : decide ((pF ax k (NS pre.length)) = 0) = true := decide_eq_true hkn
       obtain ⟨aaf, aag, aah, aai, aaj, aak, aal⟩ := St.iJ S (.head _)
       go_wp2_with (first
        | ((with_reducible refine nK (.store 26 (.tmp 63) (.tmp 62)) rfl ?_); go_loud (refine ace (pre.length : Int) (cO ax k (NS pre.length)) (.tmp 63) (.tmp 62) rfl S.out (Int.natCast_nonneg _) yt.out ?sA ?sX (by kernel_rfl) (.head _) rfl rfl ?_; (case sA => first | rfl | (go_simp; rfl)); (case sX => rfl); intro ajE S1; rw [show (jv ax NS 0 pre ++ k :: rest).set (pre.length : Int).toNat (cO ax k (NS pre.length)) = jv ax NS 0 (pre ++ [k]) ++ rest from Uk ax NS pre k rest] at S1; replace S := ae.mk S1; clear S1); clear aaf aag aah aai aaj aak aal)
        | fail)
       have hw1 := HW1.out
       go_wp2
       go_roundg rest.length
       case measure => exact Nat.lt_of_lt_of_le (Nat.lt_succ_self _) jd.out
       case rel => exact ⟨pre ++ [k], rest, (by rw [hw1]), ⟨by rw [List.append_assoc]; exact HE.out⟩, Nat.le_refl _, ⟨by rw [yE, Pv.out]; simp only [pG, Nat.zero_add, Bool.false_or, Bool.or_false]; rw [IP.out]; rfl⟩, ⟨S.out.eH.eH.bH.bH.bH⟩⟩
      ·have hkb2 : ((pF ax k (NS pre.length)) != 0) = true := bne_iff_ne.mpr hkn
       have IP := ae.mk hkb2
       have hkd : decide ((pF ax k (NS pre.length)) = 0) = false := decide_eq_false hkn
       go_wp2
       refine bodyPost_ret (results_tmp2 rfl _ _ _) rfl ?_
       rw [HR.out, if_pos (by rw [← HE.out, yE]; simp only [pG, Nat.zero_add]; rw [IP.out]; simp)]
       exact ⟨none, 0, rfl, Kd.NJ _ _ _ _ _, S.out.below⟩
def vZ.T8 : Bool × List (List Nat × List Nat) := (true, [([], []), ([0], [0]), ([], []), ([], []), ([3], [3]), ([1, 2, 0, 1, 2, 3, 4], [1, 2]), ([5, 4, 4, 0, 1, 2, 3, 4], [4, 5])])
def vZ.B8 : List Nat := [0, 1, 0, 0, 8, 31, 63]
theorem vZ.U4 : iP .any (opsOf Try.f153 8) = vZ.T8 := by kernel_rfl
theorem vZ.NQ : iL vZ.T8.2 vZ.B8 = true := by kernel_rfl
theorem ZW : ∀ (N : Nat) (c : ai), sz c ≤ N → N ≤ 100000 → ∀ (P : Nat → Prop) (A : Option Addr) (cc : Nat) (w : World), Kd.V k26 26 w w.heap.size P (.slice A c.f3.length cc) c.f3 →
  Calls Try.prog 153 #[.agg #[.int .u8 c.f0, .int .i64 c.f1.f0, .int .i64 c.f1.f1, .int .i64 c.f1.f2, .int .i64 c.f1.f3, .int .i64 c.f2, .slice A c.f3.length cc]] w (tY w P (cZ N c)) := by
 intro N
 induction N with
 | zero => intro c h; rw [dR] at h; omega
 | succ N ih =>
  intro c hc hN P A cc w hv
  have hsz := dR c
  have hks := DX c
  have EL := fun P W A cc (h : Kd.V k26 26 W W.heap.size P (.slice A c.f3.length cc) c.f3) => Yo c (by omega) P A cc W h
  have S := ae.mk (St.start (ts := [(.slice A c.f3.length cc, c.f3)]) (b0 := w.heap.size) (w := w) (P := P) (fun t ht => by rw [List.mem_singleton.1 ht]; exact hv))
  simp only [cZ]
  obtain ⟨L0, hL0⟩ : ∃ L0, L0 = if (jI c).2 = 0 then (jI c).1 else c.f3 := ⟨_, rfl⟩
  rw [← hL0] at hks ⊢
  have hlen := jJ L0
  have gy := ae.mk (show L0.length ≤ 1000000 by omega)
  have IH := ae.mk fun (k : ai) (hk : k ∈ L0) P A cc w h => ih k (by have := qg hk; omega) (by omega) P A cc w h
  generalize jI c = kr at hL0 EL
  obtain ⟨L, en⟩ := kr
  obtain ⟨ck, ⟨cx, cy, cw, ch⟩, aj, l⟩ := c
  simp only [] at S hL0 EL ⊢
  have Px := ae.mk EL
  have IU := ae.mk hL0
  clear ih hc hN hv hsz hks EL hL0 hlen
  go_enter Try.func153, Try.ntmps153
  go_upto_if 13 with (first
   | ((with_reducible refine az 1 rfl ?_); refine boxS 1 #[.int .u8 ck, .int .i64 cx, .int .i64 cy, .int .i64 cw, .int .i64 ch, .int .i64 aj, .slice A l.length cc] 26 S ?_; clear S; intro b1 fF S)
   | ((with_reducible refine az 2 rfl ?_); refine boxS 2 #[.int .u8 0, .int .i64 0, .int .i64 0, .int .i64 0, .int .i64 0, .int .i64 0, .slice none 0 0] 26 S ?_; clear S; intro b2 iw S; obtain ⟨bG, dV, dW, dZ, d_, fC, b_⟩ := St.iJ S (.tail _ (.head _)))
   | ((with_reducible refine az 9 rfl ?_); refine adL (some 9) Try.func155 S (Px.out _ _ A cc (fK (S.out.tree _ (.head _)))) ?_; clear S; intro Ak ca jT S; clear bG dV dW dZ d_ fC b_)
   | fail)
  go_cut [] (fun wc => ∃ A0 c0, ae (St w P [(some b2, .cells #[.int .u8 0, .int .i64 0, .int .i64 0, .int .i64 0, .int .i64 0, .int .i64 0, .slice none 0 0] 26 (0, 0)), (some b1, .cells #[.int .u8 ck, .int .i64 cx, .int .i64 cy, .int .i64 cw, .int .i64 ch, .int .i64 aj, .slice A0 L0.length c0] 26 (0, 0))] [] [(.slice A0 L0.length c0, L0)] [] wc))
  case first =>
   by_cases hen : en = 0
   ·have hl : L0 = L := by rw [IU.out, if_pos hen]
    have hed : decide (en = 0) = true := decide_eq_true hen
    have heb : (en == 0) = true := beq_iff_eq.mpr hen
    go_wp2_with (first
     | ((with_reducible refine fP 24 (.tmp 15) (.tmp 14) rfl ?_); refine wM 24 15 14 #[.int .u8 ck, .int .i64 cx, .int .i64 cy, .int .i64 cw, .int .i64 ch, .int .i64 aj, .slice Ak L.length ca] 6 1 S ?_; clear S; intro lQ S)
     | fail)
    go_meet
    case rel => rw [hl]; exact ⟨_, _, ⟨S.out.Iw (.head _)⟩⟩
   ·have hl : L0 = l := by rw [IU.out, if_neg hen]
    have hed : decide (en = 0) = false := decide_eq_false hen
    have heb : (en == 0) = false := beq_eq_false_iff_ne.mpr hen
    go_wp2
    go_meet
    case rel => rw [hl]; exact ⟨_, _, ⟨S.out.Iw (.tail _ (.head _))⟩⟩
  case rest =>
   clear S Px IU
   obtain ⟨A0, c0, S⟩ := hcut
   rename World => wx
   have b_ := (S.out.at (.tail _ (.head _)) 6).trans rfl
   go_wp2_with (first
    | ((with_reducible refine az 18 rfl ?_); refine Oc (some 18) Try.func137 S (FC L0 gy.out (S.out.tree _ (.head _))) ?_; clear S; intro A1 c1 tC S; clear b_)
    | ((with_reducible refine fP 24 (.tmp 19) (.tmp 18) rfl ?_); refine wM 24 19 18 #[.int .u8 ck, .int .i64 cx, .int .i64 cy, .int .i64 cw, .int .i64 ch, .int .i64 aj, .slice A1 L0.length c1] 6 1 S ?_; clear S; intro Cc S; have b_ := (S.out.at (.tail _ (.head _)) 6).trans rfl)
    | fail)
   clear b_
   go_loopg [23] L0.length (fun gg v23 wr => ∃ (pre rest : List ai), v23 = .int .i64 (pre.length : Int) ∧ ae (pre ++ rest = L0) ∧ rest.length ≤ gg ∧ ae (St w P [(some b2, .cells #[.int .u8 0, .int .i64 0, .int .i64 0, .int .i64 0, .int .i64 0, .int .i64 0, .slice none 0 0] 26 (0, 0)), (some b1, .cells #[.int .u8 ck, .int .i64 cx, .int .i64 cy, .int .i64 cw, .int .i64 ch, .int .i64 aj, .slice A1 L0.length c1] 26 (0, 0))] [(.slice A1 L0.length c1, (pre.map (cZ N) ++ rest))] [(.slice A0 L0.length c0, L0)] [] wr))
   case atStart => exact ⟨[], L0, rfl, ⟨rfl⟩, Nat.le_refl _, ⟨S.out⟩⟩
   case round =>
    clear S
    obtain ⟨pre, rest, rfl, HE, hgg, S⟩ := hrel
    cases rest with
    | nil =>
     have hE := HE.out
     rw [List.append_nil] at hE
     have hE2 := hE.symm
     subst hE2
     clear hE HE hgg
     have hlt : ¬ ((L0.length : Int) < (L0.length : Int)) := by omega
     obtain ⟨bG, dV, dW, dZ, d_, fC, b_⟩ := St.iJ S (.tail _ (.head _))
     go_wp2_with (first
      | ((with_reducible refine fP 26 (.tmp 2) (.tmp 35) rfl ?_); refine kD 26 2 35 #[.int .u8 ck, .int .i64 cx, .int .i64 cy, .int .i64 cw, .int .i64 ch, .int .i64 aj, .slice A1 L0.length c1] 0 7 S ?_; clear S; intro AB S; clear bG dV dW dZ d_ fC b_)
      | fail)
     refine bodyPost_ret (results_cell_row rfl _ _ b2 26 #[.int .u8 ck, .int .i64 cx, .int .i64 cy, .int .i64 cw, .int .i64 ch, .int .i64 aj, .slice A1 L0.length c1] (0, 0) _ rfl (S.out.blk _ (.head _) _ rfl) Try.underlying26 rfl (by kernel_rfl)) rfl ?_
     have hN := S.out.uY
     rw [List.append_nil] at hN
     simp only [tY, List.length_map]
     exact ⟨_, _, rfl, hN, S.out.below⟩
    | cons k rest =>
     have hk : k ∈ L0 := by rw [← HE.out]; simp
     have hlt : (pre.length : Int) < (L0.length : Int) := by rw [← HE.out, List.length_append, List.length_cons]; omega
     have hw1 : wrap64 ((pre.length : Int) + 1) = ((pre ++ [k]).length : Int) := by have := gy.out; rw [List.length_append, List.length_singleton]; unfold wrap64; omega
     have HW1 := ae.mk hw1
     have jd := ae.mk hgg
     have HK := ae.mk hk
     have yt := ae.mk (show (pre.length : Int) < ((pre.map (cZ N) ++ k :: rest).length : Int) by rw [List.length_append, List.length_map, List.length_cons]; omega)
     obtain ⟨g, cap, ev, _⟩ := Kd.AU S.out.uY (by have := yt.out; omega)
     injection ev with e1 e2 e3
     subst e1
     clear e2 e3 hk hgg hw1
     obtain ⟨ua, uc, S1, hcell⟩ := S.out.CQ (pre.length : Int) (Int.natCast_nonneg _) yt.out
     have hrd : aI (pre.map (cZ N) ++ k :: rest) (pre.length : Int) = k := abN (cZ N) pre k rest
     rw [hrd] at S1 hcell
     replace S := ae.mk S1
     have x0 : wr.cell? ⟨g, pre.length * 7, none⟩ = some (.int .u8 k.f0) := hcell 0 _ rfl
     have x1 : wr.cell? ⟨g, pre.length * 7 + 1, none⟩ = some (.int .i64 k.f1.f0) := hcell 1 _ rfl
     have x2 : wr.cell? ⟨g, pre.length * 7 + 2, none⟩ = some (.int .i64 k.f1.f1) := hcell 2 _ rfl
     have x3 : wr.cell? ⟨g, pre.length * 7 + 3, none⟩ = some (.int .i64 k.f1.f2) := hcell 3 _ rfl
     have x4 : wr.cell? ⟨g, pre.length * 7 + 4, none⟩ = some (.int .i64 k.f1.f3) := hcell 4 _ rfl
     have x5 : wr.cell? ⟨g, pre.length * 7 + 5, none⟩ = some (.int .i64 k.f2) := hcell 5 _ rfl
     have x6 : wr.cell? ⟨g, pre.length * 7 + 6, none⟩ = some (.slice ua k.f3.length uc) := hcell 6 _ rfl
     clear S1 hcell hrd
     go_wp2_with (first
      | ((with_reducible refine az 6 rfl ?_); refine boxS 6 #[.int .u8 0, .int .i64 0, .int .i64 0, .int .i64 0, .int .i64 0, .int .i64 0, .slice none 0 0] 26 S ?_; clear S; intro b6 Fb S; clear x0 x1 x2 x3 x4 x5 x6)
      | ((with_reducible refine fP 26 (.tmp 6) (.tmp 27) rfl ?_); refine kD 26 6 27 #[.int .u8 k.f0, .int .i64 k.f1.f0, .int .i64 k.f1.f1, .int .i64 k.f1.f2, .int .i64 k.f1.f3, .int .i64 k.f2, .slice ua k.f3.length uc] 0 7 S ?_; clear S; intro H9 S)
      | fail)
     refine jA (n := 7) (S := fun w' => St w _ _ _ _ _ w') (ds := [6]) (bA 7 0) (by kernel_rfl) rfl rfl (S.out.call (bF (Below.refl _ _))) (fun hHeld => ?_); refine f_ vZ.U4 vZ.NQ (fun au eF => ?_)
     replace S := ae.mk (S.out.call (bF (Below.refl _ _)))
     generalize H9.drew = ajF at S hHeld ⊢
     refine aG 0 28 (bA 7 1) au ?_
     refine dJ 1 29 (bA 7 3) au eF hHeld ?_ (hv := by intro w' hs_; have b_ := (hs_.at (.tail _ (.tail _ (.head _))) 6).trans rfl; go_simp; with_reducible rfl)
     refine aG 2 30 (bA 7 7) au ?_
     refine dJ 3 31 (bA 7 15) au eF hHeld ?_ (hv := by intro w' hs_; have aiu := (hs_.at (.head _) 0).trans rfl; have aiv := (hs_.at (.head _) 1).trans rfl; have aiw := (hs_.at (.head _) 2).trans rfl; have aix := (hs_.at (.head _) 3).trans rfl; have aiy := (hs_.at (.head _) 4).trans rfl; have aiz := (hs_.at (.head _) 5).trans rfl; have aiA := (hs_.at (.head _) 6).trans rfl; go_simp; with_reducible rfl)
     refine gZ (i := 4) (N := some 32) (bA 7 31) rfl rfl (dG au.out (by kernel_rfl)) (by decide) (fun K hK => ?_)
     refine fM Try.func153 (by kernel_rfl) rfl #[.agg #[.int .u8 k.f0, .int .i64 k.f1.f0, .int .i64 k.f1.f1, .int .i64 k.f1.f2, .int .i64 k.f1.f3, .int .i64 k.f2, .slice ua k.f3.length uc]] (by rfl) rfl rfl (by (try simp only [List.map_toArray, List.map_cons, List.map_nil]); first | done | rfl) ?_
     refine (IH.out k HK.out _ ua uc _ (fK (S.out.tree _ (.head _)))).mono ?_
     rintro e Ee ⟨A32, ai2, rfl, h1, hb⟩
     refine ⟨_, rfl, ?_⟩
     replace S := ae.mk (S.out.res (Kd.rG (base' := 0) h1) hb)
     clear h1 hb
     refine hK.out _ _ S.out.bH (fun hHeld => ?_)
     clear hK K
     refine ed 32 ?_
     refine aG 5 33 (bA 7 63) au ?_
     refine qX (i := 6) (N := none) (bA 7 127) rfl rfl (dG au.out (by kernel_rfl)) (by decide) (fun K hK => ?_)
     refine MX (pre.length : Int) (cZ N k) (.tmp 33) (.tmp 32) rfl S.out (by rfl) rfl (Int.natCast_nonneg _) yt.out (by first | rfl | (go_simp; rfl)) rfl (by kernel_rfl) (.head _) ?_
     intro KF S1
     rw [show (pre.map (cZ N) ++ k :: rest).set (pre.length : Int).toNat (cZ N k) = (pre ++ [k]).map (cZ N) ++ rest from Yx (cZ N) pre k rest] at S1
     replace S := ae.mk S1
     clear S1
     refine hK.out _ _ ?_
     clear hK K
     refine kG (iK au.out (by kernel_rfl)) ?_
     clear hHeld
     go_wp2
     have hw1 := HW1.out
     go_wp2
     go_roundg rest.length
     case measure => exact Nat.lt_of_lt_of_le (Nat.lt_succ_self _) jd.out
     case rel => exact ⟨pre ++ [k], rest, (by rw [hw1]), ⟨by rw [List.append_assoc]; exact HE.out⟩, Nat.le_refl _, ⟨S.out.eH.bH.bH⟩⟩
def vX.T3 : Bool × List (List Nat × List Nat) := (true, [([], []), ([0], [0]), ([], []), ([2], [2]), ([3], [3]), ([], []), ([5], [5]), ([6], [6]), ([1, 4, 7, 1], [1, 4, 7]), ([8, 8, 0, 1, 2, 3, 4, 5, 6, 7, 8], [8]), ([9, 0, 1, 2, 3, 4, 5, 6, 7, 8, 9], [])])
def vX.B3 : List Nat := [0, 1, 0, 4, 12, 0, 32, 96, 255, 511, 1023]
theorem vX.BX : iP .any (opsOf Try.f107 3) = vX.T3 := by kernel_rfl
theorem vX.yA : iL vX.T3.2 vX.B3 = true := by kernel_rfl
theorem ZV (c : ai) (hz : sz c ≤ 1048576) (P : Nat → Prop) (A : Option Addr) (cc : Nat) (w : World) (hv : Kd.V k26 26 w w.heap.size P (.slice A c.f3.length cc) c.f3) :
  Calls Try.prog 107 #[.agg #[.int .u8 c.f0, .int .i64 c.f1.f0, .int .i64 c.f1.f1, .int .i64 c.f1.f2, .int .i64 c.f1.f3, .int .i64 c.f2, .slice A c.f3.length cc]] w (yu w P (nX c) (NL c)) := by
 have S := ae.mk (St.start (ts := [(.slice A c.f3.length cc, c.f3)]) (b0 := w.heap.size) (w := w) (P := P) (fun t ht => by rw [List.mem_singleton.1 ht]; exact hv))
 have HZ := ae.mk hz
 have hs := fun h => oW (qO (c := c) h)
 unfold nX NL
 obtain ⟨ck, ⟨cx, cy, cw, ch⟩, aj, l⟩ := c
 simp only [] at S ⊢
 clear hv hz
 cases ht : fB ⟨ck, ⟨cx, cy, cw, ch⟩, aj, l⟩ with
 | false =>
  have HT := ae.mk ht
  clear ht hs
  go_enter Try.func107, Try.ntmps107
  go_wp2_with (first
   | ((with_reducible refine az 1 rfl ?_); refine boxS 1 #[.int .u8 ck, .int .i64 cx, .int .i64 cy, .int .i64 cw, .int .i64 ch, .int .i64 aj, .slice A l.length cc] 26 S ?_; clear S; intro b1 fF S)
   | ((with_reducible refine az 2 rfl ?_); refine boxS 2 #[.int .u8 0, .int .i64 0, .int .i64 0, .int .i64 0, .int .i64 0, .int .i64 0, .slice none 0 0] 26 S ?_; clear S; intro b2 iw S; obtain ⟨bG, dV, dW, dZ, d_, fC, b_⟩ := St.iJ S (.tail _ (.head _)))
   | ((with_reducible refine aC (N := 5) rfl ?_); refine xg (N := 5) rfl rfl ⟨ck, ⟨cx, cy, cw, ch⟩, aj, l⟩ S.out (S.out.tree _ (.head _)) ?hr ?_; (case hr => first | (go_simp; done) | (go_simp; rfl)); intro Al5 cl5 jT S1 h1 h2; replace S := ae.mk S1; have xq := ae.mk h1; have yU := ae.mk h2; clear S1 h1 h2; clear bG dV dW dZ d_ fC b_)
   | ((with_reducible refine az 6 rfl ?_); refine dN (some 6) Try.func148 S (qh HT.out (xn ⟨ck, ⟨cx, cy, cw, ch⟩, aj, l⟩ HZ.out yU.out xq.out)) ?_; clear S; intro lQ S)
   | ((with_reducible refine fP 26 (.tmp 2) (.tmp 8) rfl ?_); refine kD 26 2 8 #[.int .u8 0, .int .i64 0, .int .i64 0, .int .i64 0, .int .i64 0, .int .i64 0, .slice none 0 0] 0 7 S ?_; clear S; intro tC S)
   | fail)
  refine bodyPost_ret (gJ rfl _ _ b2 26 #[.int .u8 0, .int .i64 0, .int .i64 0, .int .i64 0, .int .i64 0, .int .i64 0, .slice none 0 0] (0, 0) _ rfl (S.out.blk _ (.head _) _ rfl) Try.underlying26 rfl (by kernel_rfl)) rfl ?_
  exact ⟨_, _, rfl, Kd.qm _ _ _ _ _, S.out.below⟩
 | true =>
  have hs2 := hs ht
  have HZ2 := ae.mk (show sz ⟨ck, ⟨cx, cy, cw, ch⟩, aj, l⟩ ≤ 100000 by omega)
  have HZ3 := ae.mk (show sz (cZ 100000 ⟨ck, ⟨cx, cy, cw, ch⟩, aj, l⟩) ≤ 1000000 by have := Ky 100000 ⟨ck, ⟨cx, cy, cw, ch⟩, aj, l⟩; omega)
  have HT := ae.mk ht
  clear ht hs hs2
  go_enter Try.func107, Try.ntmps107
  go_wp2_with (first
   | ((with_reducible refine az 1 rfl ?_); refine boxS 1 #[.int .u8 ck, .int .i64 cx, .int .i64 cy, .int .i64 cw, .int .i64 ch, .int .i64 aj, .slice A l.length cc] 26 S ?_; clear S; intro b1 fF S)
   | ((with_reducible refine az 2 rfl ?_); refine boxS 2 #[.int .u8 0, .int .i64 0, .int .i64 0, .int .i64 0, .int .i64 0, .int .i64 0, .slice none 0 0] 26 S ?_; clear S; intro b2 iw S; obtain ⟨bG, dV, dW, dZ, d_, fC, b_⟩ := St.iJ S (.tail _ (.head _)))
   | ((with_reducible refine aC (N := 5) rfl ?_); refine xg (N := 5) rfl rfl ⟨ck, ⟨cx, cy, cw, ch⟩, aj, l⟩ S.out (S.out.tree _ (.head _)) ?hr ?_; (case hr => first | (go_simp; done) | (go_simp; rfl)); intro Al5 cl5 jT S1 h1 h2; replace S := ae.mk S1; have xq := ae.mk h1; have yU := ae.mk h2; clear S1 h1 h2; clear bG dV dW dZ d_ fC b_)
   | ((with_reducible refine az 6 rfl ?_); refine dN (some 6) Try.func148 S (qh HT.out (xn ⟨ck, ⟨cx, cy, cw, ch⟩, aj, l⟩ HZ.out yU.out xq.out)) ?_; clear S; intro lQ S)
   | fail)
  refine jA (n := 11) (S := fun w' => St w _ _ _ _ _ w') (ds := [9]) (bA 11 0) (by kernel_rfl) rfl rfl (S.out.call (bF (Below.refl _ _))) (fun hHeld => ?_); refine f_ vX.BX vX.yA (fun au eF => ?_)
  replace S := ae.mk (S.out.call (bF (Below.refl _ _)))
  generalize lQ.drew = wd5 at S hHeld ⊢
  refine dJ 0 9 (bA 11 1) au eF hHeld ?_ (hv := by intro w' hs_; have bG := (hs_.at (.tail _ (.head _)) 0).trans rfl; have dV := (hs_.at (.tail _ (.head _)) 1).trans rfl; have dW := (hs_.at (.tail _ (.head _)) 2).trans rfl; have dZ := (hs_.at (.tail _ (.head _)) 3).trans rfl; have d_ := (hs_.at (.tail _ (.head _)) 4).trans rfl; have fC := (hs_.at (.tail _ (.head _)) 5).trans rfl; have b_ := (hs_.at (.tail _ (.head _)) 6).trans rfl; go_simp; with_reducible rfl)
  refine aG 2 11 (bA 11 5) au ?_
  refine aG 3 12 (bA 11 13) au ?_
  refine dJ 4 13 (bA 11 29) au eF hHeld ?_ (hv := by intro w' hs_; have dV := (hs_.at (.tail _ (.head _)) 1).trans rfl; go_simp; with_reducible rfl)
  refine aG 5 14 (bA 11 61) au ?_
  refine aG 6 15 (bA 11 125) au ?_
  refine dJ 7 16 (bA 11 253) au eF hHeld ?_ (hv := by intro w' hs_; have dW := (hs_.at (.tail _ (.head _)) 2).trans rfl; go_simp; with_reducible rfl)
  refine gZ (i := 1) (N := some 10) (bA 11 255) rfl rfl (dG au.out (by kernel_rfl)) (by decide) (fun K hK => ?_)
  refine fM Try.func153 (by kernel_rfl) rfl #[.agg #[.int .u8 ck, .int .i64 cx, .int .i64 cy, .int .i64 cw, .int .i64 ch, .int .i64 aj, .slice A l.length cc]] (by rfl) rfl rfl (by (try simp only [List.map_toArray, List.map_cons, List.map_nil]); first | done | rfl) ?_
  refine (ZW 100000 ⟨ck, ⟨cx, cy, cw, ch⟩, aj, l⟩ HZ2.out (Nat.le_refl _) _ A cc _ (fK (S.out.tree _ (.head _)))).mono ?_
  rintro e Cc ⟨K_, aeQ, rfl, h1, hb⟩
  refine ⟨_, rfl, ?_⟩
  replace S := ae.mk (S.out.res (Kd.rG (base' := 0) h1) hb)
  clear h1 hb
  refine hK.out _ _ S.out.bH (fun hHeld => ?_)
  clear hK K
  refine ed 10 ?_
  refine gZ (i := 8) (N := some 17) (bA 11 511) rfl rfl (dG au.out (by kernel_rfl)) (by decide) (fun K hK => ?_)
  refine fM Try.func66 (by kernel_rfl) rfl #[.agg #[.int .u8 ((cZ 100000 ⟨ck, ⟨cx, cy, cw, ch⟩, aj, l⟩).f0), .int .i64 ((cZ 100000 ⟨ck, ⟨cx, cy, cw, ch⟩, aj, l⟩).f1.f0), .int .i64 ((cZ 100000 ⟨ck, ⟨cx, cy, cw, ch⟩, aj, l⟩).f1.f1), .int .i64 ((cZ 100000 ⟨ck, ⟨cx, cy, cw, ch⟩, aj, l⟩).f1.f2), .int .i64 ((cZ 100000 ⟨ck, ⟨cx, cy, cw, ch⟩, aj, l⟩).f1.f3), .int .i64 ((cZ 100000 ⟨ck, ⟨cx, cy, cw, ch⟩, aj, l⟩).f2), .slice K_ ((cZ 100000 ⟨ck, ⟨cx, cy, cw, ch⟩, aj, l⟩).f3.length) aeQ], .int .i64 cx, .int .i64 cy] (by rfl) rfl rfl (by (try simp only [List.map_toArray, List.map_cons, List.map_nil]); first | done | rfl) ?_
  refine (Iy (cZ 100000 ⟨ck, ⟨cx, cy, cw, ch⟩, aj, l⟩) cx cy HZ3.out (S.out.tree _ (.head _))).mono ?_
  rintro e AB ⟨La, NW, rfl, h1, hb⟩
  refine ⟨_, rfl, ?_⟩
  replace S := ae.mk (S.out.Gq h1 hb)
  clear h1 hb
  refine hK.out _ _ S.out.free.bH.bH (fun hHeld => ?_)
  clear hK K
  refine ed 17 ?_
  refine qX (i := 9) (N := none) (bA 11 1023) rfl rfl (dG au.out (by kernel_rfl)) (by decide) (fun K hK => ?_)
  refine xk 0 rfl 26 (.tmp 2) (.tmp 17) rfl #[.int .u8 ((aQ (cZ 100000 ⟨ck, ⟨cx, cy, cw, ch⟩, aj, l⟩) cx cy).f0), .int .i64 ((aQ (cZ 100000 ⟨ck, ⟨cx, cy, cw, ch⟩, aj, l⟩) cx cy).f1.f0), .int .i64 ((aQ (cZ 100000 ⟨ck, ⟨cx, cy, cw, ch⟩, aj, l⟩) cx cy).f1.f1), .int .i64 ((aQ (cZ 100000 ⟨ck, ⟨cx, cy, cw, ch⟩, aj, l⟩) cx cy).f1.f2), .int .i64 ((aQ (cZ 100000 ⟨ck, ⟨cx, cy, cw, ch⟩, aj, l⟩) cx cy).f1.f3), .int .i64 ((aQ (cZ 100000 ⟨ck, ⟨cx, cy, cw, ch⟩, aj, l⟩) cx cy).f2), .slice La ((aQ (cZ 100000 ⟨ck, ⟨cx, cy, cw, ch⟩, aj, l⟩) cx cy).f3.length) NW] (j := 0) (u := .agg #[.int .u8 ((aQ (cZ 100000 ⟨ck, ⟨cx, cy, cw, ch⟩, aj, l⟩) cx cy).f0), .int .i64 ((aQ (cZ 100000 ⟨ck, ⟨cx, cy, cw, ch⟩, aj, l⟩) cx cy).f1.f0), .int .i64 ((aQ (cZ 100000 ⟨ck, ⟨cx, cy, cw, ch⟩, aj, l⟩) cx cy).f1.f1), .int .i64 ((aQ (cZ 100000 ⟨ck, ⟨cx, cy, cw, ch⟩, aj, l⟩) cx cy).f1.f2), .int .i64 ((aQ (cZ 100000 ⟨ck, ⟨cx, cy, cw, ch⟩, aj, l⟩) cx cy).f1.f3), .int .i64 ((aQ (cZ 100000 ⟨ck, ⟨cx, cy, cw, ch⟩, aj, l⟩) cx cy).f2), .slice La ((aQ (cZ 100000 ⟨ck, ⟨cx, cy, cw, ch⟩, aj, l⟩) cx cy).f3.length) NW]) (bI := [.int .u8 ((aQ (cZ 100000 ⟨ck, ⟨cx, cy, cw, ch⟩, aj, l⟩) cx cy).f0), .int .i64 ((aQ (cZ 100000 ⟨ck, ⟨cx, cy, cw, ch⟩, aj, l⟩) cx cy).f1.f0), .int .i64 ((aQ (cZ 100000 ⟨ck, ⟨cx, cy, cw, ch⟩, aj, l⟩) cx cy).f1.f1), .int .i64 ((aQ (cZ 100000 ⟨ck, ⟨cx, cy, cw, ch⟩, aj, l⟩) cx cy).f1.f2), .int .i64 ((aQ (cZ 100000 ⟨ck, ⟨cx, cy, cw, ch⟩, aj, l⟩) cx cy).f1.f3), .int .i64 ((aQ (cZ 100000 ⟨ck, ⟨cx, cy, cw, ch⟩, aj, l⟩) cx cy).f2), .slice La ((aQ (cZ 100000 ⟨ck, ⟨cx, cy, cw, ch⟩, aj, l⟩) cx cy).f3.length) NW]) S.out (by rfl) rfl rfl rfl rfl (by kernel_rfl) (by simp [Value.oneCell']) (by first | decide | simp) rfl ?_
  intro Fb S1
  simp only [List.set_cons_zero, List.set_cons_succ] at S1
  replace S := ae.mk S1
  clear S1
  refine hK.out _ _ ?_
  clear hK K
  refine aG 10 3 (bA 11 2047) au ?_
  refine kG (iK au.out (by kernel_rfl)) ?_
  clear hHeld
  go_wp2
  refine bodyPost_ret (gJ rfl _ _ b2 26 #[.int .u8 ((aQ (cZ 100000 ⟨ck, ⟨cx, cy, cw, ch⟩, aj, l⟩) cx cy).f0), .int .i64 ((aQ (cZ 100000 ⟨ck, ⟨cx, cy, cw, ch⟩, aj, l⟩) cx cy).f1.f0), .int .i64 ((aQ (cZ 100000 ⟨ck, ⟨cx, cy, cw, ch⟩, aj, l⟩) cx cy).f1.f1), .int .i64 ((aQ (cZ 100000 ⟨ck, ⟨cx, cy, cw, ch⟩, aj, l⟩) cx cy).f1.f2), .int .i64 ((aQ (cZ 100000 ⟨ck, ⟨cx, cy, cw, ch⟩, aj, l⟩) cx cy).f1.f3), .int .i64 ((aQ (cZ 100000 ⟨ck, ⟨cx, cy, cw, ch⟩, aj, l⟩) cx cy).f2), .slice La ((aQ (cZ 100000 ⟨ck, ⟨cx, cy, cw, ch⟩, aj, l⟩) cx cy).f3.length) NW] (0, 0) _ rfl (S.out.blk _ (.head _) _ rfl) Try.underlying26 rfl (by kernel_rfl)) rfl ?_
  exact ⟨_, _, rfl, S.out.uY, S.out.below⟩
theorem ad3 (k : ai) (x : Int) : xY 2 k x = wrap64 (wrap64 (x + k.f1.f2) + 1) := by
 unfold xY
 rw [if_pos rfl]
 unfold wrap64
 omega
theorem ad4 (k : ai) (y : Int) : xZ 3 k y = wrap64 (wrap64 (y + k.f1.f3) + 1) := by
 unfold xZ
 rw [if_neg (by decide), if_pos rfl]
 unfold wrap64
 omega
theorem ab9 : ∀ (N : Nat) (c : ai), sz c ≤ N → N ≤ 1000000 → ∀ (P : Nat → Prop) (A : Option Addr) (cc : Nat) (x y : Int) (w : World), Kd.V k26 26 w w.heap.size P (.slice A c.f3.length cc) c.f3 →
  Calls Try.prog 67 #[.agg #[.int .u8 c.f0, .int .i64 c.f1.f0, .int .i64 c.f1.f1, .int .i64 c.f1.f2, .int .i64 c.f1.f3, .int .i64 c.f2, .slice A c.f3.length cc], .int .i64 x, .int .i64 y] w (tY w P (aQ c x y)) := by
 intro N
 induction N with
 | zero => intro c h; rw [dR] at h; omega
 | succ N ih =>
  intro c hc hN P A cc x y w hv
  have hsz := dR c
  have S := ae.mk (St.start (ts := [(.slice A c.f3.length cc, c.f3)]) (b0 := w.heap.size) (w := w) (P := P) (fun t ht => by rw [List.mem_singleton.1 ht]; exact hv))
  rw [xm]
  have hlen := jJ c.f3
  have gy := ae.mk (show c.f3.length ≤ 1000000 by omega)
  have IH := ae.mk fun (k : ai) (hk : k ∈ c.f3) P A cc x y w h => ih k (by have := qg hk; omega) (by omega) P A cc x y w h
  obtain ⟨ck, ⟨cx, cy, cw, ch⟩, aj, l⟩ := c
  simp only [] at S IH gy ⊢
  clear ih hc hN hv hsz hlen
  go_enter Try.func67, Try.ntmps67
  go_wp2_with (first
   | ((with_reducible refine az 3 rfl ?_); refine boxS 3 #[.int .u8 ck, .int .i64 cx, .int .i64 cy, .int .i64 cw, .int .i64 ch, .int .i64 aj, .slice A l.length cc] 26 S ?_; clear S; intro b3 fF S)
   | ((with_reducible refine az 6 rfl ?_); refine boxS 6 #[.int .u8 0, .int .i64 0, .int .i64 0, .int .i64 0, .int .i64 0, .int .i64 0, .slice none 0 0] 26 S ?_; clear S; intro b6 iw S)
   | ((with_reducible refine fP 3 (.tmp 11) (.tmp 9) rfl ?_); refine wM 3 11 9 #[.int .u8 ck, .int .i64 x, .int .i64 cy, .int .i64 cw, .int .i64 ch, .int .i64 aj, .slice A l.length cc] 1 1 S ?_; clear S; intro jT S)
   | ((with_reducible refine fP 3 (.tmp 14) (.tmp 12) rfl ?_); refine wM 3 14 12 #[.int .u8 ck, .int .i64 x, .int .i64 y, .int .i64 cw, .int .i64 ch, .int .i64 aj, .slice A l.length cc] 2 1 S ?_; clear S; intro lQ S)
   | ((with_reducible refine az 15 rfl ?_); refine xJ (N := 15) rfl rfl S.out ?hr ?_; (case hr => first | (go_simp; done) | (go_simp; rfl)); intro Ns N8 tC S1; replace S := ae.mk S1; clear S1; have dH := (S.out.at (.tail _ (.head _)) 6).trans rfl)
   | fail)
  clear dH
  go_loopg [7, 19, 1, 2] l.length (fun gg v7 v19 v1 v2 wr => ∃ (pre rest : List ai) (Ap : Option Addr) (cp : Nat), v7 = .slice Ap pre.length cp ∧ v19 = .int .i64 (pre.length : Int) ∧ v1 = .int .i64 (mg ck pre x) ∧ v2 = .int .i64 (mi ck pre y) ∧ ae (pre ++ rest = l) ∧ rest.length ≤ gg ∧ ae (St w P [(some b6, .cells #[.int .u8 0, .int .i64 0, .int .i64 0, .int .i64 0, .int .i64 0, .int .i64 0, .slice none 0 0] 26 (0, 0)), (some b3, .cells #[.int .u8 ck, .int .i64 x, .int .i64 y, .int .i64 cw, .int .i64 ch, .int .i64 aj, .slice A l.length cc] 26 (0, 0))] [(.slice Ap pre.length cp, (lC ck pre x y))] [(.slice A l.length cc, l)] [] wr))
  case atStart => exact ⟨[], l, _, _, rfl, rfl, rfl, rfl, ⟨rfl⟩, Nat.le_refl _, ⟨by rw [sD]; exact S.out⟩⟩
  case round =>
   clear S
   obtain ⟨pre, rest, Ap, cp, rfl, rfl, rfl, rfl, HE, hgg, S⟩ := hrel
   cases rest with
   | nil =>
    have hE := HE.out
    rw [List.append_nil] at hE
    have hE2 := hE.symm
    subst hE2
    clear hE HE hgg
    have hlt : ¬ ((l.length : Int) < (l.length : Int)) := by omega
    go_wp2_with (first
     | ((with_reducible refine fP 24 (.tmp 61) (.tmp 60) rfl ?_); refine wM 24 61 60 #[.int .u8 ck, .int .i64 x, .int .i64 y, .int .i64 cw, .int .i64 ch, .int .i64 aj, .slice Ap l.length cp] 6 1 S ?_; clear S; intro Cc S; obtain ⟨bT, bU, bV, bW, eG, fO, dH⟩ := St.iJ S (.tail _ (.head _)))
     | ((with_reducible refine fP 26 (.tmp 6) (.tmp 62) rfl ?_); refine kD 26 6 62 #[.int .u8 ck, .int .i64 x, .int .i64 y, .int .i64 cw, .int .i64 ch, .int .i64 aj, .slice Ap l.length cp] 0 7 S ?_; clear S; intro AB S; clear bT bU bV bW eG fO dH)
     | fail)
    refine bodyPost_ret (results_cell_row rfl _ _ b6 26 #[.int .u8 ck, .int .i64 x, .int .i64 y, .int .i64 cw, .int .i64 ch, .int .i64 aj, .slice Ap l.length cp] (0, 0) _ rfl (S.out.blk _ (.head _) _ rfl) Try.underlying26 rfl (by kernel_rfl)) rfl ?_
    have hN := S.out.uY
    simp only [tY, pJ]
    exact ⟨_, _, rfl, hN, S.out.below⟩
   | cons k rest =>
    have hk : k ∈ l := by rw [← HE.out]; simp
    have hlt : (pre.length : Int) < (l.length : Int) := by rw [← HE.out, List.length_append, List.length_cons]; omega
    have hw1 : wrap64 ((pre.length : Int) + 1) = ((pre ++ [k]).length : Int) := by have := gy.out; rw [List.length_append, List.length_singleton]; unfold wrap64; omega
    have HW1 := ae.mk hw1
    have jd := ae.mk hgg
    have HK := ae.mk hk
    have qB := ae.mk (show pre.length ≤ 1000000 by have := gy.out; omega)
    obtain ⟨iO, ua, uc, ek, S1⟩ := S.out.elem (.head _) (pre.length : Int) (Int.natCast_nonneg _) hlt
    subst ek
    have hrd : aI l (pre.length : Int) = k := by rw [← HE.out]; exact iZ pre k rest
    rw [hrd] at S1
    simp only [Int.toNat_natCast] at S1
    replace S := ae.mk S1
    clear S1 hrd hk hgg hw1
    by_cases h2 : ck = 2
    ·subst h2
     obtain ⟨jB, jb, jc, iG, iH, jM, jO⟩ := St.yD S
     have dH := (S.out.at (.tail _ (.head _)) 6).trans rfl
     go_wp2_with (first
      | ((with_reducible refine az 30 rfl ?_); refine uk (some 30) Try.func67 S (IH.out k HK.out _ ua uc _ _ _ (fK (S.out.tree _ (.head _)))) ?_; clear S; intro A30 aad Fb S; clear jB jb jc iG iH jM jO dH)
      | ((with_reducible refine az 32 rfl ?_); at_builtin; go_loud (refine xe (.tmp 22) (.tmp 31) rfl rfl Try.underlying24 info26 S.out (aQ k (mg 2 pre x) (mi 2 pre y)) (.head _) rfl (by first | (go_simp; done) | (go_simp; rfl)) (by have := qB.out; rw [pJ]; omega) ?_); intro Aq cq H9 S1; rw [← yK 2 k pre x y] at S1 ⊢; rw [pJ] at S1 ⊢; replace S := ae.mk S1; clear S1; have bT := (S.out.at (.tail _ (.head _)) 0).trans rfl; have dH := (S.out.at (.tail _ (.head _)) 6).trans rfl; have iG := (S.out.cell _ (.tail _ (.tail _ (.tail _ (.head _))))).1)
      | fail)
     clear bT dH iG
     have hw1 := HW1.out
     go_wp2
     go_roundg rest.length
     case measure => exact Nat.lt_of_lt_of_le (Nat.lt_succ_self _) jd.out
     case rel => exact ⟨pre ++ [k], rest, Aq, cq, (by simp), (by rw [hw1]), (by rw [qZ]; rw [ad3]), (by rw [rf]; simp [xZ]), ⟨by rw [List.append_assoc]; exact HE.out⟩, Nat.le_refl _, ⟨S.out.bH.bH.aU.aU.aU.aU.aU.aU.aU⟩⟩
    ·have h2b : (ck == 2) = false := beq_eq_false_iff_ne.mpr h2
     have h2d : decide (ck = 2) = false := decide_eq_false h2
     by_cases h3 : ck = 3
     ·subst h3
      obtain ⟨jB, jb, jc, iG, iH, jM, jO⟩ := St.yD S
      have dH := (S.out.at (.tail _ (.head _)) 6).trans rfl
      go_wp2_with (first
       | ((with_reducible refine az 30 rfl ?_); refine uk (some 30) Try.func67 S (IH.out k HK.out _ ua uc _ _ _ (fK (S.out.tree _ (.head _)))) ?_; clear S; intro A30 aad Gy S; clear jB jb jc iG iH jM jO dH)
       | ((with_reducible refine az 32 rfl ?_); at_builtin; go_loud (refine xe (.tmp 22) (.tmp 31) rfl rfl Try.underlying24 info26 S.out (aQ k (mg 3 pre x) (mi 3 pre y)) (.head _) rfl (by first | (go_simp; done) | (go_simp; rfl)) (by have := qB.out; rw [pJ]; omega) ?_); intro Aq cq Ee S1; rw [← yK 3 k pre x y] at S1 ⊢; rw [pJ] at S1 ⊢; replace S := ae.mk S1; clear S1; have bT := (S.out.at (.tail _ (.head _)) 0).trans rfl; have dH := (S.out.at (.tail _ (.head _)) 6).trans rfl; have iH := (S.out.cell _ (.tail _ (.tail _ (.tail _ (.tail _ (.head _)))))).1)
       | fail)
      clear bT dH iH
      have hw1 := HW1.out
      go_wp2
      go_roundg rest.length
      case measure => exact Nat.lt_of_lt_of_le (Nat.lt_succ_self _) jd.out
      case rel => exact ⟨pre ++ [k], rest, Aq, cq, (by simp), (by rw [hw1]), (by rw [qZ]; simp [xY]), (by rw [rf]; rw [ad4]), ⟨by rw [List.append_assoc]; exact HE.out⟩, Nat.le_refl _, ⟨S.out.bH.bH.aU.aU.aU.aU.aU.aU.aU⟩⟩
     ·have h3b : (ck == 3) = false := beq_eq_false_iff_ne.mpr h3
      have h3d : decide (ck = 3) = false := decide_eq_false h3
      have H2 := ae.mk h2
      have H3 := ae.mk h3
      clear h2 h3
      obtain ⟨jB, jb, jc, iG, iH, jM, jO⟩ := St.yD S
      have dH := (S.out.at (.tail _ (.head _)) 6).trans rfl
      go_wp2_with (first
       | ((with_reducible refine az 30 rfl ?_); refine uk (some 30) Try.func67 S (IH.out k HK.out _ ua uc _ _ _ (fK (S.out.tree _ (.head _)))) ?_; clear S; intro A30 aad KF S; clear jB jb jc iG iH jM jO dH)
       | ((with_reducible refine az 32 rfl ?_); at_builtin; go_loud (refine xe (.tmp 22) (.tmp 31) rfl rfl Try.underlying24 info26 S.out (aQ k (mg ck pre x) (mi ck pre y)) (.head _) rfl (by first | (go_simp; done) | (go_simp; rfl)) (by have := qB.out; rw [pJ]; omega) ?_); intro Aq cq KG S1; rw [← yK ck k pre x y] at S1 ⊢; rw [pJ] at S1 ⊢; replace S := ae.mk S1; clear S1; have bT := (S.out.at (.tail _ (.head _)) 0).trans rfl)
       | fail)
      clear bT
      have hw1 := HW1.out
      go_wp2
      go_roundg rest.length
      case measure => exact Nat.lt_of_lt_of_le (Nat.lt_succ_self _) jd.out
      case rel => exact ⟨pre ++ [k], rest, Aq, cq, (by simp), (by rw [hw1]), (by rw [qZ]; unfold xY; rw [if_neg H2.out]), (by rw [rf]; unfold xZ; rw [if_neg H2.out, if_neg H3.out]), ⟨by rw [List.append_assoc]; exact HE.out⟩, Nat.le_refl _, ⟨S.out.bH.bH.aU.aU.aU.aU.aU.aU.aU⟩⟩
end Go.Proofs.Ytfdmfgaiblfbhaa.P
namespace Go.Proofs.Ytfdmfgaiblfbhaa.Pure
open Go.RowKit Go.Proofs.Ytfdmfgaiblfbhaa.P Go.Proofs.ag.aV Go.Proofs.ag.bM Go.Proofs.ag.di
theorem Ue {b : Int} {gs : List Int} {r : List Int × Bool} (h : zG b gs r) : r.2 = false → r.1 = [] := by
 rcases h with ⟨rfl, _⟩ | ⟨rfl, _⟩ | ⟨qs, rfl, _⟩ <;> simp
theorem ab4 (b : Int) (gs : List Int) (hl : gs.length ≤ 100000) (h0 : -100000 ≤ b) (h1 : b ≤ 100000) (r : List Int × Bool) (h : zG b gs r) : Ev (fun k => lu.f k b gs) r := by
 unfold lu.f
 refine Ev.jD ⟨h0, h1, hl⟩ ?_
 rcases h with ⟨rfl, h⟩ | ⟨rfl, hne, hg, hb⟩ | ⟨qs, rfl, hg, hb, hf, hq, he, ho, hr⟩
 ·rcases h with h | h | ⟨h, h2⟩
  ·exact Ev.jD h (Ev.now _)
  ·refine Ev.iY ?_ (Ev.iY h (Ev.now _))
   rintro rfl
   exact h fun g hg => by cases hg
  ·by_cases hne : gs = []
   ·exact Ev.jD hne (Ev.now _)
   ·refine Ev.iY hne (Ev.jD h ?_)
    have ht := yg gs fun g hg => (h g hg).1
    have := Ry (-b).toNat (-b) (gs.map fun g => (g, 0)) rfl (Fg h) (by rw [Dy]; omega) (by omega)
    rw [Int.neg_neg] at this
    exact this
 ·exact Ev.iY hne (Ev.jD hg (UM b gs hb hne))
 ·refine Ev.iY ?_ (Ev.jD hg hr)
  rintro rfl
  have : qs = [] := List.map_eq_nil_iff.1 hf
  subst this
  simp [outs] at ho
  omega
theorem H_ : ∀ (a b : List ai), fZ (a ++ b) = true → fZ b = true := by
 intro a
 induction a with
 | nil => intro b h; exact h
 | cons x xs ih =>
  intro b h
  rw [List.cons_append] at h
  simp only [fZ, Bool.and_eq_true] at h
  exact ih b h.2
theorem Ia (a b : List ai) (h : fZ (a ++ b) = true) : fZ a = true := by
 cases ha : fZ a with
 | true => rfl
 | false => rw [wL a b ha] at h; cases h
theorem Yy {c x : ai} (h : lq c = true) (hx : x ∈ c.f3) : lq x = true := by
 have hs := oW h
 have hok := vO h
 have h1 := RU hx
 have h2 := dR c
 have hd : fZ (nz c) = true := by
  unfold lq at h
  simp only [Bool.and_eq_true] at h
  exact h.2.2
 unfold lq
 rw [decide_eq_true (by omega), Gl hok hx, Bool.true_and, Bool.true_and]
 obtain ⟨p, q, e⟩ := List.append_of_mem hx
 have e2 : gU c = (c :: allL p) ++ (gU x ++ allL q) := by rw [sK, e, zI, nI]; rfl
 unfold nz at hd ⊢
 rw [e2, List.filter_append, List.filter_append] at hd
 exact Ia _ _ (H_ _ _ hd)
theorem RZ {c x : ai} (h : fB c = true) (hx : x ∈ c.f3) : fB x = true := by
 have hm := qO h
 unfold fB at h ⊢
 simp only [Bool.and_eq_true] at h
 rw [Yy hm hx, yQ h.2 hx]
 rfl
theorem Ho {ax : Int} (hax : ax = 1 ∨ ax = 2) {c : ai} (h : fB c = true) : dX ax c = bC ax c.f1 - dF ax c ∧ 0 ≤ bC ax c.f1 - dF ax c ∧ 1 ≤ dF ax c ∧ bC ax c.f1 ≤ 10000 := by
 have hm := qO h
 have hB : kW c = true := by
  unfold fB at h
  simp only [Bool.and_eq_true] at h
  exact h.2
 have f := zV hax (sz c) c (Nat.le_refl _) (oW hm) (vO hm)
 have g := f.2 hB
 have r := vU (zo (uX (vO hm))) hax
 unfold dX
 rw [if_pos ⟨hax, h⟩, wq (by omega) (by omega)]
 omega
end Go.Proofs.Ytfdmfgaiblfbhaa.Pure
namespace Go.Proofs.Ytfdmfgaiblfbhaa.P
open Go.RowKit Go.Proofs.ag.aV Go.Proofs.ag.bM Go.Proofs.ag.di
section
variable {W : World} {b : Nat} {P : Nat → Prop} {A : Option Addr} {cc : Nat}
theorem u_ (r : dE) (ax : Int) : Calls Try.prog 87 #[.agg #[.int .i64 r.f0, .int .i64 r.f1, .int .i64 r.f2, .int .i64 r.f3], .int .u8 ax] W fun e w' => e = .returned (.int .i64 (bC ax r)) ∧ Below W.heap.size W w' :=
 oP.calls r.f0 r.f1 r.f2 r.f3 ax _ W (OV r ax)
theorem OU (c : ai) (ax : Int) (hz : sz c ≤ 1048576) (ht : fB c = true) (hV : Kd.V k26 26 W b P (.slice A c.f3.length cc) c.f3) :
  Calls Try.prog 152 #[.agg #[.int .u8 c.f0, .int .i64 c.f1.f0, .int .i64 c.f1.f1, .int .i64 c.f1.f2, .int .i64 c.f1.f3, .int .i64 c.f2, .slice A c.f3.length cc], .int .u8 ax] W fun e w' => e = .returned (.int .i64 (dF ax c)) ∧ Below W.heap.size W w' := by
 exact adW ax _ c (Nat.le_refl _) hz (vO (qO ht)) b P A cc W hV
theorem UK (c : ai) (ax : Int) (hV : Kd.V k26 26 W b P (.slice A c.f3.length cc) c.f3) :
  Calls Try.prog 88 #[.agg #[.int .u8 c.f0, .int .i64 c.f1.f0, .int .i64 c.f1.f1, .int .i64 c.f1.f2, .int .i64 c.f1.f3, .int .i64 c.f2, .slice A c.f3.length cc], .int .u8 ax] W fun e w' => e = .returned (.bool (jf ax c.f0)) ∧ Below W.heap.size W w' := by
 have h := Kd.kz hV
 exact nS.calls _ _ _ _ _ _ A cc c.f3 ax _ W h.2.2 h.2.1 (Dt c ax)
theorem EW (c : ai) (x y : Int) (hz : sz c ≤ 1000000) (hV : Kd.V k26 26 W b P (.slice A c.f3.length cc) c.f3) :
  Calls Try.prog 67 #[.agg #[.int .u8 c.f0, .int .i64 c.f1.f0, .int .i64 c.f1.f1, .int .i64 c.f1.f2, .int .i64 c.f1.f3, .int .i64 c.f2, .slice A c.f3.length cc], .int .i64 x, .int .i64 y] W (tY W P (aQ c x y)) := by
 exact ab9 1000000 c hz (Nat.le_refl _) P A cc x y W (fK hV)
theorem RG (b : Int) (gs : List Int) (hl : gs.length ≤ 100000) (h0 : -100000 ≤ b) (h1 : b ≤ 100000) (hC : Kd.C (Kd.int .i64) W A gs.length gs) (hc : gs.length ≤ cc) :
  Calls Try.prog 50 #[.int .i64 b, .slice A gs.length cc] W fun e w' => ∃ A' c', e = .returned (.tuple #[.slice A' (oZ b gs).1.length c', .bool (oZ b gs).2]) ∧ (Kd.int .i64).R 3 w' W.heap.size (fun _ => True) (.slice A' (oZ b gs).1.length c') (oZ b gs).1 ∧ Below W.heap.size W w' := by
 obtain ⟨k, hk⟩ := (Pure.ab4 b gs hl h0 h1 _ (x_ b gs hl (by omega) (by omega)).1).rounds
 exact (lu.calls k b A cc gs _ _ W hC hc hk).mono (fun e w' ⟨v, he, hR, hB⟩ => by
  obtain ⟨A', c', rfl⟩ := Kd.fG hR
  exact ⟨A', c', he, hR, hB⟩)
end
theorem acf {b : Int} {gs : List Int} (hl : gs.length ≤ 100000) (h0 : -2147483647 ≤ b) (h1 : b ≤ 2147483647) (h : (oZ b gs).2 = false) : (oZ b gs).1 = [] := Pure.Ue (x_ b gs hl h0 h1).1 h
theorem RQ {b : Int} {gs : List Int} (hl : gs.length ≤ 100000) (h0 : -100000 ≤ b) (h1 : b ≤ 100000) (hg : ∀ g, g ∈ gs → g ≤ 100000) : ∀ x, x ∈ (oZ b gs).1 → -100000 ≤ x ∧ x ≤ 100000 := by
 intro x hx
 rcases (x_ b gs hl (by omega) (by omega)).1 with ⟨e, _⟩ | ⟨e, hne, _, hb⟩ | ⟨qs, e, _, _, hq, hgd, _⟩
 ·rw [e] at hx; cases hx
 ·rw [e] at hx
  simp only [moreL, List.mem_map, List.mem_range] at hx
  obtain ⟨i, hi, rfl⟩ := hx
  have hn : (0 : Int) < (gs.length : Int) := by have := List.length_pos_iff.2 hne; omega
  unfold jX
  have hd : 0 ≤ b / (gs.length : Int) := Int.ediv_nonneg hb (by omega)
  have hm : 0 ≤ b % (gs.length : Int) := Int.emod_nonneg _ (by omega)
  have hdm := Int.mul_ediv_add_emod b (gs.length : Int)
  have hle : b / (gs.length : Int) ≤ (gs.length : Int) * (b / (gs.length : Int)) := by
   have := Int.mul_le_mul_of_nonneg_right (show (1 : Int) ≤ (gs.length : Int) by omega) hd
   omega
  split <;> omega
 ·rw [e] at hx
  simp only [List.mem_map] at hx
  obtain ⟨p, hp, rfl⟩ := hx
  have h2 := hgd p hp
  have h3 := hg p.1 (by rw [← hq]; exact List.mem_map_of_mem hp)
  omega
section
variable {Pr : Program} {ops : Array Oper} {rest : List Oper} {op : Oper} {a : Act} {Q : Exit → Act → World → Prop} {w W : World} {P : Nat → Prop} {bs : List (Option Nat × Obj)} {ow : List (Value × List ai)} {ts : List (Value × List ai)} {ro : List (Addr × Value)}
theorem ML {N : Tmp} (hd : op.dst = some N) (hgd : op.guard = none) (S : St w P bs ow ts ro W) (hrun : (execOp a.eval op).run Pr W = .ok (.value (.slice (some ⟨W.heap.size, 0, none⟩) 0 0)) (W.alloc (.cells #[] 3)))
  (h : ∀ A c o w1, St w P (((Value.slice A 0 c).ownBlock, o) :: bs) ow ts ro w1 → IR w.heap.size (.slice A 0 c) [] o → wpList Pr ops Q rest (a.put op.dst (.slice A 0 c)) w1) : wpList Pr ops Q (op :: rest) a W :=
 Kd.o8 (Kd.int .i64) (w0 := W) W.heap.size 3 hgd hd (xs := ([] : List Int)) (inner := []) (ok := fun _ => True) (fH := fun _ => True) hrun (bD.none _ _) (fun _ hk => hk) trivial (Below.refl _ _) (Nat.le_refl _) (by simp) (fun v1 w1 hR hb hg _ => by
  obtain ⟨A, c, rfl⟩ := Kd.fG hR
  obtain ⟨o, S1, HI⟩ := S.BO hR (um hg)
  exact h A c o w1 S1 HI)
end
def wE.T8 : Bool × List (List Nat × List Nat) := (true, [([], []), ([], []), ([1], [1]), ([], []), ([2, 3], [2, 3]), ([4], [4]), ([5], [5]), ([], []), ([6, 7], [6, 7]), ([], []), ([9], [9]), ([], []), ([10, 11], [10, 11]), ([12], [12]), ([], []), ([13, 14, 8], [13, 14]), ([8, 15], [8, 15]), ([16], [16]), ([0, 17, 15], [0, 17]), ([18, 18, 0, 1, 2, 3, 4, 5, 6, 7, 8, 9, 10, 11, 12, 13, 14, 15, 16, 17, 18], [0, 18])])
def wE.B8 : List Nat := [0, 0, 2, 0, 14, 30, 62, 0, 254, 0, 512, 0, 3584, 7680, 0, 32766, 65534, 131070, 262143, 524287]
theorem wE.U4 : iP .any (opsOf Try.f200 8) = wE.T8 := by kernel_rfl
theorem wE.NQ : iL wE.T8.2 wE.B8 = true := by kernel_rfl
theorem SY (ax : Int) (k : ai) (l : List ai) (ns : Nat → Int) : jE ax (l ++ [k]) ns 0 = jE ax l ns 0 ++ [dD ax k (ns l.length)] := by rw [He, Nat.zero_add]
theorem YF (ax : Int) (hax : ax = 1 ∨ ax = 2) : ∀ (N : Nat) (c : ai), sz c ≤ N → N ≤ 100000 → fB c = true → ∀ (bg : Int), (-100000 ≤ bg ∧ bg ≤ 100000) → ∀ (P : Nat → Prop) (A : Option Addr) (cc : Nat) (w : World), Kd.V k26 26 w w.heap.size P (.slice A c.f3.length cc) c.f3 →
  Calls Try.prog 200 #[.agg #[.int .u8 c.f0, .int .i64 c.f1.f0, .int .i64 c.f1.f1, .int .i64 c.f1.f2, .int .i64 c.f1.f3, .int .i64 c.f2, .slice A c.f3.length cc], .int .u8 ax, .int .i64 bg] w (tY w P (dD ax c bg)) := by
 intro N
 induction N with
 | zero => intro c h; rw [dR] at h; omega
 | succ N ih =>
  intro c hc hN ht bg hby P A cc w hv
  have hsz := dR c
  have hlen := jJ c.f3
  have hl1 : c.f3.length ≤ 100000 := by omega
  have hkt := fun (k : ai) (hk : k ∈ c.f3) => Pure.RZ ht hk
  have IH := ae.mk fun (k : ai) (hk : k ∈ c.f3) (n : Int) (hn : -100000 ≤ n ∧ n ≤ 100000) P A cc w h => ih k (by have := qg hk; omega) (by omega) (hkt k hk) n hn P A cc w h
  have vJ := ae.mk fun (k : ai) (hk : k ∈ c.f3) => (show sz k ≤ 1048576 by have := qg hk; omega)
  have ZB := ae.mk hkt
  have jd := ae.mk fun (k : ai) (hk : k ∈ c.f3) => (show wrap64 (bC ax k.f1 - dF ax k) = dX ax k by unfold dX; rw [if_pos ⟨hax, hkt k hk⟩])
  have hgb : ∀ g, g ∈ c.f3.map (dX ax) → g ≤ 100000 := fun g hg => by
   obtain ⟨k, hk, rfl⟩ := List.mem_map.1 hg
   have := Pure.Ho hax (hkt k hk)
   omega
  have gy := ae.mk (show c.f3.length ≤ 1000000 by omega)
  have hsl := Na (b := bg) (gs := c.f3.map (dX ax)) (by simpa using hl1) (by omega) (by omega)
  have hno := acf (b := bg) (gs := c.f3.map (dX ax)) (by simpa using hl1) (by omega) (by omega)
  have hsb := RQ (b := bg) (gs := c.f3.map (dX ax)) (by simpa using hl1) hby.1 hby.2 hgb
  have zS := fun (Ag : Option Addr) (cg : Nat) (W : World) (hC : Kd.C (Kd.int .i64) W Ag (c.f3.map (dX ax)).length (c.f3.map (dX ax))) (h2 : (c.f3.map (dX ax)).length ≤ cg) => RG bg (c.f3.map (dX ax)) (by simpa using hl1) hby.1 hby.2 hC h2
  have rP : ∀ i, MO ax c.f0 c.f3 bg i = if (oZ bg (c.f3.map (dX ax))).2 = true ∧ jf ax c.f0 = true then rd (oZ bg (c.f3.map (dX ax))).1 (i : Int) else bg := fun i => rfl
  rw [Fq]
  have S := ae.mk (St.start (ts := [(.slice A c.f3.length cc, c.f3)]) (b0 := w.heap.size) (w := w) (P := P) (fun t ht => by rw [List.mem_singleton.1 ht]; exact hv))
  obtain ⟨ck, ⟨cx, cy, cw, ch⟩, aj, l⟩ := c
  simp only [] at S IH vJ ZB jd gy hsl hno hsb zS rP hl1 ⊢
  obtain ⟨gw, hgw⟩ : ∃ gw, gw = if ax = 1 then wrap64 (cw + bg) else cw := ⟨_, rfl⟩
  obtain ⟨gh, hgh⟩ : ∃ gh, gh = if ax = 1 then ch else wrap64 (ch + bg) := ⟨_, rfl⟩
  simp only [grow]
  rw [← hgw, ← hgh]
  generalize MO ax ck l bg = NS at rP ⊢
  obtain ⟨⟨sl, ok⟩, hsp⟩ : ∃ sp, sp = oZ bg (l.map (dX ax)) := ⟨_, rfl⟩
  simp only [← hsp, List.length_map] at hsl hno hsb zS rP
  have Zy := ae.mk (show ∀ i, i < l.length → -100000 ≤ NS i ∧ NS i ≤ 100000 from fun i hi => by
   rw [rP i]
   split
   ·rename_i h
    exact hsb _ (by unfold rd; rw [List.getD_eq_getElem?_getD, List.getElem?_eq_getElem (by rw [hsl h.1]; simpa using hi)]; exact List.getElem_mem _)
   ·exact hby)
  obtain ⟨SL, VK⟩ : ∃ SL, SL = if jf ax ck = true then sl else [] := ⟨_, rfl⟩
  have Dj := ae.mk (show ∀ i, i < l.length → NS i = if 0 < SL.length then rd SL (i : Int) else bg from fun i hi => by
   rw [rP i, VK]
   cases ha : jf ax ck with
   | false => simp
   | true =>
    cases ok with
    | false => rw [hno rfl]; simp
    | true => rw [if_pos ⟨rfl, rfl⟩, if_pos rfl, if_pos (by rw [hsl rfl]; omega)])
  have aeL := ae.mk (show 0 < SL.length → SL.length = l.length by
   intro h
   rw [VK] at h ⊢
   cases ha : jf ax ck with
   | false => rw [ha] at h; simp at h
   | true =>
    rw [ha] at h
    cases ok with
    | false => rw [hno rfl] at h; simp at h
    | true => rw [if_pos rfl, hsl rfl])
  have xw := ae.mk VK
  have Pz := ae.mk zS
  have Di := ae.mk hgw
  have IM := ae.mk hgh
  clear ih hc hN hby hv hsz hlen hsl hno hsb hgb hkt ht zS rP hgw hgh hsp hl1 VK
  go_enter Try.func200, Try.ntmps200
  go_upto_if 14 with (first
   | ((with_reducible refine az 3 rfl ?_); refine boxS 3 #[.int .u8 ck, .int .i64 cx, .int .i64 cy, .int .i64 cw, .int .i64 ch, .int .i64 aj, .slice A l.length cc] 26 S ?_; clear S; intro b3 fF S)
   | ((with_reducible refine az 6 rfl ?_); refine boxS 6 #[.int .u8 0, .int .i64 0, .int .i64 0, .int .i64 0, .int .i64 0, .int .i64 0, .slice none 0 0] 26 S ?_; clear S; intro b6 iw S)
   | fail)
  go_cut [] (fun wc => ae (St w P [(some b6, .cells #[.int .u8 0, .int .i64 0, .int .i64 0, .int .i64 0, .int .i64 0, .int .i64 0, .slice none 0 0] 26 (0, 0)), (some b3, .cells #[.int .u8 ck, .int .i64 cx, .int .i64 cy, .int .i64 gw, .int .i64 gh, .int .i64 aj, .slice A l.length cc] 26 (0, 0))] [] [(.slice A l.length cc, l)] [] wc))
  case first =>
   by_cases hx : ax = 1
   ·have hxb : (ax == 1) = true := beq_iff_eq.mpr hx
    have HX := ae.mk hx
    clear hx
    have bW := (S.out.at (.tail _ (.head _)) 3).trans rfl
    go_wp2_with (first
     | ((with_reducible refine fP 3 (.tmp 21) (.tmp 19) rfl ?_); refine wM 3 21 19 #[.int .u8 ck, .int .i64 cx, .int .i64 cy, .int .i64 (wrap64 (cw + bg)), .int .i64 ch, .int .i64 aj, .slice A l.length cc] 3 1 S ?_; clear S; intro jT S; clear bW)
     | fail)
    go_meet
    case rel => rw [Di.out, IM.out, if_pos HX.out, if_pos HX.out]; exact S
   ·have hxb : (ax == 1) = false := beq_eq_false_iff_ne.mpr hx
    have HX := ae.mk hx
    clear hx
    have eG := (S.out.at (.tail _ (.head _)) 4).trans rfl
    go_wp2_with (first
     | ((with_reducible refine fP 3 (.tmp 28) (.tmp 26) rfl ?_); refine wM 3 28 26 #[.int .u8 ck, .int .i64 cx, .int .i64 cy, .int .i64 cw, .int .i64 (wrap64 (ch + bg)), .int .i64 aj, .slice A l.length cc] 4 1 S ?_; clear S; intro lQ S; clear eG)
     | fail)
    go_meet
    case rel => rw [Di.out, IM.out, if_neg HX.out, if_neg HX.out]; exact S
  case rest =>
   clear S Di IM
   rename World => wx
   have S := hcut
   clear hcut
   go_wp2_with (first
    | ((with_reducible refine aC (N := 29) rfl ?_); refine ML (N := 29) rfl rfl S.out ?hr ?_; (case hr => first | (go_simp; done) | (go_simp; rfl)); intro aiN ai3 ajl tC S1 h1; replace S := ae.mk S1; have Vm := ae.mk h1; clear S1 h1; have dH := (S.out.at (.tail _ (.tail _ (.head _))) 6).trans rfl)
    | fail)
   clear dH
   go_loopg [7, 33] l.length (fun gg v7 v33 wr => ∃ (pre rest : List ai) (Ag : Option Addr) (cg : Nat) (og : Obj), v7 = .slice Ag pre.length cg ∧ v33 = .int .i64 (pre.length : Int) ∧ ae (pre ++ rest = l) ∧ rest.length ≤ gg ∧ ae (IR w.heap.size (.slice Ag pre.length cg) (pre.map (dX ax)) og) ∧ ae (St w P [((Value.slice Ag pre.length cg).ownBlock, og), (some b6, .cells #[.int .u8 0, .int .i64 0, .int .i64 0, .int .i64 0, .int .i64 0, .int .i64 0, .slice none 0 0] 26 (0, 0)), (some b3, .cells #[.int .u8 ck, .int .i64 cx, .int .i64 cy, .int .i64 gw, .int .i64 gh, .int .i64 aj, .slice A l.length cc] 26 (0, 0))] [] [(.slice A l.length cc, l)] [] wr))
   case atStart => exact ⟨[], l, _, _, _, rfl, rfl, ⟨rfl⟩, Nat.le_refl _, ⟨Vm.out⟩, ⟨S.out⟩⟩
   case round =>
    clear S Vm
    obtain ⟨pre, rest, Ag, cg, og, rfl, rfl, HE, hgg, HI, S⟩ := hrel
    cases rest with
    | nil =>
     have hE := HE.out
     rw [List.append_nil] at hE
     have hE2 := hE.symm
     subst hE2
     clear hE HE hgg
     have hlt : ¬ ((l.length : Int) < (l.length : Int)) := by omega
     have Hq := fun W hW => Pz.out Ag cg W (by have h := (Kd.bQ (HI.out W hW)).2.2; rw [List.length_map] at h; exact h) (by have h := (Kd.bQ (HI.out W hW)).2.1; exact h)
     have Vt := ae.mk Hq
     clear Hq Pz
     go_upto_if 59 with (first
      | ((with_reducible refine aC (N := 56) rfl ?_); refine ML (N := 56) rfl rfl S.out ?hr ?_; (case hr => first | (go_simp; done) | (go_simp; rfl)); intro aiO ai4 ajm Cc S1 h1; replace S := ae.mk S1; have Vo := ae.mk h1; clear S1 h1; obtain ⟨bT, bU, bV, bW, eG, fO, dH⟩ := St.iJ S (.tail _ (.tail _ (.tail _ (.head _)))))
      | ((with_reducible refine az 59 rfl ?_); refine dN (some 59) Try.func88 S (UK ⟨ck, ⟨cx, cy, gw, gh⟩, aj, l⟩ ax (S.out.tree _ (.head _))) ?_; clear S; intro AB S; clear bT bU bV bW eG fO dH)
      | fail)
     (try simp only [Act.put, List.setIfInBounds_toArray, List.set_cons_zero, List.set_cons_succ])
     go_cut [9] (fun v9 wc => ∃ (A9 : Option Addr) (c9 : Nat) (o9 : Obj), v9 = .slice A9 SL.length c9 ∧ ae (IR w.heap.size (.slice A9 SL.length c9) SL o9) ∧ ae (St w P [((Value.slice A9 SL.length c9).ownBlock, o9), (some b6, .cells #[.int .u8 0, .int .i64 0, .int .i64 0, .int .i64 0, .int .i64 0, .int .i64 0, .slice none 0 0] 26 (0, 0)), (some b3, .cells #[.int .u8 ck, .int .i64 cx, .int .i64 cy, .int .i64 gw, .int .i64 gh, .int .i64 aj, .slice A l.length cc] 26 (0, 0))] [] [(.slice A l.length cc, l)] [] wc))
     case first =>
      cases ha : jf ax ck with
      | false =>
       have hs : SL = [] := by rw [xw.out, ha]; simp
       go_wp2
       go_meet
       case rel => rw [hs]; exact ⟨_, _, _, rfl, ⟨Vo.out⟩, ⟨S.out.E5.eH⟩⟩
      | true =>
       have hs : SL = sl := by rw [xw.out, ha]; simp
       go_wp2_with (first
        | ((with_reducible refine az 63 rfl ?_); refine uj (some 63) Try.func50 (Vt.out _ (S.out.blk _ (.tail _ (.head _)))) ?_; rintro e Fb ⟨As, cs, rfl, h1, hb⟩; refine ⟨_, rfl, ?_⟩; obtain ⟨os, S1, HI1⟩ := S.out.BO h1 hb; replace S := ae.mk S1; have HIS := ae.mk HI1; clear S1 HI1 h1 hb)
        | fail)
       go_meet
       case rel => rw [hs]; exact ⟨_, _, _, rfl, ⟨HIS.out⟩, ⟨S.out.E5.eH.E5.eH⟩⟩
     case rest =>
      clear S Vt xw Vo HI
      obtain ⟨A9, c9, o9, rfl, HI9, S⟩ := hcut
      rename World => wz
      go_wp2_with (first
       | ((with_reducible refine aC (N := 66) rfl ?_); refine xJ (N := 66) rfl rfl S.out ?hr ?_; (case hr => first | (go_simp; done) | (go_simp; rfl)); intro Ao co H9 S1; replace S := ae.mk S1; clear S1; have dH := (S.out.at (.tail _ (.tail _ (.head _))) 6).trans rfl)
       | fail)
      clear dH
      go_loopg [10, 70] l.length (fun gg v10 v70 wr => ∃ (pre rest : List ai) (Ap : Option Addr) (cp : Nat), v10 = .slice Ap (jE ax pre NS 0).length cp ∧ v70 = .int .i64 (pre.length : Int) ∧ ae (pre ++ rest = l) ∧ rest.length ≤ gg ∧ ae (St w P [((Value.slice A9 SL.length c9).ownBlock, o9), (some b6, .cells #[.int .u8 0, .int .i64 0, .int .i64 0, .int .i64 0, .int .i64 0, .int .i64 0, .slice none 0 0] 26 (0, 0)), (some b3, .cells #[.int .u8 ck, .int .i64 cx, .int .i64 cy, .int .i64 gw, .int .i64 gh, .int .i64 aj, .slice A l.length cc] 26 (0, 0))] [(.slice Ap ((jE ax pre NS 0).length) cp, (jE ax pre NS 0))] [(.slice A l.length cc, l)] [] wr))
      case atStart => exact ⟨[], l, Ao, co, (by rw [uP]; rfl), rfl, ⟨rfl⟩, Nat.le_refl _, ⟨by rw [uP]; exact S.out⟩⟩
      case round =>
       clear S
       obtain ⟨pre, rest, Ap, cp, rfl, rfl, HE, hgg, S⟩ := hrel
       cases rest with
       | nil =>
        have hE := HE.out
        rw [List.append_nil] at hE
        have hE2 := hE.symm
        subst hE2
        clear hE HE hgg
        have hlt : ¬ ((l.length : Int) < (l.length : Int)) := by omega
        go_wp2_with (first
         | ((with_reducible refine fP 24 (.tmp 94) (.tmp 93) rfl ?_); refine abX 24 94 93 #[.int .u8 ck, .int .i64 cx, .int .i64 cy, .int .i64 gw, .int .i64 gh, .int .i64 aj, .slice Ap ((jE ax l NS 0).length) cp] 6 1 S ?_; clear S; intro Gy S; obtain ⟨bT, bU, bV, bW, eG, fO, dH⟩ := St.iJ S (.tail _ (.tail _ (.head _))))
         | ((with_reducible refine fP 26 (.tmp 6) (.tmp 95) rfl ?_); refine wM 26 6 95 #[.int .u8 ck, .int .i64 cx, .int .i64 cy, .int .i64 gw, .int .i64 gh, .int .i64 aj, .slice Ap ((jE ax l NS 0).length) cp] 0 7 S ?_; clear S; intro Ee S; clear bT bU bV bW eG fO dH)
         | fail)
        refine bodyPost_ret (results_cell_row rfl _ _ b6 26 #[.int .u8 ck, .int .i64 cx, .int .i64 cy, .int .i64 gw, .int .i64 gh, .int .i64 aj, .slice Ap ((jE ax l NS 0).length) cp] (0, 0) _ rfl (S.out.blk _ (.tail _ (.head _)) _ rfl) Try.underlying26 rfl (by kernel_rfl)) rfl ?_
        exact ⟨_, _, rfl, S.out.uY, S.out.below⟩
       | cons k rest =>
        have hk : k ∈ l := by rw [← HE.out]; simp
        have hlt : (pre.length : Int) < (l.length : Int) := by rw [← HE.out, List.length_append, List.length_cons]; omega
        have hw1 : wrap64 ((pre.length : Int) + 1) = ((pre ++ [k]).length : Int) := by have := gy.out; rw [List.length_append, List.length_singleton]; unfold wrap64; omega
        have HW1 := ae.mk hw1
        have SE := ae.mk hgg
        have HK := ae.mk hk
        have AP := ae.mk (vJ.out k hk)
        have HKT := ae.mk (ZB.out k hk)
        have HGV := ae.mk (jd.out k hk)
        have qB := ae.mk (show pre.length ≤ 1000000 by have := gy.out; omega)
        have HJ := ae.mk (show pre.length < l.length by omega)
        obtain ⟨iO, ua, uc, ek, S1⟩ := S.out.elem (.head _) (pre.length : Int) (Int.natCast_nonneg _) hlt
        subst ek
        have hrd : aI l (pre.length : Int) = k := by rw [← HE.out]; exact iZ pre k rest
        rw [hrd] at S1
        simp only [Int.toNat_natCast] at S1
        replace S := ae.mk S1
        clear S1 hrd hk hgg hw1
        go_upto_if 76 with fail
        (try simp only [Act.put, List.setIfInBounds_toArray, List.set_cons_zero, List.set_cons_succ])
        go_cut [12] (fun v12 wc => v12 = .int .i64 (NS pre.length) ∧ ae (St w P [((Value.slice A9 SL.length c9).ownBlock, o9), (some b6, .cells #[.int .u8 0, .int .i64 0, .int .i64 0, .int .i64 0, .int .i64 0, .int .i64 0, .slice none 0 0] 26 (0, 0)), (some b3, .cells #[.int .u8 ck, .int .i64 cx, .int .i64 cy, .int .i64 gw, .int .i64 gh, .int .i64 aj, .slice (some iO) l.length cc] 26 (0, 0))] [(.slice Ap ((jE ax pre NS 0).length) cp, (jE ax pre NS 0))] [(.slice ua k.f3.length uc, k.f3), (.slice (some iO) l.length cc, l)] [((iO.add (pre.length * 7)), .int .u8 k.f0), (⟨(iO.add (pre.length * 7)).block, (iO.add (pre.length * 7)).off + 1, none⟩, .int .i64 k.f1.f0), (⟨(iO.add (pre.length * 7)).block, (iO.add (pre.length * 7)).off + 2, none⟩, .int .i64 k.f1.f1), (⟨(iO.add (pre.length * 7)).block, (iO.add (pre.length * 7)).off + 3, none⟩, .int .i64 k.f1.f2), (⟨(iO.add (pre.length * 7)).block, (iO.add (pre.length * 7)).off + 4, none⟩, .int .i64 k.f1.f3), (⟨(iO.add (pre.length * 7)).block, (iO.add (pre.length * 7)).off + 5, none⟩, .int .i64 k.f2), (⟨(iO.add (pre.length * 7)).block, (iO.add (pre.length * 7)).off + 6, none⟩, .slice ua k.f3.length uc)] wc))
        case first =>
         by_cases hp : (SL.length : Int) > 0
         ·have hpd : decide ((SL.length : Int) > 0) = true := decide_eq_true hp
          have hpe : decide (0 < (SL.length : Int)) = true := decide_eq_true hp
          have QS : decide (0 < SL.length) = true := decide_eq_true (by omega)
          have hlt2 : (pre.length : Int) < (SL.length : Int) := by rw [aeL.out (by omega)]; exact hlt
          obtain ⟨PO, ea, _⟩ := Kd.iE (Kd.bQ (HI9.out _ (S.out.blk _ (.head _)))).2.2 (pre.length : Int) (Int.natCast_nonneg _) hlt2
          subst ea
          have HP := ae.mk hp
          rw [QS]
          clear hp hpd hpe QS
          have xs := zC HI9.out (S.out.blk _ (.head _)) pre.length hlt2
          go_wp2
          clear xs
          go_meet
          case rel => exact ⟨by rw [Dj.out _ HJ.out, if_pos (by have := HP.out; omega)], S⟩
         ·have hpd : decide ((SL.length : Int) > 0) = false := decide_eq_false hp
          have hpe : decide (0 < (SL.length : Int)) = false := decide_eq_false hp
          have QS : decide (0 < SL.length) = false := decide_eq_false (by omega)
          have HP := ae.mk hp
          rw [QS]
          clear hp hpd hpe QS
          go_wp2
          go_meet
          case rel => exact ⟨by rw [Dj.out _ HJ.out, if_neg (by have := HP.out; omega)], S⟩
        case rest =>
         clear S
         obtain ⟨rfl, S⟩ := hcut
         rename World => wy
         obtain ⟨jB, jb, jc, iG, iH, jM, jO⟩ := St.yD S
         have dH := (S.out.at (.tail _ (.tail _ (.head _))) 6).trans rfl
         go_wp2_with (first
          | ((with_reducible refine az 89 rfl ?_); refine uk (some 89) Try.func200 S (IH.out k HK.out (NS pre.length) (Zy.out _ HJ.out) _ ua uc _ (fK (S.out.tree _ (.head _)))) ?_; clear S; intro Av cv KF S; clear jB jb jc iG iH jM jO dH)
          | ((with_reducible refine aC (N := 91) rfl ?_); at_builtin; go_loud (refine xe (.tmp 81) (.tmp 90) rfl rfl Try.underlying24 info26 S.out (dD ax k (NS pre.length)) (.head _) rfl (by first | (go_simp; done) | (go_simp; rfl)) (by have := qB.out; rw [uO]; omega) ?_); intro Aq cq KG S1; rw [← SY] at S1 ⊢; replace S := ae.mk S1; clear S1)
          | fail)
         have hw1 := HW1.out
         go_wp2
         go_roundg rest.length
         case measure => exact Nat.lt_of_lt_of_le (Nat.lt_succ_self _) SE.out
         case rel => exact ⟨pre ++ [k], rest, Aq, cq, (by simp), (by rw [hw1]), ⟨by rw [List.append_assoc]; exact HE.out⟩, Nat.le_refl _, ⟨S.out.bH.bH.aU.aU.aU.aU.aU.aU.aU⟩⟩
    | cons k rest =>
     have hk : k ∈ l := by rw [← HE.out]; simp
     have hlt : (pre.length : Int) < (l.length : Int) := by rw [← HE.out, List.length_append, List.length_cons]; omega
     have hw1 : wrap64 ((pre.length : Int) + 1) = ((pre ++ [k]).length : Int) := by have := gy.out; rw [List.length_append, List.length_singleton]; unfold wrap64; omega
     have HW1 := ae.mk hw1
     have SE := ae.mk hgg
     have HK := ae.mk hk
     have AP := ae.mk (vJ.out k hk)
     have HKT := ae.mk (ZB.out k hk)
     have HGV := ae.mk (jd.out k hk)
     have qB := ae.mk (show pre.length ≤ 1000000 by have := gy.out; omega)
     have HJ := ae.mk (show pre.length < l.length by omega)
     obtain ⟨iO, ua, uc, ek, S1⟩ := S.out.elem (.head _) (pre.length : Int) (Int.natCast_nonneg _) hlt
     subst ek
     have hrd : aI l (pre.length : Int) = k := by rw [← HE.out]; exact iZ pre k rest
     rw [hrd] at S1
     simp only [Int.toNat_natCast] at S1
     replace S := ae.mk S1
     clear S1 hrd hk hgg hw1
     go_wp2
     refine jA (n := 20) (S := fun w' => St w _ _ _ _ _ w') (ds := [18]) (bA 20 0) (by kernel_rfl) rfl rfl (S.out.eH.call (bF (Below.refl _ _))) (fun hHeld => ?_); refine f_ wE.U4 wE.NQ (fun au eF => ?_)
     replace S := ae.mk (S.out.call (bF (Below.refl _ _)))
     generalize wr.drew = ajH at S hHeld ⊢
     refine aG 0 36 (bA 20 1) au ?_
     refine aG 1 37 (bA 20 3) au ?_
     refine dJ 2 38 (bA 20 7) au eF hHeld ?_ (hv := by intro w' hs_; have dH := (hs_.at (.tail _ (.head _)) 6).trans rfl; go_simp; with_reducible rfl)
     refine aG 3 39 (bA 20 15) au ?_
     refine aG 4 40 (bA 20 31) au ?_
     refine aG 5 41 (bA 20 63) au ?_
     refine dJ 6 42 (bA 20 127) au eF hHeld ?_ (hv := by intro w' hs_; have jb := (hs_.cell _ (.tail _ (.head _))).1; have jc := (hs_.cell _ (.tail _ (.tail _ (.head _)))).1; have iG := (hs_.cell _ (.tail _ (.tail _ (.tail _ (.head _))))).1; have iH := (hs_.cell _ (.tail _ (.tail _ (.tail _ (.tail _ (.head _)))))).1; go_simp; with_reducible rfl)
     refine aG 7 43 (bA 20 255) au ?_
     refine aG 9 45 (bA 20 767) au ?_
     refine dJ 10 46 (bA 20 1791) au eF hHeld ?_ (hv := by intro w' hs_; have dH := (hs_.at (.tail _ (.head _)) 6).trans rfl; go_simp; with_reducible rfl)
     refine aG 11 47 (bA 20 3839) au ?_
     refine aG 12 48 (bA 20 7935) au ?_
     refine dJ 13 49 (bA 20 16127) au eF hHeld ?_ (hv := by intro w' hs_; have jB := (hs_.cell _ (.head _)).1; have jb := (hs_.cell _ (.tail _ (.head _))).1; have jc := (hs_.cell _ (.tail _ (.tail _ (.head _)))).1; have iG := (hs_.cell _ (.tail _ (.tail _ (.tail _ (.head _))))).1; have iH := (hs_.cell _ (.tail _ (.tail _ (.tail _ (.tail _ (.head _)))))).1; have jM := (hs_.cell _ (.tail _ (.tail _ (.tail _ (.tail _ (.tail _ (.head _))))))).1; have jO := (hs_.cell _ (.tail _ (.tail _ (.tail _ (.tail _ (.tail _ (.tail _ (.head _)))))))).1; go_simp; with_reducible rfl)
     refine aG 14 50 (bA 20 32511) au ?_
     refine gZ (i := 8) (N := some 44) (bA 20 32767) rfl rfl (dG au.out (by kernel_rfl)) (by decide) (fun K hK => ?_)
     refine fM Try.func87 (by kernel_rfl) rfl #[.agg #[.int .i64 k.f1.f0, .int .i64 k.f1.f1, .int .i64 k.f1.f2, .int .i64 k.f1.f3], .int .u8 ax] (by rfl) rfl rfl (by (try simp only [List.map_toArray, List.map_cons, List.map_nil]); first | done | rfl) ?_
     refine (u_ k.f1 ax).mono ?_
     rintro e O7 ⟨rfl, hb⟩
     refine ⟨_, rfl, ?_⟩
     replace S := ae.mk (S.out.call hb)
     clear hb
     refine hK.out _ _ S.out.eH (fun hHeld => ?_)
     clear hK K
     refine ed 44 ?_
     refine gZ (i := 15) (N := some 51) (bA 20 65535) rfl rfl (dG au.out (by kernel_rfl)) (by decide) (fun K hK => ?_)
     refine fM Try.func152 (by kernel_rfl) rfl #[.agg #[.int .u8 k.f0, .int .i64 k.f1.f0, .int .i64 k.f1.f1, .int .i64 k.f1.f2, .int .i64 k.f1.f3, .int .i64 k.f2, .slice ua k.f3.length uc], .int .u8 ax] (by rfl) rfl rfl (by (try simp only [List.map_toArray, List.map_cons, List.map_nil]); first | done | rfl) ?_
     refine (OU k ax AP.out HKT.out (S.out.tree _ (.head _))).mono ?_
     rintro e U_ ⟨rfl, hb⟩
     refine ⟨_, rfl, ?_⟩
     replace S := ae.mk (S.out.call hb)
     clear hb
     refine hK.out _ _ S.out.eH (fun hHeld => ?_)
     clear hK K
     refine ed 51 ?_
     refine aG 16 52 (bA 20 131071) au ?_
     refine gZ (i := 17) (N := some 53) (bA 20 262143) rfl rfl (dG au.out (by kernel_rfl)) (by decide) (fun K hK => ?_)
     refine KE (w1 := ?_) (v := ?_) (by rfl) rfl ?_ ?_
     rotate_left 2
     ·go_simp
      constructor
      ·rfl
      ·rfl
     refine hK.out _ _ (S.out.eH.call (gq (Below.refl _ _) _)) (fun hHeld => ?_)
     clear hK K
     refine ed 53 ?_
     refine qX (i := 18) (N := some 54) (bA 20 524287) rfl rfl (dG au.out (by kernel_rfl)) (by decide) (fun K hK => ?_)
     go_loud (refine Tf (.tmp 36) (.tmp 53) (by rfl) rfl Try.underlying41 info3 S.out HI.out (wrap64 (bC ax k.f1 - dF ax k)) rfl rfl (by have := qB.out; simp only [List.length_map]; omega) ?_)
     intro Zf cg2 og2 Va S1 I1
     rw [show pre.map (dX ax) ++ [wrap64 (bC ax k.f1 - dF ax k)] = (pre ++ [k]).map (dX ax) by rw [HGV.out]; simp] at S1 I1 ⊢
     rw [show ((pre ++ [k]).map (dX ax)).length = (pre ++ [k]).length by simp] at S1 I1 ⊢
     replace S := ae.mk S1
     have HI2 := ae.mk I1
     clear S1 I1 HI
     refine hK.out _ _ ?_
     clear hK K
     refine ed 54 ?_
     refine aG 19 7 (bA 20 1048575) au ?_
     refine kG (iK au.out (by kernel_rfl)) ?_
     clear hHeld
     go_wp2
     have hw1 := HW1.out
     go_wp2
     go_roundg rest.length
     case measure => exact Nat.lt_of_lt_of_le (Nat.lt_succ_self _) SE.out
     case rel => exact ⟨pre ++ [k], rest, Zf, cg2, og2, (by simp), (by rw [hw1]), ⟨by rw [List.append_assoc]; exact HE.out⟩, Nat.le_refl _, ⟨HI2.out⟩, ⟨S.out.bH.aU.aU.aU.aU.aU.aU.aU⟩⟩
end Go.Proofs.Ytfdmfgaiblfbhaa.P
