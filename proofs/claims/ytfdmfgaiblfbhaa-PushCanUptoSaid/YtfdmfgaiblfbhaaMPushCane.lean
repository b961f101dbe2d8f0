/- PushCan: part 5 of 6 of this claim's texts, one behind the other, made small by a program: the words of the kit's printer cut down to those that are used, the claim's own names made short. -/
import Derived.Test.YtfdmfgaiblfbhaaMPushCand
import Derived.Test.YtfdmfgaiblfbhaaMPushCanc
import Derived.WalkSpells
set_option maxHeartbeats 8000000
set_option maxRecDepth 100000
set_option linter.unusedVariables false
set_option linter.unusedSimpArgs false
namespace Go.Proofs.Ytfdmfgaiblfbhaa.P
open Go.RowKit Go.Proofs.ag.aK Go.Proofs.ag.bG Go.Proofs.ag.bV
theorem Og {x : ByteArray} {w : World} {A : Option Addr} (h : Kd.C Kd.string w A 1 [x]) : ∃ ad, A = some ad := by
 obtain ⟨ad, h1, _⟩ := h.2.2 (by omega)
 exact ⟨ad, h1⟩
theorem VK (c : ai) (hz : sz c ≤ 1048576) (A : Option Addr) (cc : Nat) (w : World) (hr : Kd.C k26 w A c.f3.length c.f3) (hc : c.f3.length ≤ cc) :
  Calls Try.prog 180 #[.agg #[.int .u8 c.f0, .int .i64 c.f1.f0, .int .i64 c.f1.f1, .int .i64 c.f1.f2, .int .i64 c.f1.f3, .int .i64 c.f2, .slice A c.f3.length cc]] w fun e w' => (if di c = true then e = .returned .nilIface else ∃ t u, e = .returned (.iface t u)) ∧ Below w.heap.size w w' := by
 have hM : rZ.f [c] = some (kU c) := by
  unfold rZ.f
  rw [if_pos (by simp [hz])]
  simp
 have hW : kU c = true → ∀ (gw : Nat) (W : World), w.heap.size ≤ gw → pJ w gw 0 W → Calls Try.prog 197 #[.pointer (some ⟨gw, 0, none⟩), .agg #[.int .u8 c.f0, .int .i64 c.f1.f0, .int .i64 c.f1.f1, .int .i64 c.f1.f2, .int .i64 c.f1.f3, .int .i64 c.f2, .slice A c.f3.length cc]] W fun e w' => e = .returned (.bool (kG c)) ∧ pJ w gw (0 + dI c.f3) w' ∧ Fr gw W w' := fun hm gw W hg hI => aaZ w gw hg (sz c) c (Nat.le_refl _) (ny hm) A cc hr hc 0 W (by have := ny hm; have := cO c; omega) hI
 unfold di
 have HR := ae.mk hr
 have HC := ae.mk hc
 have HM := ae.mk hM
 have HW := ae.mk hW
 have HB := ae.mk (Below.refl w.heap.size w)
 clear hr hc hM hW hz
 obtain ⟨ck, ⟨cx, cy, cw, ch⟩, aU, l⟩ := c
 simp only [] at HR HC HW ⊢
 generalize kG ⟨ck, ⟨cx, cy, cw, ch⟩, aU, l⟩ = q at HW ⊢
 cases hm : kU (⟨ck, ⟨cx, cy, cw, ch⟩, aU, l⟩ : ai) with
 | false =>
  rw [hm] at HM
  have HM := HM
  simp only [Bool.false_and, Bool.false_eq_true, if_false]
  clear hm HW
  go_enter Try.func180, Try.ntmps180
  go_wp2_with (first
   | ((with_reducible refine aG (N := 1) rfl ?_); refine aT ?hg (N := 1) ?hd (cs := #[.int .u8 ck, .int .i64 cx, .int .i64 cy, .int .i64 cw, .int .i64 ch, .int .i64 aU, .slice A l.length cc]) (t := 26) ?hr ?_; (case hd => rfl); (case hg => rfl); (case hr => first | (go_simp; done) | (go_simp; rfl)); intro b1 hg Ym hbox hb; have dM := ae.mk hbox; have dh := ae.mk (ak HB.out hb); clear HB; have HB := dh; clear dh; clear hb hbox hg)
   | ((with_reducible refine aG (N := 5) rfl ?_); refine aT ?hg (N := 5) ?hd (cs := #[.int .i64 0, .slice none 0 0]) (t := 182) ?hr ?_; (case hd => rfl); (case hg => rfl); (case hr => first | (go_simp; done) | (go_simp; rfl)); intro gw hg wgw hbox hb; have pG := ae.mk hbox; have GG := ae.mk (show w.heap.size ≤ gw by rw [hg]; exact HB.out.size); have dh := ae.mk (ak HB.out hb); have fP := ae.mk (aJ dM.out hb); clear HB dM; have HB := dh; have dM := fP; clear dh fP; have c0 := (af dM.out 0).trans rfl; have c1 := (af dM.out 1).trans rfl; have c2 := (af dM.out 2).trans rfl; have c3 := (af dM.out 3).trans rfl; have c4 := (af dM.out 4).trans rfl; have c5 := (af dM.out 5).trans rfl; have c6 := (af dM.out 6).trans rfl; clear hb hbox hg)
   | ((with_reducible refine aG (N := 8) rfl ?_); refine Kd.yJ k26 _ 26 ?hg (N' := 8) ?hd (xs := [(⟨ck, ⟨cx, cy, cw, ch⟩, aU, l⟩ : ai)]) (inner := [.int .u8 ck, .int .i64 cx, .int .i64 cy, .int .i64 cw, .int .i64 ch, .int .i64 aU, .slice A l.length cc]) (ok := fun _ => True) (fD := fun _ => True) ?hr ?hp (fun _ hk => hk) trivial (Below.refl _ _) (Nat.le_refl _) (by simp) ?_; (case hd => rfl); (case hg => rfl); (case hr => first | (go_simp; done) | (go_simp; rfl)); (case hp => exact (bW.c7 (oC _ _ (⟨ck, ⟨cx, cy, cw, ch⟩, aU, l⟩ : ai) HC.out (Kd.rM (Kd.Gj qE (Kd.gV HR.out HB.out)) (fun _ _ => trivial))) (bW.none _ _))); intro vr wr ho hb nO ji; clear nO ji; obtain ⟨Am, cm, er⟩ := Kd.jw ho; subst er; have dh := ae.mk (ak HB.out hb); have fP := ae.mk (aJ dM.out hb); have o7 := ae.mk (aJ pG.out hb); clear HB dM pG; have HB := dh; have dM := fP; have pG := o7; clear dh fP o7; have Hm := ae.mk (Kd.iI ho).2.2; have Lm := ae.mk (Kd.iI ho).2.1; clear ho hb c0 c1 c2 c3 c4 c5 c6)
   | fail)
  refine (rZ.calls Am cm [(⟨ck, ⟨cx, cy, cw, ch⟩, aU, l⟩ : ai)] false _ Hm.out Lm.out HM.out).mono ?_
  rintro e w1 ⟨rfl, hb⟩
  have dh := ae.mk (ak HB.out hb); have fP := ae.mk (aJ dM.out hb); have o7 := ae.mk (aJ pG.out hb); clear HB dM pG; have HB := dh; have dM := fP; have pG := o7; clear dh fP o7
  clear hb Hm Lm
  go_wp2_with fail
  refine (UD 1 0 (by decide) _).mono ?_
  rintro e w2 ⟨⟨tv, v, rfl⟩, hb⟩
  have dh := ae.mk (ak HB.out hb); clear HB; have HB := dh; clear dh
  clear hb
  go_wp2_with (first
   | ((with_reducible refine aG (N := 12) rfl ?_); refine Kd.vO Kd.string _ 9 ?hg (N := 12) ?hd (xs := [(⟨#[108, 97, 121, 111, 117, 116]⟩ : ByteArray)]) (inner := [.string (⟨#[108, 97, 121, 111, 117, 116]⟩ : ByteArray)]) (ok := fun _ => True) (fD := fun _ => True) ?hr ?hp (fun _ hk => hk) trivial (Below.refl _ _) (Nat.le_refl _) (by simp) ?_; (case hd => rfl); (case hg => rfl); (case hr => first | (go_simp; done) | (go_simp; rfl)); (case hp => exact (bW.one (show Kd.M Kd.string _ _ _ (⟨#[108, 97, 121, 111, 117, 116]⟩ : ByteArray) [.string (⟨#[108, 97, 121, 111, 117, 116]⟩ : ByteArray)] from rfl) (bW.none _ _))); intro vs wr ho hb nO ji; clear nO ji; obtain ⟨As, cs_, er⟩ := Kd.gJ ho; subst er; have dh := ae.mk (ak HB.out hb); clear HB; have HB := dh; clear dh; have Hs := ae.mk (Kd.dO ho).2.2; have Ls := ae.mk (Kd.dO ho).2.1; clear ho hb)
   | fail)
  obtain ⟨ad, ea⟩ := Og Hs.out
  subst ea
  refine (X5 tv v ad cs_ _ _ Hs.out Ls.out).mono ?_
  rintro e w3 ⟨⟨tu, u, rfl⟩, hb⟩
  have dh := ae.mk (ak HB.out hb); clear HB; have HB := dh; clear dh
  clear hb Hs Ls
  go_wp2
  go_ret
  exact ⟨⟨_, _, rfl⟩, HB.out⟩
 | true =>
  rw [hm] at HM
  have HW := ae.mk (HW.out hm)
  simp only [Bool.true_and]
  clear hm
  cases q with
  | true =>
   simp only [if_true]
   go_enter Try.func180, Try.ntmps180
   go_wp2_with (first
    | ((with_reducible refine aG (N := 1) rfl ?_); refine aT ?hg (N := 1) ?hd (cs := #[.int .u8 ck, .int .i64 cx, .int .i64 cy, .int .i64 cw, .int .i64 ch, .int .i64 aU, .slice A l.length cc]) (t := 26) ?hr ?_; (case hd => rfl); (case hg => rfl); (case hr => first | (go_simp; done) | (go_simp; rfl)); intro b1 hg Ym hbox hb; have dM := ae.mk hbox; have dh := ae.mk (ak HB.out hb); clear HB; have HB := dh; clear dh; clear hb hbox hg)
    | ((with_reducible refine aG (N := 5) rfl ?_); refine aT ?hg (N := 5) ?hd (cs := #[.int .i64 0, .slice none 0 0]) (t := 182) ?hr ?_; (case hd => rfl); (case hg => rfl); (case hr => first | (go_simp; done) | (go_simp; rfl)); intro gw hg wgw hbox hb; have pG := ae.mk hbox; have GG := ae.mk (show w.heap.size ≤ gw by rw [hg]; exact HB.out.size); have dh := ae.mk (ak HB.out hb); have fP := ae.mk (aJ dM.out hb); clear HB dM; have HB := dh; have dM := fP; clear dh fP; have c0 := (af dM.out 0).trans rfl; have c1 := (af dM.out 1).trans rfl; have c2 := (af dM.out 2).trans rfl; have c3 := (af dM.out 3).trans rfl; have c4 := (af dM.out 4).trans rfl; have c5 := (af dM.out 5).trans rfl; have c6 := (af dM.out 6).trans rfl; clear hb hbox hg)
    | ((with_reducible refine aG (N := 8) rfl ?_); refine Kd.yJ k26 _ 26 ?hg (N' := 8) ?hd (xs := [(⟨ck, ⟨cx, cy, cw, ch⟩, aU, l⟩ : ai)]) (inner := [.int .u8 ck, .int .i64 cx, .int .i64 cy, .int .i64 cw, .int .i64 ch, .int .i64 aU, .slice A l.length cc]) (ok := fun _ => True) (fD := fun _ => True) ?hr ?hp (fun _ hk => hk) trivial (Below.refl _ _) (Nat.le_refl _) (by simp) ?_; (case hd => rfl); (case hg => rfl); (case hr => first | (go_simp; done) | (go_simp; rfl)); (case hp => exact (bW.c7 (oC _ _ (⟨ck, ⟨cx, cy, cw, ch⟩, aU, l⟩ : ai) HC.out (Kd.rM (Kd.Gj qE (Kd.gV HR.out HB.out)) (fun _ _ => trivial))) (bW.none _ _))); intro vr wr ho hb nO ji; clear nO ji; obtain ⟨Am, cm, er⟩ := Kd.jw ho; subst er; have dh := ae.mk (ak HB.out hb); have fP := ae.mk (aJ dM.out hb); have o7 := ae.mk (aJ pG.out hb); clear HB dM pG; have HB := dh; have dM := fP; have pG := o7; clear dh fP o7; have Hm := ae.mk (Kd.iI ho).2.2; have Lm := ae.mk (Kd.iI ho).2.1; clear ho hb c0 c1 c2 c3 c4 c5 c6)
    | fail)
   refine (rZ.calls Am cm [(⟨ck, ⟨cx, cy, cw, ch⟩, aU, l⟩ : ai)] true _ Hm.out Lm.out HM.out).mono ?_
   rintro e w1 ⟨rfl, hb⟩
   have dh := ae.mk (ak HB.out hb); have fP := ae.mk (aJ dM.out hb); have o7 := ae.mk (aJ pG.out hb); clear HB dM pG; have HB := dh; have dM := fP; have pG := o7; clear dh fP o7
   clear hb Hm Lm
   have HI := ae.mk (show pJ w gw 0 w1 from ⟨HB.out, 0, .slice none 0 0, [], pG.out, Kd.uM _ _ _ _ _, Nat.le_refl _⟩)
   have c0 := (af dM.out 0).trans rfl
   have c1 := (af dM.out 1).trans rfl
   have c2 := (af dM.out 2).trans rfl
   have c3 := (af dM.out 3).trans rfl
   have c4 := (af dM.out 4).trans rfl
   have c5 := (af dM.out 5).trans rfl
   have c6 := (af dM.out 6).trans rfl
   go_wp2_with fail
   clear c0 c1 c2 c3 c4 c5 c6
   refine (HW.out gw w1 GG.out HI.out).mono ?_
   rintro e w2 ⟨rfl, ⟨hb2, n, v, ls, hk, _, _⟩, _⟩
   clear HB pG HI dM
   have HB := ae.mk hb2
   have pG := ae.mk hk
   clear hb2 hk
   go_wp2
   go_ret
   exact ⟨rfl, HB.out⟩
  | false =>
   simp only [Bool.false_eq_true, if_false]
   go_enter Try.func180, Try.ntmps180
   go_wp2_with (first
    | ((with_reducible refine aG (N := 1) rfl ?_); refine aT ?hg (N := 1) ?hd (cs := #[.int .u8 ck, .int .i64 cx, .int .i64 cy, .int .i64 cw, .int .i64 ch, .int .i64 aU, .slice A l.length cc]) (t := 26) ?hr ?_; (case hd => rfl); (case hg => rfl); (case hr => first | (go_simp; done) | (go_simp; rfl)); intro b1 hg Ym hbox hb; have dM := ae.mk hbox; have dh := ae.mk (ak HB.out hb); clear HB; have HB := dh; clear dh; clear hb hbox hg)
    | ((with_reducible refine aG (N := 5) rfl ?_); refine aT ?hg (N := 5) ?hd (cs := #[.int .i64 0, .slice none 0 0]) (t := 182) ?hr ?_; (case hd => rfl); (case hg => rfl); (case hr => first | (go_simp; done) | (go_simp; rfl)); intro gw hg wgw hbox hb; have pG := ae.mk hbox; have GG := ae.mk (show w.heap.size ≤ gw by rw [hg]; exact HB.out.size); have dh := ae.mk (ak HB.out hb); have fP := ae.mk (aJ dM.out hb); clear HB dM; have HB := dh; have dM := fP; clear dh fP; have c0 := (af dM.out 0).trans rfl; have c1 := (af dM.out 1).trans rfl; have c2 := (af dM.out 2).trans rfl; have c3 := (af dM.out 3).trans rfl; have c4 := (af dM.out 4).trans rfl; have c5 := (af dM.out 5).trans rfl; have c6 := (af dM.out 6).trans rfl; clear hb hbox hg)
    | ((with_reducible refine aG (N := 8) rfl ?_); refine Kd.yJ k26 _ 26 ?hg (N' := 8) ?hd (xs := [(⟨ck, ⟨cx, cy, cw, ch⟩, aU, l⟩ : ai)]) (inner := [.int .u8 ck, .int .i64 cx, .int .i64 cy, .int .i64 cw, .int .i64 ch, .int .i64 aU, .slice A l.length cc]) (ok := fun _ => True) (fD := fun _ => True) ?hr ?hp (fun _ hk => hk) trivial (Below.refl _ _) (Nat.le_refl _) (by simp) ?_; (case hd => rfl); (case hg => rfl); (case hr => first | (go_simp; done) | (go_simp; rfl)); (case hp => exact (bW.c7 (oC _ _ (⟨ck, ⟨cx, cy, cw, ch⟩, aU, l⟩ : ai) HC.out (Kd.rM (Kd.Gj qE (Kd.gV HR.out HB.out)) (fun _ _ => trivial))) (bW.none _ _))); intro vr wr ho hb nO ji; clear nO ji; obtain ⟨Am, cm, er⟩ := Kd.jw ho; subst er; have dh := ae.mk (ak HB.out hb); have fP := ae.mk (aJ dM.out hb); have o7 := ae.mk (aJ pG.out hb); clear HB dM pG; have HB := dh; have dM := fP; have pG := o7; clear dh fP o7; have Hm := ae.mk (Kd.iI ho).2.2; have Lm := ae.mk (Kd.iI ho).2.1; clear ho hb c0 c1 c2 c3 c4 c5 c6)
    | fail)
   refine (rZ.calls Am cm [(⟨ck, ⟨cx, cy, cw, ch⟩, aU, l⟩ : ai)] true _ Hm.out Lm.out HM.out).mono ?_
   rintro e w1 ⟨rfl, hb⟩
   have dh := ae.mk (ak HB.out hb); have fP := ae.mk (aJ dM.out hb); have o7 := ae.mk (aJ pG.out hb); clear HB dM pG; have HB := dh; have dM := fP; have pG := o7; clear dh fP o7
   clear hb Hm Lm
   have HI := ae.mk (show pJ w gw 0 w1 from ⟨HB.out, 0, .slice none 0 0, [], pG.out, Kd.uM _ _ _ _ _, Nat.le_refl _⟩)
   have c0 := (af dM.out 0).trans rfl
   have c1 := (af dM.out 1).trans rfl
   have c2 := (af dM.out 2).trans rfl
   have c3 := (af dM.out 3).trans rfl
   have c4 := (af dM.out 4).trans rfl
   have c5 := (af dM.out 5).trans rfl
   have c6 := (af dM.out 6).trans rfl
   go_wp2_with fail
   clear c0 c1 c2 c3 c4 c5 c6
   refine (HW.out gw w1 GG.out HI.out).mono ?_
   rintro e w2 ⟨rfl, ⟨hb2, n, v, ls, hk, _, _⟩, _⟩
   clear HB pG HI dM
   have HB := ae.mk hb2
   have pG := ae.mk hk
   clear hb2 hk
   have c0 := (af pG.out 0).trans rfl
   have c1 := (af pG.out 1).trans rfl
   go_wp2_with fail
   clear c0 c1
   refine (UD 5 n (by decide) _).mono ?_
   rintro e w2 ⟨⟨tv, v, rfl⟩, hb⟩
   have dh := ae.mk (ak HB.out hb); clear HB; have HB := dh; clear dh
   clear hb
   go_wp2_with (first
    | ((with_reducible refine aG (N := 24) rfl ?_); refine Kd.vO Kd.string _ 9 ?hg (N := 24) ?hd (xs := [(⟨#[108, 97, 121, 111, 117, 116]⟩ : ByteArray)]) (inner := [.string (⟨#[108, 97, 121, 111, 117, 116]⟩ : ByteArray)]) (ok := fun _ => True) (fD := fun _ => True) ?hr ?hp (fun _ hk => hk) trivial (Below.refl _ _) (Nat.le_refl _) (by simp) ?_; (case hd => rfl); (case hg => rfl); (case hr => first | (go_simp; done) | (go_simp; rfl)); (case hp => exact (bW.one (show Kd.M Kd.string _ _ _ (⟨#[108, 97, 121, 111, 117, 116]⟩ : ByteArray) [.string (⟨#[108, 97, 121, 111, 117, 116]⟩ : ByteArray)] from rfl) (bW.none _ _))); intro vs wr ho hb nO ji; clear nO ji; obtain ⟨As, cs_, er⟩ := Kd.gJ ho; subst er; have dh := ae.mk (ak HB.out hb); clear HB; have HB := dh; clear dh; have Hs := ae.mk (Kd.dO ho).2.2; have Ls := ae.mk (Kd.dO ho).2.1; clear ho hb)
    | fail)
   obtain ⟨ad, ea⟩ := Og Hs.out
   subst ea
   refine (X5 tv v ad cs_ _ _ Hs.out Ls.out).mono ?_
   rintro e w3 ⟨⟨tu, u, rfl⟩, hb⟩
   have dh := ae.mk (ak HB.out hb); clear HB; have HB := dh; clear dh
   clear hb Hs Ls
   go_wp2
   go_ret
   exact ⟨⟨_, _, rfl⟩, HB.out⟩
theorem acB (x : ai) (hz : sz x ≤ 1048576) (B : Option Addr) (cb : Nat) (W : World) (hr : Kd.C k26 W B x.f3.length x.f3) (hl : x.f3.length ≤ cb) :
  Calls Try.prog 179 #[.agg #[.int .u8 x.f0, .int .i64 x.f1.f0, .int .i64 x.f1.f1, .int .i64 x.f1.f2, .int .i64 x.f1.f3, .int .i64 x.f2, .slice B x.f3.length cb]] W fun e w' => e = .returned (.bool (!di x)) ∧ Below W.heap.size W w' := by
 have HC := ae.mk (fun W1 (hb : Below W.heap.size W W1) => VK x hz B cb W1 (Kd.gV hr hb) hl)
 have HB := ae.mk (Below.refl W.heap.size W)
 clear hr hl hz
 cases hq : di x
 all_goals
  simp only [hq, if_pos, Bool.false_eq_true, if_false] at HC
  clear hq
  go_enter Try.func179, Try.ntmps179
  go_wp2_with (first
   | ((with_reducible refine aG (N := 1) rfl ?_); refine aT ?hg (N := 1) ?hd (cs := #[.int .u8 x.f0, .int .i64 x.f1.f0, .int .i64 x.f1.f1, .int .i64 x.f1.f2, .int .i64 x.f1.f3, .int .i64 x.f2, .slice B x.f3.length cb]) (t := 26) ?hr ?_; (case hd => rfl); (case hg => rfl); (case hr => first | (go_simp; done) | (go_simp; rfl)); intro b1 hg Ym hbox hb; have dM := ae.mk hbox; have dh := ae.mk (ak HB.out hb); clear HB; have HB := dh; clear dh; have c0 := (af dM.out 0).trans rfl; have c1 := (af dM.out 1).trans rfl; have c2 := (af dM.out 2).trans rfl; have c3 := (af dM.out 3).trans rfl; have c4 := (af dM.out 4).trans rfl; have c5 := (af dM.out 5).trans rfl; have c6 := (af dM.out 6).trans rfl; clear hb hbox hg)
   | fail)
  clear c0 c1 c2 c3 c4 c5 c6
 ·refine (HC.out _ HB.out).mono ?_
  rintro e w2 ⟨⟨t, u, rfl⟩, hb⟩
  have dh := ae.mk (ak HB.out hb); clear HB; have HB := dh; clear dh
  clear hb
  go_wp2
  go_ret
  exact ⟨rfl, HB.out⟩
 ·refine (HC.out _ HB.out).mono ?_
  rintro e w2 ⟨rfl, hb⟩
  have dh := ae.mk (ak HB.out hb); clear HB; have HB := dh; clear dh
  clear hb
  go_wp2
  go_ret
  exact ⟨rfl, HB.out⟩
theorem Ol (l : List ai) (hz : ∀ x, x ∈ l → sz x ≤ 1048576) (A : Option Addr) (c : Nat) (w : World) (hr : Kd.C k26 w A l.length l) (hc : l.length ≤ c) :
  Calls Try.prog 148 #[.slice A l.length c] w fun e w' => e = .returned (.bool (l.all di)) ∧ Below w.heap.size w w' := by
 have hq := OW (fun _ W => Below w.heap.size w W) (fun x => !di x) 179 #[] (r_ Try.func179 (by decide +kernel) (by kernel_rfl)) l A c w hr (fun _ _ h => h) (fun _ W n h => ak h (eG (Below.refl _ _) n))
  (fun x rest W B cb hx _ hI hC hlx => by
   refine (acB x (hz x hx) B cb W (Kd.gV hC hI) hlx).mono ?_
   rintro e w' ⟨he, hb⟩
   exact ⟨he, ak hI hb⟩) w (Below.refl _ _) hr.2.1
 have HQ := ae.mk hq
 rw [List.all_eq_not_any_not]
 clear hq hr hc hz
 generalize l.any (fun x => !di x) = r at HQ ⊢
 cases r
 all_goals
  go_enter Try.func148, Try.ntmps148
  go_wp2_with fail
  refine HQ.out.mono ?_
  rintro e w2 ⟨rfl, hb⟩
  have HB := ae.mk hb
  clear hb
  go_wp2
  go_ret
  exact ⟨rfl, HB.out⟩
noncomputable def lh.f (l0 : List ai) : Option Bool := if l0.all (fun c => decide (sz c ≤ 1048576)) = true then some (l0.all di) else none
theorem lh.calls (A0 : Option Addr) (c0 : Nat) (l0 : List ai) (r : Bool) (w : World) (hr0 : Kd.C k26 w A0 l0.length l0) (hc0 : l0.length ≤ c0) (h : lh.f l0 = some r) :
  Calls Try.prog 148 #[.slice A0 l0.length c0] w fun e w' => e = .returned (.bool r) ∧ Below w.heap.size w w' := by
 unfold lh.f at h
 split at h
 ·rename_i hz
  injection h with h
  subst h
  exact Ol l0 (fun x hx => of_decide_eq_true (List.all_eq_true.1 hz x hx)) A0 c0 w hr0 hc0
 ·exact absurd h (by simp)
end Go.Proofs.Ytfdmfgaiblfbhaa.P
namespace Go.Proofs.Ytfdmfgaiblfbhaa.P
open Go.RowKit Go.Proofs.ag.aK Go.Proofs.ag.bG Go.Proofs.ag.bV
attribute [local go_sem] jm jB jR kF jO jP kT kV
noncomputable def bZ.j0 : Nat → Int → Bool → Int → Int → Int → Int → Int → Int → List (ai) → Option (Int)
 | 0, _, _, _, _, _, _, _, _, _ => none
 | k + 1, x1, H8, aba, PY, PZ, P5, P6, abb, abd => if H8 = true then (some 0) else ((oU.f PY PZ P5 P6 x1).bind fun Gg => ((kN.f k aba PY PZ P5 P6 abb abd x1).bind fun Ed => (some (wrap64 (Gg - Ed)))))
noncomputable def bZ.f (k : Nat) (au : Int) (aI : Int) (aC : Int) (aH : Int) (bz : Int) (bD : Int) (aQ : List (ai)) (a1 : Int) : Option (Int) := (kz.f a1).bind fun Ja => (if Ja = true then ((lh.f (([(⟨au, (⟨aI, aC, aH, bz⟩ : dD), bD, aQ⟩ : ai)] : List (ai)))).bind fun xm => (bZ.j0 k a1 (!xm) au aI aC aH bz bD aQ)) else (bZ.j0 k a1 true au aI aC aH bz bD aQ))
def bZ.T3 : Bool × List (List Nat × List Nat) := (true, [([], []), ([0], [0]), ([], []), ([1, 2], [1, 2]), ([], []), ([], []), ([4, 5, 3], [4, 5]), ([3, 6], [3, 6]), ([7, 6, 0, 1, 2, 3, 4, 5, 6, 7], [7])])
def bZ.B3 : List Nat := [0, 1, 0, 7, 0, 0, 63, 127, 255]
theorem bZ.Rl : g_ .any (opsOf Try.f86 3) = bZ.T3 := by kernel_rfl
theorem bZ.Kr : iO bZ.T3.2 bZ.B3 = true := by kernel_rfl
theorem bZ.calls (k : Nat) (au : Int) (aI : Int) (aC : Int) (aH : Int) (bz : Int) (bD : Int) (eY : Nat → Prop) (dG : Option Addr) (dH : Nat) (aQ : List (ai)) (a1 : Int) (r : Int) (w : World) (EC : Kd.V k26 26 w w.heap.size (fun k_ => eY k_) (.slice dG aQ.length dH) aQ) (h : bZ.f k au aI aC aH bz bD aQ a1 = some r) :
  Calls Try.prog 86 #[.agg #[.int .u8 au, .int .i64 aI, .int .i64 aC, .int .i64 aH, .int .i64 bz, .int .i64 bD, .slice dG aQ.length dH], .int .u8 a1] w fun e w' => e = .returned (.int .i64 r) ∧ Below w.heap.size w w' := by
 have IL := Try.underlying26
 have NH := Try.underlying23
 have jb := ae.mk (show Kd.V k26 26 w w.heap.size (fun k_ => (eY k_ ∨ w.heap.size ≤ k_)) (.slice dG aQ.length dH) aQ from Kd.gu EC (fun k_ hk => .inl hk))
 have HB := ae.mk (Below.refl w.heap.size w)
 have H : ((kz.f a1).bind fun Ja => (if Ja = true then ((lh.f (([(⟨au, (⟨aI, aC, aH, bz⟩ : dD), bD, aQ⟩ : ai)] : List (ai)))).bind fun xm => (bZ.j0 k a1 (!xm) au aI aC aH bz bD aQ)) else (bZ.j0 k a1 true au aI aC aH bz bD aQ))) = some r := h
 clear h
 have HC3 := ae.mk H
 clear H
 go_enter Try.func86, Try.ntmps86
 go_upto_region 1 with (((with_reducible refine aG (N := 2) rfl ?_); (try (refine iE (by rfl) ?_; dsimp only)); refine aT ?hg (N := 2) ?hd (cs := #[.int .u8 au, .int .i64 aI, .int .i64 aC, .int .i64 aH, .int .i64 bz, .int .i64 bD, .slice dG aQ.length dH]) (t := 26) ?hr ?_; (case hd => rfl); (case hg => rfl); (case hr => (go_simp; done)); intro lI hg w4 hbox hb; have dX := ae.mk (hbox); replace jb := ae.mk (Kd.ja (Kd.nK jb.out lI (Nat.le_of_eq hg.symm)) hb); replace HB := ae.mk (ak (by repeat ((with_reducible exact HB.out))) hb); clear hb hbox hg))
 (skip)
 go_cut [13] (fun v13 wc => ∃ (kq : Nat) (Kv : Bool), v13 = .bool Kv ∧ ae (bZ.j0 kq a1 Kv au aI aC aH bz bD aQ = some r) ∧ ae (kq ≤ k) ∧ ae (Kd.V k26 26 wc w.heap.size (fun k_ => (eY k_ ∨ w.heap.size ≤ k_) ∧ k_ ≠ lI) (.slice dG aQ.length dH) aQ) ∧ ae (wc.heap[lI]? = some (.cells #[.int .u8 au, .int .i64 aI, .int .i64 aC, .int .i64 aH, .int .i64 bz, .int .i64 bD, (.slice dG aQ.length dH)] 26 (0, 0))) ∧ ae (Below w.heap.size w wc))
 case first =>
  have H := HC3.out
  clear HC3
  replace H := Option.bind_eq_some_iff.mp H
  obtain ⟨Ja, A50, H⟩ := H
  replace H : (if Ja = true then ((lh.f (([(⟨au, (⟨aI, aC, aH, bz⟩ : dD), bD, aQ⟩ : ai)] : List (ai)))).bind fun xm => (bZ.j0 k a1 (!xm) au aI aC aH bz bD aQ)) else (bZ.j0 k a1 true au aI aC aH bz bD aQ)) = some r := H
  have A5 := ae.mk A50
  clear A50
  by_cases c6 : Ja = true
  ·subst c6
   have H1 : ((lh.f (([(⟨au, (⟨aI, aC, aH, bz⟩ : dD), bD, aQ⟩ : ai)] : List (ai)))).bind fun xm => (bZ.j0 k a1 (!xm) au aI aC aH bz bD aQ)) = some r := by rw [if_pos rfl] at H; exact H
   clear H
   have H := H1
   clear H1
   obtain ⟨aeE, QQ⟩ : ∃ y_ : List (ai), y_ = (([(⟨au, (⟨aI, aC, aH, bz⟩ : dD), bD, aQ⟩ : ai)] : List (ai))) := ⟨_, rfl⟩
   replace H : ((lh.f aeE).bind fun xm => (bZ.j0 k a1 (!xm) au aI aC aH bz bD aQ)) = some r := by (rw [QQ]; with_reducible exact H)
   have aeX := ae.mk QQ
   clear QQ
   replace H := Option.bind_eq_some_iff.mp H
   obtain ⟨xm, A70, H⟩ := H
   replace H : (bZ.j0 k a1 (!xm) au aI aC aH bz bD aQ) = some r := H
   have A7 := ae.mk A70
   clear A70
   have H' := ae.mk H
   clear H
   go_wp2_with (first | ((with_reducible refine kM (f := 147) rfl ?_); refine mM (some 6) rfl rfl Try.func147 (by kernel_rfl) rfl #[.int .u8 a1] rfl (by (try simp only [List.map_toArray, List.map_cons, List.map_nil]); rfl) ?_; (with_reducible refine (kz.calls a1 true _ A5.out).mono ?_); rintro e w8 ⟨rfl, hb⟩; refine ⟨_, rfl, ?_⟩; replace jb := ae.mk (Kd.ja jb.out hb); replace dX := ae.mk (aJ dX.out hb); replace HB := ae.mk (ak (by repeat ((with_reducible exact HB.out))) hb); (try clear hb); have TF : w8.cell? ⟨lI, 0, none⟩ = some (.int .u8 au) := (af dX.out 0).trans rfl; have TG : w8.cell? ⟨lI, 1, none⟩ = some (.int .i64 aI) := (af dX.out 1).trans rfl; have TI : w8.cell? ⟨lI, 2, none⟩ = some (.int .i64 aC) := (af dX.out 2).trans rfl; have TJ : w8.cell? ⟨lI, 3, none⟩ = some (.int .i64 aH) := (af dX.out 3).trans rfl; have TK : w8.cell? ⟨lI, 4, none⟩ = some (.int .i64 bz) := (af dX.out 4).trans rfl; have TL : w8.cell? ⟨lI, 5, none⟩ = some (.int .i64 bD) := (af dX.out 5).trans rfl; have TM : w8.cell? ⟨lI, 6, none⟩ = some (.slice dG aQ.length dH) := (af dX.out 6).trans rfl; have T_ := ah dX.out 0; have Ua := ah dX.out 1; have Ub := ah dX.out 2; have Uc := ah dX.out 3; have Ud := ah dX.out 4; have Ue := ah dX.out 5; have Uf := ah dX.out 6) | ((with_reducible refine aG (N := 10) rfl ?_); (try (refine iE (by rfl) ?_; dsimp only)); refine Kd.yJ k26 _ 26 ?hg (N' := 10) ?hd (xs := ([(⟨au, (⟨aI, aC, aH, bz⟩ : dD), bD, aQ⟩ : ai)] : List (ai))) (inner := [.int .u8 au, .int .i64 aI, .int .i64 aC, .int .i64 aH, .int .i64 bz, .int .i64 bD, .slice dG aQ.length dH]) (ok := (fun k_ => (eY k_ ∨ w.heap.size ≤ k_) ∧ k_ ≠ lI)) (fD := (fun k_ => (eY k_ ∨ w.heap.size ≤ k_) ∧ k_ ≠ lI)) ?hr ?hp (fun _ hk => hk) ((show ∀ k_, w8.heap.size ≤ k_ → (fun k_ => (eY k_ ∨ w.heap.size ≤ k_) ∧ k_ ≠ lI) k_ from fun k_ hk => ⟨(.inr (Nat.le_trans (dR (by repeat ((with_reducible exact HB.out)))) hk)), Kd.zo dX.out k_ hk⟩) _ (Nat.le_refl _)) (Below.refl _ _) (Nat.le_refl _) (by simp) ?_; (case hd => rfl); (case hg => rfl); (case hr => (go_simp; done)); (case hp => exact (bW.c7 (show Kd.FK k26 _ _ (⟨au, (⟨aI, aC, aH, bz⟩ : dD), bD, aQ⟩ : ai) [.int .u8 au, .int .i64 aI, .int .i64 aC, .int .i64 aH, .int .i64 bz, .int .i64 bD, .slice dG aQ.length dH] from (oC _ _ (⟨au, (⟨aI, aC, aH, bz⟩ : dD), bD, aQ⟩ : ai) (Kd.kP (Kd.gu (ok' := (fun k_ => (eY k_ ∨ w.heap.size ≤ k_) ∧ k_ ≠ lI)) (jb.out) (fun k_ hk => ⟨hk.1, hk.2⟩))).2.1 (Kd.Sz (Kd.gu (ok' := (fun k_ => (eY k_ ∨ w.heap.size ≤ k_) ∧ k_ ≠ lI)) (jb.out) (fun k_ hk => ⟨hk.1, hk.2⟩))))) (bW.none _ _))); intro akI w10 QK hb nO ji; clear nO ji; (rw [← aeX.out] at QK); have Gu := ae.mk (Kd.uY QK (dR (by repeat ((with_reducible exact HB.out))))); replace jb := ae.mk (Kd.wR jb.out (Kd.vN QK) hb); replace dX := ae.mk (aJ dX.out hb); replace HB := ae.mk (ak (by repeat ((with_reducible exact HB.out))) hb); clear hb QK; obtain ⟨akh, akq, ag0⟩ := Kd.jw Gu.out; subst ag0) | (go_at_call 148; (with_reducible refine (lh.calls _ _ aeE xm _ ?tK ?yR A7.out).mono ?_); (case tK => repeat (exact (Kd.iI Gu.out).2.2)); (case yR => exact (Kd.iI Gu.out).2.1); rintro e uf ⟨rfl, hb⟩; replace jb := ae.mk (Kd.ja jb.out hb); replace Gu := ae.mk (Kd.pO Gu.out hb); replace dX := ae.mk (aJ dX.out hb); replace HB := ae.mk (ak (by repeat ((with_reducible exact HB.out))) hb); (try clear hb)))
   go_meet
   case rel => exact ⟨_, (!xm), (by rfl), H', ⟨by omega⟩, ⟨by exact Kd.gu jb.out (fun _ hk => ⟨hk.1.1, hk.1.2⟩)⟩, ⟨by exact dX.out⟩, ⟨by repeat ((with_reducible exact HB.out))⟩⟩
  ·replace c6 := Bool.eq_false_iff.mpr c6
   subst c6
   have H1 : (bZ.j0 k a1 true au aI aC aH bz bD aQ) = some r := by rw [if_neg (show ¬ (false = true) by decide)] at H; exact H
   clear H
   have H := H1
   clear H1
   have H' := ae.mk H
   clear H
   go_wp2_with (((with_reducible refine kM (f := 147) rfl ?_); refine mM (some 6) rfl rfl Try.func147 (by kernel_rfl) rfl #[.int .u8 a1] rfl (by (try simp only [List.map_toArray, List.map_cons, List.map_nil]); rfl) ?_; (with_reducible refine (kz.calls a1 false _ A5.out).mono ?_); rintro e w14 ⟨rfl, hb⟩; refine ⟨_, rfl, ?_⟩; replace jb := ae.mk (Kd.ja jb.out hb); replace dX := ae.mk (aJ dX.out hb); replace HB := ae.mk (ak (by repeat ((with_reducible exact HB.out))) hb); (try clear hb)))
   go_meet
   case rel => exact ⟨_, (true), (by rfl), H', ⟨by omega⟩, ⟨by exact jb.out⟩, ⟨by exact dX.out⟩, ⟨by repeat ((with_reducible exact HB.out))⟩⟩
 case rest =>
  clear HC3
  obtain ⟨kq, Kv, rfl, HA, HJ2, oJ, dX, HB⟩ := hcut
  cases kq with
  | zero => exact absurd HA.out (by simp [bZ.j0])
  | succ kj2 =>
   have H := HA.out
   clear HA
   simp only [bZ.j0] at H
   by_cases c15 : Kv = true
   ·subst c15
    have H1 : (some 0) = some r := by rw [if_pos rfl] at H; exact H
    clear H
    have H := H1
    clear H1
    obtain rfl := Option.some.inj H
    go_wp2
    go_ret
    exact ⟨by rfl, by repeat ((with_reducible exact HB.out))⟩
   ·replace c15 := Bool.eq_false_iff.mpr c15
    subst c15
    have H1 : ((oU.f aI aC aH bz a1).bind fun Gg => ((kN.f kj2 au aI aC aH bz bD aQ a1).bind fun Ed => (some (wrap64 (Gg - Ed))))) = some r := by rw [if_neg (show ¬ (false = true) by decide)] at H; exact H
    clear H
    have H := H1
    clear H1
    replace H := Option.bind_eq_some_iff.mp H
    obtain ⟨Gg, Ky, H⟩ := H
    replace H : ((kN.f kj2 au aI aC aH bz bD aQ a1).bind fun Ed => (some (wrap64 (Gg - Ed)))) = some r := H
    have A16 := ae.mk Ky
    clear Ky
    replace H := Option.bind_eq_some_iff.mp H
    obtain ⟨Ed, abl, H⟩ := H
    replace H : (some (wrap64 (Gg - Ed))) = some r := H
    have A17 := ae.mk abl
    clear abl
    obtain rfl := Option.some.inj H
    try go_wp2
    replace oJ := ae.mk (Kd.Lr oJ.out); replace dX := ae.mk (uP dX.out); replace HB := ae.mk (um HB.out)
    refine iU (n := 9) (S := fun w' => w'.cell? ⟨lI, 0, none⟩ = some (.int .u8 au) ∧ w'.cell? ⟨lI, 1, none⟩ = some (.int .i64 aI) ∧ w'.cell? ⟨lI, 2, none⟩ = some (.int .i64 aC) ∧ w'.cell? ⟨lI, 3, none⟩ = some (.int .i64 aH) ∧ w'.cell? ⟨lI, 4, none⟩ = some (.int .i64 bz) ∧ w'.cell? ⟨lI, 5, none⟩ = some (.int .i64 bD) ∧ w'.cell? ⟨lI, 6, none⟩ = some (.slice dG aQ.length dH)) (ds := []) #[false, false, false, false, false, false, false, false, false] (by kernel_rfl) rfl rfl ⟨(af dX.out 0).trans rfl, (af dX.out 1).trans rfl, (af dX.out 2).trans rfl, (af dX.out 3).trans rfl, (af dX.out 4).trans rfl, (af dX.out 5).trans rfl, (af dX.out 6).trans rfl⟩ (fun hHeld => ?_); refine eU bZ.Rl bZ.Kr (fun aj dY => ?_)
    generalize wc.drew = w18 at oJ dX HB hHeld ⊢
    refine rF (i := 0) (N := some 14) (v := ?_) (a' := ?_) #[true, false, false, false, false, false, false, false, false] rfl rfl (oL aj.out (by kernel_rfl)) (fun _ _ _ h => h) (Or.inl ⟨by rfl, ?_⟩) ?_ ?_
    rotate_left
    ·intro w'
     go_simp
     with_reducible rfl
    rotate_left
    ·simp only [Act.put, List.setIfInBounds_toArray, List.set_cons_zero, List.set_cons_succ, jM, jL]
     rfl
    refine rF (i := 2) (N := some 16) (v := ?_) (a' := ?_) #[true, false, true, false, false, false, false, false, false] rfl rfl (oL aj.out (by kernel_rfl)) (fun _ _ _ h => h) (Or.inl ⟨by rfl, ?_⟩) ?_ ?_
    rotate_left
    ·intro w'
     go_simp
     with_reducible rfl
    rotate_left
    ·simp only [Act.put, List.setIfInBounds_toArray, List.set_cons_zero, List.set_cons_succ, jM, jL]
     rfl
    refine rF (i := 5) (N := some 19) (v := ?_) (a' := ?_) #[true, false, true, false, false, true, false, false, false] rfl rfl (oL aj.out (by kernel_rfl)) (fun _ _ _ h => h) (Or.inl ⟨by rfl, ?_⟩) ?_ ?_
    rotate_left
    ·intro w'
     go_simp
     with_reducible rfl
    rotate_left
    ·simp only [Act.put, List.setIfInBounds_toArray, List.set_cons_zero, List.set_cons_succ, jM, jL]
     rfl
    refine yS (i := 1) (N := some 15) (v := ?_) (a' := ?_) #[true, true, true, false, false, true, false, false, false] rfl rfl (uS aj.out dY.out (by kernel_rfl)) (fun _ _ _ h => h) (Or.inl ⟨by rfl, ?_⟩) hHeld ?_ ?_
    rotate_left
    ·rintro w' ⟨s0, s1, s2, s3, s4, s5, s6⟩
     go_simp
     with_reducible rfl
    rotate_left
    ·simp only [Act.put, List.setIfInBounds_toArray, List.set_cons_zero, List.set_cons_succ, jM, jL]
     rfl
    refine yS (i := 4) (N := some 18) (v := ?_) (a' := ?_) #[true, true, true, false, true, true, false, false, false] rfl rfl (uS aj.out dY.out (by kernel_rfl)) (fun _ _ _ h => h) (Or.inl ⟨by rfl, ?_⟩) hHeld ?_ ?_
    rotate_left
    ·rintro w' ⟨s0, s1, s2, s3, s4, s5, s6⟩
     go_simp
     with_reducible rfl
    rotate_left
    ·simp only [Act.put, List.setIfInBounds_toArray, List.set_cons_zero, List.set_cons_succ, jM, jL]
     rfl
    refine NV (i := 3) (N := some 17) #[true, true, true, true, true, true, false, false, false] rfl rfl (xO aj.out (by kernel_rfl)) (by decide) (fun K hK => ?_)
    refine jD Try.func98 (by kernel_rfl) rfl #[.agg #[.int .i64 aI, .int .i64 aC, .int .i64 aH, .int .i64 bz], .int .u8 a1] (by rfl) rfl rfl (by (try simp only [List.map_toArray, List.map_cons, List.map_nil]); rfl) ?_
    with_reducible refine (oU.calls aI aC aH bz a1 Gg _ A16.out).mono ?_
    rintro e EZ ⟨rfl, hb⟩
    refine ⟨_, rfl, ?_⟩
    replace oJ := ae.mk (Kd.ja oJ.out hb); replace dX := ae.mk (aJ dX.out hb); replace HB := ae.mk (ak (by repeat ((with_reducible exact HB.out))) hb)
    (try clear hb)
    (skip)
    (skip)
    (skip)
    refine hK.out _ _ ⟨(af dX.out 0).trans rfl, (af dX.out 1).trans rfl, (af dX.out 2).trans rfl, (af dX.out 3).trans rfl, (af dX.out 4).trans rfl, (af dX.out 5).trans rfl, (af dX.out 6).trans rfl⟩ (fun hHeld => ?_)
    clear hK K
    refine l_ (a' := ?_) ?_ ?_
    rotate_left
    ·show Act.put _ (some 17) _ = _
     simp only [Act.put, List.setIfInBounds_toArray, List.set_cons_zero, List.set_cons_succ, jM, jL]
     rfl
    refine NV (i := 6) (N := some 20) #[true, true, true, true, true, true, true, false, false] rfl rfl (xO aj.out (by kernel_rfl)) (by decide) (fun K hK => ?_)
    refine jD Try.func149 (by kernel_rfl) rfl #[.agg #[.int .u8 au, .int .i64 aI, .int .i64 aC, .int .i64 aH, .int .i64 bz, .int .i64 bD, .slice dG aQ.length dH], .int .u8 a1] (by rfl) rfl rfl (by (try simp only [List.map_toArray, List.map_cons, List.map_nil]); rfl) ?_
    with_reducible refine (kN.calls kj2 au aI aC aH bz bD _ _ aQ a1 Ed _ ?tK ?yR A17.out).mono ?_
    (case tK => repeat (exact (Kd.kP oJ.out).2.2))
    (case yR => exact (Kd.kP oJ.out).2.1)
    rintro e w20 ⟨rfl, hb⟩
    refine ⟨_, rfl, ?_⟩
    replace oJ := ae.mk (Kd.ja oJ.out hb); replace dX := ae.mk (aJ dX.out hb); replace HB := ae.mk (ak (by repeat ((with_reducible exact HB.out))) hb)
    (try clear hb)
    (skip)
    (skip)
    (skip)
    refine hK.out _ _ ⟨(af dX.out 0).trans rfl, (af dX.out 1).trans rfl, (af dX.out 2).trans rfl, (af dX.out 3).trans rfl, (af dX.out 4).trans rfl, (af dX.out 5).trans rfl, (af dX.out 6).trans rfl⟩ (fun hHeld => ?_)
    clear hK K
    refine l_ (a' := ?_) ?_ ?_
    rotate_left
    ·show Act.put _ (some 20) _ = _
     simp only [Act.put, List.setIfInBounds_toArray, List.set_cons_zero, List.set_cons_succ, jM, jL]
     rfl
    refine rF (i := 7) (N := some 21) (v := ?_) (a' := ?_) #[true, true, true, true, true, true, true, true, false] rfl rfl (oL aj.out (by kernel_rfl)) (fun _ _ _ h => h) (Or.inl ⟨by rfl, ?_⟩) ?_ ?_
    rotate_left
    ·intro w'
     go_simp
     with_reducible rfl
    rotate_left
    ·simp only [Act.put, List.setIfInBounds_toArray, List.set_cons_zero, List.set_cons_succ, jM, jL]
     rfl
    refine rF (i := 8) (N := some 4) (v := ?_) (a' := ?_) #[true, true, true, true, true, true, true, true, true] rfl rfl (oL aj.out (by kernel_rfl)) (fun _ _ _ h => h) (Or.inl ⟨by rfl, ?_⟩) ?_ ?_
    rotate_left
    ·intro w'
     go_simp
     with_reducible rfl
    rotate_left
    ·simp only [Act.put, List.setIfInBounds_toArray, List.set_cons_zero, List.set_cons_succ, jM, jL]
     rfl
    refine jJ (gK aj.out (by kernel_rfl)) ?_
    try go_wp2
    go_ret
    exact ⟨by rfl, by repeat ((with_reducible exact HB.out))⟩
def qg.f (au : Int) (aI : Int) (aC : Int) (aH : Int) (a1 : Int) : Option (Int) := if a1 = 1 then (some aC) else (if a1 = 2 then (some aH) else (some 0))
theorem qg.calls (au : Int) (aI : Int) (aC : Int) (aH : Int) (a1 : Int) (r : Int) (w : World) (h : qg.f au aI aC aH a1 = some r) :
  Calls Try.prog 87 #[.agg #[.int .i64 au, .int .i64 aI, .int .i64 aC, .int .i64 aH], .int .u8 a1] w fun e w' => e = .returned (.int .i64 r) ∧ Below w.heap.size w w' := by
 have NH := Try.underlying23
 have HB := ae.mk (Below.refl w.heap.size w)
 have H : (if a1 = 1 then (some aC) else (if a1 = 2 then (some aH) else (some 0))) = some r := h
 clear h
 by_cases c3 : a1 = 1
 ·rw [if_pos c3] at H
  have uh : (a1 == 1) = true := beq_iff_eq.mpr c3
  have y9 : (a1 != 1) = false := bne_eq_false_iff_eq.mpr c3
  clear c3
  obtain rfl := Option.some.inj H
  go_enter Try.func87, Try.ntmps87
  go_wp2_with (((with_reducible refine aG (N := 2) rfl ?_); refine aT ?hg (N := 2) ?hd (cs := #[.int .i64 au, .int .i64 aI, .int .i64 aC, .int .i64 aH]) (t := 23) ?hr ?_; (case hd => rfl); (case hg => rfl); (case hr => (go_simp; done)); intro xu hg w4 hbox hb; have nV := ae.mk (hbox); replace HB := ae.mk (ak (by repeat ((with_reducible exact HB.out))) hb); clear hb hbox hg; have adg : w4.cell? ⟨xu, 0, none⟩ = some (.int .i64 au) := (af nV.out 0).trans rfl; have adh : w4.cell? ⟨xu, 1, none⟩ = some (.int .i64 aI) := (af nV.out 1).trans rfl; have adl : w4.cell? ⟨xu, 2, none⟩ = some (.int .i64 aC) := (af nV.out 2).trans rfl; have adm : w4.cell? ⟨xu, 3, none⟩ = some (.int .i64 aH) := (af nV.out 3).trans rfl; have adE := ah nV.out 0; have adF := ah nV.out 1; have adG := ah nV.out 2; have adH := ah nV.out 3))
  go_ret
  exact ⟨by rfl, by repeat ((with_reducible exact HB.out))⟩
 ·rw [if_neg c3] at H
  have uh : (a1 == 1) = false := beq_eq_false_iff_ne.mpr c3
  have y9 : (a1 != 1) = true := bne_iff_ne.mpr c3
  by_cases c6 : a1 = 2
  ·rw [if_pos c6] at H
   have BK : (a1 == 2) = true := beq_iff_eq.mpr c6
   have VF : (a1 != 2) = false := bne_eq_false_iff_eq.mpr c6
   clear c6
   obtain rfl := Option.some.inj H
   go_enter Try.func87, Try.ntmps87
   go_wp2_with (((with_reducible refine aG (N := 2) rfl ?_); refine aT ?hg (N := 2) ?hd (cs := #[.int .i64 au, .int .i64 aI, .int .i64 aC, .int .i64 aH]) (t := 23) ?hr ?_; (case hd => rfl); (case hg => rfl); (case hr => (go_simp; done)); intro xu hg w7 hbox hb; have nV := ae.mk (hbox); replace HB := ae.mk (ak (by repeat ((with_reducible exact HB.out))) hb); clear hb hbox hg; have TB : w7.cell? ⟨xu, 0, none⟩ = some (.int .i64 au) := (af nV.out 0).trans rfl; have TC : w7.cell? ⟨xu, 1, none⟩ = some (.int .i64 aI) := (af nV.out 1).trans rfl; have TD : w7.cell? ⟨xu, 2, none⟩ = some (.int .i64 aC) := (af nV.out 2).trans rfl; have TE : w7.cell? ⟨xu, 3, none⟩ = some (.int .i64 aH) := (af nV.out 3).trans rfl; have TV := ah nV.out 0; have TW := ah nV.out 1; have TY := ah nV.out 2; have TZ := ah nV.out 3))
   go_ret
   exact ⟨by rfl, by repeat ((with_reducible exact HB.out))⟩
  ·rw [if_neg c6] at H
   have BK : (a1 == 2) = false := beq_eq_false_iff_ne.mpr c6
   have VF : (a1 != 2) = true := bne_iff_ne.mpr c6
   obtain rfl := Option.some.inj H
   go_enter Try.func87, Try.ntmps87
   go_wp2_with (((with_reducible refine aG (N := 2) rfl ?_); refine aT ?hg (N := 2) ?hd (cs := #[.int .i64 au, .int .i64 aI, .int .i64 aC, .int .i64 aH]) (t := 23) ?hr ?_; (case hd => rfl); (case hg => rfl); (case hr => (go_simp; done)); intro xu hg w9 hbox hb; have nV := ae.mk (hbox); replace HB := ae.mk (ak (by repeat ((with_reducible exact HB.out))) hb); clear hb hbox hg))
   go_ret
   exact ⟨by rfl, by repeat ((with_reducible exact HB.out))⟩
end Go.Proofs.Ytfdmfgaiblfbhaa.P
namespace Go.Proofs.Ytfdmfgaiblfbhaa.P
open Go.RowKit Go.Proofs.ag.aK Go.Proofs.ag.bG Go.Proofs.ag.bV
theorem Ev.unique {α : Type} {g : Nat → Option α} {a b : α} (h : Ev g a) (k : Ev g b) : a = b := by
 obtain ⟨n, hn⟩ := h
 obtain ⟨m, hm⟩ := k
 have e := (hn (max n m) (by omega)).symm.trans (hm (max n m) (by omega))
 exact Option.some.inj e
theorem Rh (r : dD) (ax : Int) : qg.f r.f0 r.f1 r.f2 r.f3 ax = some (aV ax r) := by
 unfold qg.f aV
 split
 ·rfl
 ·split <;> rfl
theorem EY (c : ai) (hz : sz c ≤ 1048576) : lh.f ([(⟨c.f0, (⟨c.f1.f0, c.f1.f1, c.f1.f2, c.f1.f3⟩ : dD), c.f2, c.f3⟩ : ai)] : List ai) = some (di c) := by
 rw [GR]
 unfold lh.f
 rw [if_pos (by simp [hz])]
 simp
theorem oZ {c : ai} (h : kU c = true) : (fG c).all mf = true := by
 unfold kU at h
 simp only [Bool.and_eq_true] at h
 exact h.2.1
theorem kH {c : ai} (h : di c = true) : kU c = true := by
 unfold di at h
 simp only [Bool.and_eq_true] at h
 exact h.1
noncomputable def az (ax : Int) (c : ai) : Int := if (ax = 1 ∨ ax = 2) ∧ di c = true then wrap64 (aV ax c.f1 - b_ ax c) else 0
theorem V8 (c : ai) (hz : sz c ≤ 1048576) (ax : Int) : Ev (fun k => bZ.f k c.f0 c.f1.f0 c.f1.f1 c.f1.f2 c.f1.f3 c.f2 c.f3 ax) (az ax c) := by
 have no : Ev (fun k => bZ.j0 k ax true c.f0 c.f1.f0 c.f1.f1 c.f1.f2 c.f1.f3 c.f2 c.f3) 0 := by
  refine Ev.step (f := fun _ => some 0) (fun k => ?_) (Ev.now _)
  simp only [bZ.j0]
  rw [if_pos trivial]
 unfold az
 by_cases hax : ax = 1 ∨ ax = 2
 ·have ha : kz.f ax = some true := by
   unfold kz.f
   rcases hax with rfl | rfl <;> rfl
  cases ht : di c with
  | false =>
   rw [if_neg (by simp)]
   refine Ev.congr (f := fun k => bZ.j0 k ax true c.f0 c.f1.f0 c.f1.f1 c.f1.f2 c.f1.f3 c.f2 c.f3) (fun k => ?_) no
   unfold bZ.f
   rw [ha]
   simp only [Option.bind_some, if_true]
   rw [EY c hz, ht]
   rfl
  | true =>
   rw [if_pos ⟨hax, rfl⟩]
   refine Ev.congr (f := fun k => bZ.j0 k ax false c.f0 c.f1.f0 c.f1.f1 c.f1.f2 c.f1.f3 c.f2 c.f3) (fun k => ?_) (Ev.step (f := fun k => (kN.f k c.f0 c.f1.f0 c.f1.f1 c.f1.f2 c.f1.f3 c.f2 c.f3 ax).bind fun t => some (wrap64 (aV ax c.f1 - t))) (fun k => ?_) (Ev.bind (WB ax (sz c) c (Nat.le_refl _) hz) (Ev.now _)))
   ·unfold bZ.f
    rw [ha]
    simp only [Option.bind_some, if_true]
    rw [EY c hz, ht]
    rfl
   ·simp only [bZ.j0]
    rw [if_neg (by simp), JS c.f1 ax]
    rfl
 ·rw [if_neg (fun h => hax h.1)]
  refine Ev.congr (f := fun k => bZ.j0 k ax true c.f0 c.f1.f0 c.f1.f1 c.f1.f2 c.f1.f3 c.f2 c.f3) (fun k => ?_) no
  unfold bZ.f kz.f
  rw [if_neg (fun h => hax (.inl h)), show (ax == 2) = false from by simp; exact fun h => hax (.inr h)]
  simp only [Option.bind_some, Bool.false_eq_true, if_false]
theorem PU {l : List ai} {k : ai} (h : k ∈ l) : sz k ≤ dI l := by
 obtain ⟨p, q, e⟩ := List.append_of_mem h
 rw [e, nG, bY]; omega
noncomputable def qP (b : Int) (gs : List Int) : List Int × Bool := by
 classical
 exact if h : ∃ r, Ev (fun k => bF.f k b gs) r then Classical.choose h else ([], false)
theorem Ea (b : Int) (gs : List Int) (hl : gs.length ≤ 100000) (h0 : -2147483647 ≤ b) (h1 : b ≤ 2147483647) : Ll b gs (qP b gs) ∧ Ev (fun k => bF.f k b gs) (qP b gs) := by
 obtain ⟨r, hs, he⟩ := U1 b gs hl h0 h1
 have hx : ∃ r, Ev (fun k => bF.f k b gs) r := ⟨r, he⟩
 have e : qP b gs = r := by
  unfold qP
  rw [dif_pos hx]
  exact Ev.unique (Classical.choose_spec hx) he
 rw [e]
 exact ⟨hs, he⟩
theorem aaO {b : Int} {gs : List Int} (hl : gs.length ≤ 100000) (h0 : -2147483647 ≤ b) (h1 : b ≤ 2147483647) (h : (qP b gs).2 = true) : (qP b gs).1.length = gs.length := by
 rcases (Ea b gs hl h0 h1).1 with ⟨e, _⟩ | ⟨e, _⟩ | ⟨qs, e, _, _, hq, _⟩
 ·rw [e] at h; cases h
 ·rw [e]; exact sG _ _
 ·rw [e, ← hq]; simp
theorem U2 {b : Int} {gs : List Int} (hl : gs.length ≤ 100000) (h0 : -2147483647 ≤ b) (h1 : b ≤ 2147483647) : ∀ x, x ∈ (qP b gs).1 → -2147483647 ≤ x ∧ x ≤ 2147483647 := by
 intro x hx
 rcases (Ea b gs hl h0 h1).1 with ⟨e, _⟩ | ⟨e, hne, _, hb⟩ | ⟨qs, e, _, _, hq, hg, _⟩
 ·rw [e] at hx; cases hx
 ·rw [e] at hx
  simp only [moreL, List.mem_map, List.mem_range] at hx
  obtain ⟨i, hi, rfl⟩ := hx
  have hn : (0 : Int) < (gs.length : Int) := by have := List.length_pos_iff.2 hne; omega
  unfold qN
  have hd : 0 ≤ b / (gs.length : Int) := Int.ediv_nonneg hb (by omega)
  have hm : 0 ≤ b % (gs.length : Int) := Int.emod_nonneg _ (by omega)
  have hdm := Int.mul_ediv_add_emod b (gs.length : Int)
  have hle : b / (gs.length : Int) ≤ (gs.length : Int) * (b / (gs.length : Int)) := by
   have := Int.mul_le_mul_of_nonneg_right (show (1 : Int) ≤ (gs.length : Int) by omega) hd
   omega
  split <;> omega
 ·rw [e] at hx
  simp only [List.mem_map] at hx
  obtain ⟨p, hp, rfl⟩ := hx
  have := hg p hp
  omega
def grow (ax bu : Int) (r : dD) : dD := ⟨r.f0, r.f1, if ax = 1 then wrap64 (r.f2 + bu) else r.f2, if ax = 1 then r.f3 else wrap64 (r.f3 + bu)⟩
noncomputable def JM (ax k : Int) (l : List ai) (bu : Int) (i : Nat) : Int := if (qP bu (l.map (az ax))).2 = true ∧ fC ax k = true then rd (qP bu (l.map (az ax))).1 (i : Int) else bu
mutual
noncomputable def fE (ax : Int) : ai → Int → ai
 | ⟨k, r, id, l⟩, b => ⟨k, grow ax b r, id, kQ ax l (JM ax k l b) 0⟩
noncomputable def kQ (ax : Int) : List ai → (Nat → Int) → Nat → List ai
 | [], _, _ => []
 | k :: ks, ns, i => fE ax k (ns i) :: kQ ax ks ns (i + 1)
end
theorem yV (ax : Int) (c : ai) (b : Int) : fE ax c b = ⟨c.f0, grow ax b c.f1, c.f2, kQ ax c.f3 (JM ax c.f0 c.f3 b) 0⟩ := by cases c; simp [fE]
theorem rV (ax : Int) (ns : Nat → Int) (i : Nat) : kQ ax [] ns i = [] := by simp [kQ]
theorem uZ (ax : Int) (k : ai) (ks : List ai) (ns : Nat → Int) (i : Nat) : kQ ax (k :: ks) ns i = fE ax k (ns i) :: kQ ax ks ns (i + 1) := by simp [kQ]
theorem y8 (ax : Int) : ∀ (l : List ai) (ns : Nat → Int) (i : Nat), (kQ ax l ns i).length = l.length := by
 intro l
 induction l with
 | nil => intro ns i; rw [rV]
 | cons k ks ih => intro ns i; rw [uZ, List.length_cons, List.length_cons, ih]
theorem SB (ax : Int) (k : ai) : ∀ (l : List ai) (ns : Nat → Int) (i : Nat), kQ ax (l ++ [k]) ns i = kQ ax l ns i ++ [fE ax k (ns (i + l.length))] := by
 intro l
 induction l with
 | nil => intro ns i; simp [kQ]
 | cons x xs ih => intro ns i; rw [List.cons_append, uZ, uZ, ih, List.cons_append, List.length_cons, show i + 1 + xs.length = i + (xs.length + 1) by omega]
theorem YE (ax : Int) (ns : Nat → Int) (pre : List ai) (k : ai) (rest : List ai) : (kQ ax pre ns 0 ++ k :: rest).set pre.length (fE ax k (ns pre.length)) = kQ ax (pre ++ [k]) ns 0 ++ rest := by
 rw [SB, List.append_assoc, List.set_append_right _ _ (by rw [y8]; exact Nat.le_refl _), y8, Nat.sub_self, List.set_cons_zero, Nat.zero_add]
 rfl
theorem ab9 (ax : Int) (ns : Nat → Int) (pre : List ai) (k : ai) (rest : List ai) : aA (kQ ax pre ns 0 ++ k :: rest) (pre.length : Int) = k := by
 have := lu (kQ ax pre ns 0) k rest
 rw [y8] at this
 exact this
theorem ab_ (ax : Int) : ∀ (N : Nat), (∀ c : ai, sz c ≤ N → ∀ b, sz (fE ax c b) = sz c) ∧ (∀ l : List ai, dI l ≤ N → ∀ ns i, dI (kQ ax l ns i) = dI l) := by
 intro N
 induction N with
 | zero => exact ⟨fun c h => by rw [cO] at h; omega, fun l h ns i => by cases l with
  | nil => rw [rV]
  | cons x xs => rw [bY] at h; have := cO x; omega⟩
 | succ N ih =>
  have hC : ∀ c : ai, sz c ≤ N + 1 → ∀ b, sz (fE ax c b) = sz c := fun c h b => by
   rw [yV, cO, cO c]
   show 1 + dI (kQ ax c.f3 _ 0) = _
   rw [ih.2 c.f3 (by rw [cO] at h; omega)]
  refine ⟨hC, fun l => ?_⟩
  induction l with
  | nil => intro _ ns i; rw [rV]
  | cons x xs ihl =>
   intro h ns i
   rw [uZ, bY, bY]
   rw [bY] at h
   rw [hC x (by omega), ihl (by omega)]
def pW.f (l0 : List (ai)) : Option (List ai) := if l0.length ≤ 1000000 then some l0 else none
theorem pW.calls (Sm : Nat → Prop) (A0 : Option Addr) (c0 : Nat) (l0 : List (ai)) (r : List ai) (w : World) (hs0 : Kd.V k26 26 w w.heap.size (fun k_ => Sm k_) (.slice A0 l0.length c0) l0) (h : pW.f l0 = some r) :
  Calls Try.prog 137 #[.slice A0 l0.length c0] w fun e w' => ∃ vH : Value, e = .returned (vH) ∧ Kd.N k26 26 w' w.heap.size (fun k_ => (Sm k_ ∨ w.heap.size ≤ k_)) vH r ∧ Below w.heap.size w w' := by
 unfold pW.f at h
 split at h
 ·rename_i hl
  injection h with h
  subst h
  have HR := ae.mk (Kd.Sz hs0)
  have HL := ae.mk hl
  clear hl
  cases A0 with
  | none =>
   have heq : ∀ W : World, (binOp .eql 24 (.slice none l0.length c0) (.slice none 0 0)).run Try.prog W = .ok (.bool true) W := fun W => Lib.run_eql_slice_nil W 24 26 none l0.length c0 0 0 Try.underlying24
   have e0 : l0 = [] := by
    cases l0 with
    | nil => rfl
    | cons x xs =>
     obtain ⟨ad, h1, _⟩ := (Kd.Gm HR.out).2.2 (by simp)
     cases h1
   have E0 := ae.mk e0
   clear hs0 e0
   go_enter Try.func137, Try.ntmps137
   go_wp2
   go_ret
   exact ⟨_, rfl, by rw [E0.out]; exact Kd.yK _ _ _ _ _, Below.refl _ _⟩
  | some ad =>
   have heq : ∀ W : World, (binOp .eql 24 (.slice (some ad) l0.length c0) (.slice none 0 0)).run Try.prog W = .ok (.bool false) W := fun W => Lib.run_eql_slice_nil W 24 26 (some ad) l0.length c0 0 0 Try.underlying24
   clear hs0
   go_enter Try.func137, Try.ntmps137
   go_wp2_with (first | ((with_reducible refine aG (N := 5) rfl ?_); refine Kd.yJ k26 w.heap.size 26 ?hg (N' := 5) ?hd (xs := ([] : List ai)) (inner := []) (ok := fun k_ => (Sm k_ ∨ w.heap.size ≤ k_)) (fD := fun _ => False) ?hr ?hp (fun _ hk => hk.elim) (.inr (Nat.le_refl _)) (Below.refl _ _) (Nat.le_refl _) (by simp) ?_; (case hd => rfl); (case hg => rfl); (case hr => first | (go_simp; done) | (go_simp; rfl)); (case hp => exact bW.none _ _); intro v5 w5 ho hb nO ji; clear nO; have HO := ae.mk ho; have HB := ae.mk hb; have HF := ae.mk (Kd.rM (Kd.KD (v := v5) HR.out (fun k hk => by obtain ⟨b, h1, h2⟩ := ji; rw [h1] at hk; cases hk; exact h2) hb) (fun k hk => hk)); clear ho hb ji; obtain ⟨Ao, co, eo⟩ := Kd.jw HO.out; subst eo) | ((with_reducible refine v_ (b := .append) (xs := #[.tmp 5, .tmp 6]) rfl ?_); at_builtin; refine Kd.CG k26 (w0 := w) w.heap.size rfl (.tmp 5) (.tmp 6) 24 26 (.agg #[(.int .u8 0), (.int .i64 0), (.int .i64 0), (.int .i64 0), (.int .i64 0), (.int .i64 0), (.slice none 0 0)]) 72 rfl Try.underlying24 info26 rfl (by decide) (by omega) (.slice Ao ([] : List ai).length co) [] l0 _ _ _ (fun k_ => (Sm k_ ∨ w.heap.size ≤ k_)) (fun k_ => Sm k_ ∧ some k_ ≠ (Value.slice Ao ([] : List ai).length co).ownBlock) rfl rfl ?aO ?aR (fun _ h => ⟨.inl h.1, h.2⟩) (fun k hk => .inr (Nat.le_trans (dR HB.out) hk)) ?aB ?aS ?aL ?_; (case aO => exact HO.out); (case aR => exact HF.out); (case aB => exact HB.out); (case aS => exact dR HB.out); (case aL => (have := HL.out; simp only [List.length_nil]; omega)); intro v7 w7 h1 h2 h3_ h4_; clear h3_ h4_; have HO7 := ae.mk h1; have HB7 := ae.mk h2; clear h1 h2 HO HB HF))
   go_wp2
   go_ret
   exact ⟨_, rfl, HO7.out, HB7.out⟩
 ·exact absurd h (by simp)
def zI (a : Int) (k : ai) (x : Int) : Int := if a = 2 then wrap64 (x + wrap64 (k.f1.f2 + 1)) else x
def zJ (a : Int) (k : ai) (y : Int) : Int := if a = 2 then y else if a = 3 then wrap64 (y + wrap64 (k.f1.f3 + 1)) else y
mutual
def dA : ai → Int → Int → ai
 | ⟨a, b, d, l⟩, x, y => ⟨a, ⟨x, y, b.f2, b.f3⟩, d, jo a l x y⟩
def jo : Int → List ai → Int → Int → List ai
 | _, [], _, _ => []
 | a, k :: ks, x, y => dA k x y :: jo a ks (zI a k x) (zJ a k y)
end
theorem lD (c : ai) (x y : Int) : dA c x y = ⟨c.f0, ⟨x, y, c.f1.f2, c.f1.f3⟩, c.f2, jo c.f0 c.f3 x y⟩ := by cases c; simp [dA]
theorem lW (a x y : Int) : jo a [] x y = [] := by simp [jo]
theorem nC (a : Int) (k : ai) (ks : List ai) (x y : Int) : jo a (k :: ks) x y = dA k x y :: jo a ks (zI a k x) (zJ a k y) := by simp [jo]
def qH (a : Int) (l : List ai) (x : Int) : Int := l.foldl (fun x k => zI a k x) x
def qJ (a : Int) (l : List ai) (y : Int) : Int := l.foldl (fun y k => zJ a k y) y
theorem UX (a : Int) (k : ai) : ∀ (l : List ai) (x y : Int), jo a (l ++ [k]) x y = jo a l x y ++ [dA k (qH a l x) (qJ a l y)] := by
 intro l
 induction l with
 | nil => intro x y; rw [List.nil_append, nC, lW, lW]; rfl
 | cons z zs ih => intro x y; rw [List.cons_append, nC, nC, ih]; rfl
theorem Ci (a : Int) (k : ai) (l : List ai) (x : Int) : qH a (l ++ [k]) x = zI a k (qH a l x) := by simp [qH]
theorem Cj (a : Int) (k : ai) (l : List ai) (y : Int) : qJ a (l ++ [k]) y = zJ a k (qJ a l y) := by simp [qJ]
theorem sO (a : Int) : ∀ (l : List ai) (x y : Int), (jo a l x y).length = l.length := by
 intro l
 induction l with
 | nil => intro x y; rw [lW]
 | cons z zs ih => intro x y; rw [nC]; simp [ih]
theorem aaN (a : Int) (pre : List ai) (k : ai) (rest : List ai) (x y : Int) : (jo a pre x y ++ k :: rest).set pre.length (dA k (qH a pre x) (qJ a pre y)) = jo a (pre ++ [k]) x y ++ rest := by
 rw [UX, ← sO a pre x y, List.set_append_right _ _ (Nat.le_refl _), Nat.sub_self, List.set_cons_zero]
 simp
theorem UZ (a : Int) (pre : List ai) (k : ai) (rest : List ai) (x y : Int) : aA (jo a pre x y ++ k :: rest) (pre.length : Int) = k := by
 rw [← sO a pre x y]
 simp [aA, List.getD_eq_getElem?_getD]
def mP.T6 : Bool × List (List Nat × List Nat) := (true, [([], []), ([0], [0]), ([], []), ([], []), ([], []), ([], []), ([3, 4, 5], [3, 4, 5]), ([1, 2, 0, 1, 2, 3, 4, 5, 6], [1, 2]), ([7, 6, 6, 0, 1, 2, 3, 4, 5, 6], [6, 7])])
def mP.B6 : List Nat := [0, 1, 0, 0, 0, 0, 56, 127, 255]
theorem mP.tab6 : g_ .any (opsOf Try.f66 6) = mP.T6 := by kernel_rfl
theorem mP.Gz : iO mP.T6.2 mP.B6 = true := by kernel_rfl
theorem afK : ∀ (N : Nat) (c : ai), sz c ≤ N → N ≤ 1000000 → ∀ (P : Nat → Prop) (A : Option Addr) (cc : Nat) (x y : Int) (w : World), Kd.V k26 26 w w.heap.size P (.slice A c.f3.length cc) c.f3 →
  Calls Try.prog 66 #[.agg #[.int .u8 c.f0, .int .i64 c.f1.f0, .int .i64 c.f1.f1, .int .i64 c.f1.f2, .int .i64 c.f1.f3, .int .i64 c.f2, .slice A c.f3.length cc], .int .i64 x, .int .i64 y] w
   fun e w' => ∃ v : Value, e = .returned (.agg #[.int .u8 c.f0, .int .i64 x, .int .i64 y, .int .i64 c.f1.f2, .int .i64 c.f1.f3, .int .i64 c.f2, v]) ∧ Kd.N k26 26 w' w.heap.size (fun k => P k ∨ w.heap.size ≤ k) v (jo c.f0 c.f3 x y) ∧ Below w.heap.size w w' := by
 intro N
 induction N with
 | zero => intro c h; rw [cO] at h; omega
 | succ N ih =>
  intro c hc hN P A cc x y w hs
  have hsz := cO c
  have hlen := ik c.f3
  have IH := ae.mk fun (k : ai) (hk : k ∈ c.f3) => ih k (by
   have : sz k ≤ dI c.f3 := by
    obtain ⟨p, q, e⟩ := List.append_of_mem hk
    rw [e, nG, bY]; omega
   omega) (by omega)
  have KE := ae.mk fun (W : World) (P' : Nat → Prop) (hV : Kd.V k26 26 W w.heap.size P' (.slice A c.f3.length cc) c.f3) => pW.calls P' A cc c.f3 c.f3 W hV (if_pos (by omega))
  have HO := ae.mk hs
  have HL := ae.mk (show c.f3.length ≤ 1000000 by omega)
  have HB := ae.mk (Below.refl w.heap.size w)
  clear ih hs hc hN hsz hlen
  obtain ⟨ck, ⟨cx, cy, cw, ch⟩, aU, l⟩ := c
  simp only [] at HO HL IH KE ⊢
  go_enter Try.func66, Try.ntmps66
  go_upto_region 2 with (first | ((with_reducible refine aG (N := 3) rfl ?_); refine aT ?hg (N := 3) ?hd (cs := #[.int .u8 ck, .int .i64 cx, .int .i64 cy, .int .i64 cw, .int .i64 ch, .int .i64 aU, .slice A l.length cc]) (t := 26) ?hr ?_; (case hd => rfl); (case hg => rfl); (case hr => (go_simp; done)); intro b3 hg Vd hbox hb; have RH := ae.mk (show w.heap.size ≤ b3 by rw [hg]; exact HB.out.size); have kX := ae.mk (ak HB.out hb); have sH := ae.mk (Kd.ja (Kd.nK HO.out b3 (by rw [hg]; exact Nat.le_refl _)) hb); clear HB HO; have HB := kX; have HO := sH; clear kX sH; have cZ := ae.mk hbox; clear hb hbox hg) | ((with_reducible refine aG (N := 6) rfl ?_); refine aT ?hg (N := 6) ?hd (cs := #[.int .u8 0, .int .i64 0, .int .i64 0, .int .i64 0, .int .i64 0, .int .i64 0, .slice none 0 0]) (t := 26) ?hr ?_; (case hd => rfl); (case hg => rfl); (case hr => (go_simp; done)); intro b6 hg wb6 hbox hb; have Gb6 := ae.mk (show w.heap.size ≤ b6 by rw [hg]; exact HB.out.size); have uO := ae.mk (show b3 ≠ b6 by rw [hg]; exact Nat.ne_of_lt (fA cZ.out)); have kX := ae.mk (ak HB.out hb); have sH := ae.mk (Kd.ja (Kd.nK HO.out b6 (by rw [hg]; exact Nat.le_refl _)) hb); have gY := ae.mk (aJ cZ.out hb); clear HB HO cZ; have HB := kX; have HO := sH; have cZ := gY; clear kX sH gY; have fJ := ae.mk hbox; clear hb hbox hg) | ((with_reducible refine lH (.store 3 (.tmp 12) (.tmp 9)) rfl ?_); go_loud (refine fQ (w0 := w) rfl rfl 3 (.tmp 12) (.tmp 9) rfl (g := b3) (j := 1) (base := w.heap.size) #[.int .u8 ck, .int .i64 x, .int .i64 cy, .int .i64 cw, .int .i64 ch, .int .i64 aU, .slice A l.length cc] (u := .int .i64 x) (bK := [.int .i64 x]) ?sA ?sX rfl ?sT ?s1 cZ.out ?sJ rfl HB.out HB.out.size RH.out ?_; (case sA => rfl); (case sX => rfl); (case sT => rfl); (case s1 => (simp [Value.oneCell'])); (case sJ => (simp)); intro ws1 hbk hbb hgg; have sH := ae.mk (Kd.wS HO.out hgg (fun k_ hk e_ => absurd (Option.some.inj e_) hk.1.2)); have gZ := ae.mk (df fJ.out hgg (fun e_ => absurd (Option.some.inj e_) (by exact (fun MP => uO.out MP.symm)))); clear HO fJ; have HO := sH; have fJ := gZ; clear sH gZ; clear cZ HB; have cZ := ae.mk hbk; have HB := ae.mk hbb; clear hbk hbb hgg)) | ((with_reducible refine lH (.store 3 (.tmp 14) (.tmp 10)) rfl ?_); go_loud (refine fQ (w0 := w) rfl rfl 3 (.tmp 14) (.tmp 10) rfl (g := b3) (j := 2) (base := w.heap.size) #[.int .u8 ck, .int .i64 x, .int .i64 y, .int .i64 cw, .int .i64 ch, .int .i64 aU, .slice A l.length cc] (u := .int .i64 y) (bK := [.int .i64 y]) ?sA ?sX rfl ?sT ?s1 cZ.out ?sJ rfl HB.out HB.out.size RH.out ?_; (case sA => rfl); (case sX => rfl); (case sT => rfl); (case s1 => (simp [Value.oneCell'])); (case sJ => (simp)); intro ws2 hbk hbb hgg; have sH := ae.mk (Kd.wS HO.out hgg (fun k_ hk e_ => absurd (Option.some.inj e_) hk.1.2)); have gZ := ae.mk (df fJ.out hgg (fun e_ => absurd (Option.some.inj e_) (by exact (fun MP => uO.out MP.symm)))); clear HO fJ; have HO := sH; have fJ := gZ; clear sH gZ; clear cZ HB; have cZ := ae.mk hbk; have HB := ae.mk hbb; clear hbk hbb hgg)))
  have GK : _ = some (Value.slice A l.length cc) := (af cZ.out 6).trans rfl
  go_upto_region 3 with (first | ((with_reducible refine kM (f := 137) rfl ?_); refine mM (some 17) rfl rfl Try.func137 (by kernel_rfl) rfl #[.slice A l.length cc] rfl (by (try simp only [List.map_toArray, List.map_cons, List.map_nil]); rfl) ?_; refine (KE.out _ _ HO.out).mono ?_; rintro e wc1 ⟨v1, rfl, ho, hb⟩; refine ⟨_, rfl, ?_⟩; have HN := ae.mk (Le ho (fA cZ.out) (fA fJ.out) HB.out.size); clear ho HO; obtain ⟨A1, c1, e1⟩ := Kd.jw HN.out; subst e1; have kX := ae.mk (ak HB.out hb); have gY := ae.mk (aJ cZ.out hb); have gZ := ae.mk (aJ fJ.out hb); clear HB cZ fJ; have HB := kX; have cZ := gY; have fJ := gZ; clear kX gY gZ; clear hb) | ((with_reducible refine lH (.store 24 (.tmp 18) (.tmp 17)) rfl ?_); go_loud (refine fQ (w0 := w) rfl rfl 24 (.tmp 18) (.tmp 17) rfl (g := b3) (j := 6) (base := w.heap.size) #[.int .u8 ck, .int .i64 x, .int .i64 y, .int .i64 cw, .int .i64 ch, .int .i64 aU, .slice A1 l.length c1] (u := .slice A1 l.length c1) (bK := [.slice A1 l.length c1]) ?sA ?sX rfl ?sT ?s1 cZ.out ?sJ rfl HB.out HB.out.size RH.out ?_; (case sA => rfl); (case sX => rfl); (case sT => rfl); (case s1 => (simp [Value.oneCell'])); (case sJ => (simp)); intro ws3 hbk hbb hgg; have gZ := ae.mk (df fJ.out hgg (fun e_ => absurd (Option.some.inj e_) (by exact (fun MP => uO.out MP.symm)))); have kY := ae.mk (Kd.uX HN.out hgg (fun k_ hk e_ => absurd (Option.some.inj e_) hk.1.2)); clear fJ HN; have fJ := gZ; have HN := kY; clear gZ kY; clear cZ HB; have cZ := ae.mk hbk; have HB := ae.mk hbb; clear hbk hbb hgg)))
  clear GK
  have GK : _ = some (Value.slice A1 l.length c1) := (af cZ.out 6).trans rfl
  go_wp2
  clear GK
  go_loopg [1, 2, 22] l.length (fun gg v1 v2 v22 wr => ∃ (pre rest : List ai), v1 = .int .i64 (qH ck pre x) ∧ v2 = .int .i64 (qJ ck pre y) ∧ v22 = .int .i64 (pre.length : Int) ∧ ae (pre ++ rest = l) ∧ rest.length ≤ gg ∧ ae (Kd.N k26 26 wr w.heap.size (fun q => ((P q ∨ w.heap.size ≤ q) ∧ q ≠ b3) ∧ q ≠ b6) (.slice A1 l.length c1) (jo ck pre x y ++ rest)) ∧ ae (wr.heap[b3]? = some (.cells #[.int .u8 ck, .int .i64 x, .int .i64 y, .int .i64 cw, .int .i64 ch, .int .i64 aU, .slice A1 l.length c1] 26 (0, 0))) ∧ ae (wr.heap[b6]? = some (.cells #[.int .u8 0, .int .i64 0, .int .i64 0, .int .i64 0, .int .i64 0, .int .i64 0, .slice none 0 0] 26 (0, 0))) ∧ ae (Below w.heap.size w wr))
  case atStart => exact ⟨[], l, rfl, rfl, rfl, ⟨rfl⟩, Nat.le_refl _, ⟨by rw [lW]; exact HN.out⟩, cZ, fJ, HB⟩
  case round =>
   clear HN cZ fJ HB
   obtain ⟨pre, rest, rfl, rfl, rfl, HE, hgg, HN, cZ, fJ, HB⟩ := hrel
   cases rest with
   | nil =>
    have hpl : pre = l := by have := HE.out; rwa [List.append_nil] at this
    have hlt : ¬ ((pre.length : Int) < (l.length : Int)) := by rw [hpl]; omega
    have HP := ae.mk hpl
    clear hpl hgg
    have c30 := (af cZ.out 0).trans rfl
    have c31 := (af cZ.out 1).trans rfl
    have c32 := (af cZ.out 2).trans rfl
    have c33 := (af cZ.out 3).trans rfl
    have c34 := (af cZ.out 4).trans rfl
    have c35 := (af cZ.out 5).trans rfl
    have GK := (af cZ.out 6).trans rfl
    go_wp2_with (((with_reducible refine lH (.store 26 (.tmp 6) (.tmp 54)) rfl ?_); go_loud (refine fQ (w0 := w) rfl rfl 26 (.tmp 6) (.tmp 54) rfl (g := b6) (j := 0) (base := w.heap.size) #[.int .u8 ck, .int .i64 x, .int .i64 y, .int .i64 cw, .int .i64 ch, .int .i64 aU, .slice A1 l.length c1] (u := .agg #[.int .u8 ck, .int .i64 x, .int .i64 y, .int .i64 cw, .int .i64 ch, .int .i64 aU, .slice A1 l.length c1]) (bK := [.int .u8 ck, .int .i64 x, .int .i64 y, .int .i64 cw, .int .i64 ch, .int .i64 aU, .slice A1 l.length c1]) ?sA ?sX rfl ?sT ?s1 fJ.out ?sJ rfl HB.out HB.out.size Gb6.out ?_; (case sA => rfl); (case sX => rfl); (case sT => rfl); (case s1 => (simp [Value.oneCell'])); (case sJ => (simp)); intro aho hbk hbb hgg; have kY := ae.mk (Kd.uX HN.out hgg (fun k_ hk e_ => absurd (Option.some.inj e_) hk.2)); have gY := ae.mk (df cZ.out hgg (fun e_ => absurd (Option.some.inj e_) uO.out)); clear HN cZ; have HN := kY; have cZ := gY; clear kY gY; clear fJ HB; have fJ := ae.mk hbk; have HB := ae.mk hbb; clear hbk hbb hgg)))
    refine bodyPost_ret (results_cell_row rfl _ _ b6 26 _ (0, 0) _ rfl fJ.out Try.underlying26 rfl (by kernel_rfl)) rfl ?_
    refine ⟨_, rfl, ?_, HB.out⟩
    rw [← HP.out]
    have hf := HN.out
    rw [List.append_nil] at hf
    rw [HP.out] at hf ⊢
    exact Kd.iH hf (fun q hq => hq.1.1)
   | cons k rest =>
    have hk : k ∈ l := by rw [← HE.out]; simp
    have hlt : (pre.length : Int) < (l.length : Int) := by rw [← HE.out, List.length_append, List.length_cons]; omega
    have hw : wrap64 ((pre.length : Int) + 1) = ((pre ++ [k]).length : Int) := by rw [List.length_append, List.length_singleton]; unfold wrap64; have := HL.out; omega
    obtain ⟨g, cap, he, hgb, Wq, _⟩ := Kd.xJ HN.out (by rw [List.length_append, List.length_cons]; omega)
    injection he with ea en ec
    subst ea
    subst ec
    clear en
    have vJ := ae.mk hgb
    obtain ⟨ce, hcl, hM, hcc, hfr⟩ := Kd.xI HN.out z26 (pre.length : Int) (Int.natCast_nonneg _) hlt
    have hrd : (jo ck pre x y ++ k :: rest).getD (pre.length : Int).toNat z26 = k := UZ ck pre k rest x y
    rw [hrd] at hM
    obtain ⟨ua, uc, rfl, ul, ge⟩ := ni hM
    have HV := ae.mk (show Kd.V k26 26 wr w.heap.size _ (.slice ua k.f3.length uc) k.f3 from Kd.wU ul ge)
    have x0 : wr.cell? ⟨g, pre.length * 7, none⟩ = some (.int .u8 k.f0) := hcc 0 _ rfl
    have x1 : wr.cell? ⟨g, pre.length * 7 + 1, none⟩ = some (.int .i64 k.f1.f0) := hcc 1 _ rfl
    have x2 : wr.cell? ⟨g, pre.length * 7 + 2, none⟩ = some (.int .i64 k.f1.f1) := hcc 2 _ rfl
    have x3 : wr.cell? ⟨g, pre.length * 7 + 3, none⟩ = some (.int .i64 k.f1.f2) := hcc 3 _ rfl
    have x4 : wr.cell? ⟨g, pre.length * 7 + 4, none⟩ = some (.int .i64 k.f1.f3) := hcc 4 _ rfl
    have x5 : wr.cell? ⟨g, pre.length * 7 + 5, none⟩ = some (.int .i64 k.f2) := hcc 5 _ rfl
    have x6 : wr.cell? ⟨g, pre.length * 7 + 6, none⟩ = some (.slice ua k.f3.length uc) := hcc 6 _ rfl
    have HW1 := ae.mk hw
    have HK := ae.mk hk
    have fF := ae.mk hgg
    clear hcl hM hcc hfr hrd ul ge hgb Wq hw hk hgg
    go_upto_region 6 with (first | ((with_reducible refine aG (N := 8) rfl ?_); refine aT ?hg (N := 8) ?hd (cs := #[.int .u8 0, .int .i64 0, .int .i64 0, .int .i64 0, .int .i64 0, .int .i64 0, .slice none 0 0]) (t := 26) ?hr ?_; (case hd => rfl); (case hg => rfl); (case hr => (go_simp; done)); intro b8 hg wb8 hbox hb; have Gb8 := ae.mk (show w.heap.size ≤ b8 by rw [hg]; exact HB.out.size); have Fp := ae.mk (show b3 ≠ b8 by rw [hg]; exact Nat.ne_of_lt (fA cZ.out)); have Fq := ae.mk (show b6 ≠ b8 by rw [hg]; exact Nat.ne_of_lt (fA fJ.out)); have kX := ae.mk (ak HB.out hb); have kY := ae.mk (Kd.pO (Kd.BC HN.out b8 (by rw [hg]; exact Nat.le_refl _)) hb); have sK := ae.mk (Kd.ja (Kd.nK HV.out b8 (by rw [hg]; exact Nat.le_refl _)) hb); have gY := ae.mk (aJ cZ.out hb); have gZ := ae.mk (aJ fJ.out hb); clear HB HN HV cZ fJ; have HB := kX; have HN := kY; have HV := sK; have cZ := gY; have fJ := gZ; clear kX kY sK gY gZ; have Kb8 := ae.mk hbox; clear hb hbox hg) | ((with_reducible refine lH (.store 26 (.tmp 8) (.tmp 26)) rfl ?_); go_loud (refine fQ (w0 := w) rfl rfl 26 (.tmp 8) (.tmp 26) rfl (g := b8) (j := 0) (base := w.heap.size) #[.int .u8 k.f0, .int .i64 k.f1.f0, .int .i64 k.f1.f1, .int .i64 k.f1.f2, .int .i64 k.f1.f3, .int .i64 k.f2, .slice ua k.f3.length uc] (u := .agg #[.int .u8 k.f0, .int .i64 k.f1.f0, .int .i64 k.f1.f1, .int .i64 k.f1.f2, .int .i64 k.f1.f3, .int .i64 k.f2, .slice ua k.f3.length uc]) (bK := [.int .u8 k.f0, .int .i64 k.f1.f0, .int .i64 k.f1.f1, .int .i64 k.f1.f2, .int .i64 k.f1.f3, .int .i64 k.f2, .slice ua k.f3.length uc]) ?sA ?sX rfl ?sT ?s1 Kb8.out ?sJ rfl HB.out HB.out.size Gb8.out ?_; (case sA => rfl); (case sX => rfl); (case sT => rfl); (case s1 => (simp [Value.oneCell'])); (case sJ => (simp)); intro Xv hbk hbb hgg; have kY := ae.mk (Kd.uX HN.out hgg (fun k_ hk e_ => absurd (Option.some.inj e_) hk.2)); have sK := ae.mk (Kd.wS HV.out hgg (fun k_ hk e_ => absurd (Option.some.inj e_) hk.2)); have gY := ae.mk (df cZ.out hgg (fun e_ => absurd (Option.some.inj e_) Fp.out)); have gZ := ae.mk (df fJ.out hgg (fun e_ => absurd (Option.some.inj e_) Fq.out)); clear HN HV cZ fJ; have HN := kY; have HV := sK; have cZ := gY; have fJ := gZ; clear kY sK gY gZ; clear Kb8 HB; have Kb8 := ae.mk hbk; have HB := ae.mk hbb; clear hbk hbb hgg)))
    clear x0 x1 x2 x3 x4 x5 x6
    have q_ := ae.mk (um HB.out)
    clear HB
    have HB := q_
    clear q_
    have q_ := ae.mk (Kd.Si HN.out)
    clear HN
    have HN := q_
    clear q_
    have q_ := ae.mk (Kd.Lr HV.out)
    clear HV
    have HV := q_
    clear q_
    have q_ := ae.mk (uP cZ.out)
    clear cZ
    have cZ := q_
    clear q_
    have q_ := ae.mk (uP fJ.out)
    clear fJ
    have fJ := q_
    clear q_
    have q_ := ae.mk (uP Kb8.out)
    clear Kb8
    have Kb8 := q_
    clear q_
    refine iU (n := 9) (S := fun w' => w'.heap[b3]? = some (.cells #[.int .u8 ck, .int .i64 x, .int .i64 y, .int .i64 cw, .int .i64 ch, .int .i64 aU, .slice (some ⟨g, 0, none⟩) l.length c1] 26 (0, 0)) ∧ w'.heap[b8]? = some (.cells #[.int .u8 k.f0, .int .i64 k.f1.f0, .int .i64 k.f1.f1, .int .i64 k.f1.f2, .int .i64 k.f1.f3, .int .i64 k.f2, .slice ua k.f3.length uc] 26 (0, 0))) (ds := [8]) #[false, false, false, false, false, false, false, false, false] (by kernel_rfl) rfl rfl ⟨cZ.out, Kb8.out⟩ (fun hHeld => ?_); refine eU mP.tab6 mP.Gz (fun aj dY => ?_)
    generalize Xv.drew = wd at HB HN HV cZ fJ Kb8 hHeld ⊢
    refine rF (i := 0) (N := some 27) (v := ?_) (a' := ?_) #[true, false, false, false, false, false, false, false, false] rfl rfl (oL aj.out (by kernel_rfl)) (fun _ _ _ h => h) (Or.inl ⟨by rfl, ?_⟩) ?_ ?_
    rotate_left
    ·intro w'; go_simp; with_reducible rfl
    rotate_left
    ·simp only [Act.put, List.setIfInBounds_toArray, List.set_cons_zero, List.set_cons_succ, jM, jL]
     rfl
    refine rF (i := 2) (N := some 29) (v := ?_) (a' := ?_) #[true, false, true, false, false, false, false, false, false] rfl rfl (oL aj.out (by kernel_rfl)) (fun _ _ _ h => h) (Or.inl ⟨by rfl, ?_⟩) ?_ ?_
    rotate_left
    ·intro w'; go_simp; with_reducible rfl
    rotate_left
    ·simp only [Act.put, List.setIfInBounds_toArray, List.set_cons_zero, List.set_cons_succ, jM, jL]
     rfl
    refine rF (i := 4) (N := some 31) (v := ?_) (a' := ?_) #[true, false, true, false, true, false, false, false, false] rfl rfl (oL aj.out (by kernel_rfl)) (fun _ _ _ h => h) (Or.inl ⟨by rfl, ?_⟩) ?_ ?_
    rotate_left
    ·intro w'; go_simp; with_reducible rfl
    rotate_left
    ·simp only [Act.put, List.setIfInBounds_toArray, List.set_cons_zero, List.set_cons_succ, jM, jL]
     rfl
    refine rF (i := 5) (N := some 32) (v := ?_) (a' := ?_) #[true, false, true, false, true, true, false, false, false] rfl rfl (oL aj.out (by kernel_rfl)) (fun _ _ _ h => h) (Or.inl ⟨by rfl, ?_⟩) ?_ ?_
    rotate_left
    ·intro w'; go_simp; with_reducible rfl
    rotate_left
    ·simp only [Act.put, List.setIfInBounds_toArray, List.set_cons_zero, List.set_cons_succ, jM, jL]
     rfl
    refine yS (i := 1) (N := some 28) (v := ?_) (a' := ?_) #[true, true, true, false, true, true, false, false, false] rfl rfl (uS aj.out dY.out (by kernel_rfl)) (fun _ _ _ h => h) (Or.inl ⟨by rfl, ?_⟩) hHeld ?_ ?_
    rotate_left
    ·intro w' hs_
     have c := (af hs_.1 6).trans rfl
     go_simp; with_reducible rfl
    rotate_left
    ·simp only [Act.put, List.setIfInBounds_toArray, List.set_cons_zero, List.set_cons_succ, jM, jL]
     rfl
    refine yS (i := 3) (N := some 30) (v := ?_) (a' := ?_) #[true, true, true, true, true, true, false, false, false] rfl rfl (uS aj.out dY.out (by kernel_rfl)) (fun _ _ _ h => h) (Or.inl ⟨by rfl, ?_⟩) hHeld ?_ ?_
    rotate_left
    ·intro w' hs_
     have c0 := (af hs_.2 0).trans rfl
     have c1 := (af hs_.2 1).trans rfl
     have c2 := (af hs_.2 2).trans rfl
     have c3 := (af hs_.2 3).trans rfl
     have c4 := (af hs_.2 4).trans rfl
     have c5 := (af hs_.2 5).trans rfl
     have c6 := (af hs_.2 6).trans rfl
     go_simp; with_reducible rfl
    rotate_left
    ·simp only [Act.put, List.setIfInBounds_toArray, List.set_cons_zero, List.set_cons_succ, jM, jL]
     rfl
    refine NV (i := 6) (N := some 33) #[true, true, true, true, true, true, true, false, false] rfl rfl (xO aj.out (by kernel_rfl)) (by decide) (fun K hK => ?_)
    refine jD Try.func66 (by kernel_rfl) rfl #[.agg #[.int .u8 k.f0, .int .i64 k.f1.f0, .int .i64 k.f1.f1, .int .i64 k.f1.f2, .int .i64 k.f1.f3, .int .i64 k.f2, .slice ua k.f3.length uc], .int .i64 (qH ck pre x), .int .i64 (qJ ck pre y)] (by rfl) rfl rfl (by (try simp only [List.map_toArray, List.map_cons, List.map_nil]); rfl) ?_
    refine (IH.out k HK.out _ ua uc (qH ck pre x) (qJ ck pre y) wd HV.out).mono ?_
    rintro e wk ⟨v, rfl, ho, hb⟩
    refine ⟨_, rfl, ?_⟩
    have HE3 := ae.mk (fA cZ.out)
    have HE6 := ae.mk (fA fJ.out)
    have HE8 := ae.mk (fA Kb8.out)
    have HEG := ae.mk (Kd.Fv HN.out g rfl)
    have HS := ae.mk HB.out.size
    have kX := ae.mk (ak HB.out hb); have kY := ae.mk (Kd.pO HN.out hb); have sK := ae.mk (Kd.ja HV.out hb); have gY := ae.mk (aJ cZ.out hb); have gZ := ae.mk (aJ fJ.out hb); have Ho := ae.mk (aJ Kb8.out hb); clear HB HN HV cZ fJ Kb8; have HB := kX; have HN := kY; have HV := sK; have cZ := gY; have fJ := gZ; have Kb8 := Ho; clear kX kY sK gY gZ Ho
    clear HV hb
    obtain ⟨Av, cv, ev⟩ := Kd.jw ho
    subst ev
    have qZ := ae.mk ho
    clear ho
    refine hK.out _ _ ⟨cZ.out, Kb8.out⟩ (fun hHeld => ?_)
    clear hK K
    refine l_ (a' := ?_) ?_ ?_
    rotate_left
    ·show Act.put _ (some 33) _ = _
     simp only [Act.put, List.setIfInBounds_toArray, List.set_cons_zero, List.set_cons_succ, jM, jL]
     rfl
    refine rF (i := 7) (N := some 34) (v := ?_) (a' := ?_) #[true, true, true, true, true, true, true, true, false] rfl rfl (oL aj.out (by kernel_rfl)) (fun _ _ _ h => h) (Or.inl ⟨by rfl, ?_⟩) ?_ ?_
    rotate_left
    ·intro w'; go_simp; with_reducible rfl
    rotate_left
    ·simp only [Act.put, List.setIfInBounds_toArray, List.set_cons_zero, List.set_cons_succ, jM, jL]
     rfl
    obtain ⟨ce, hcl, hM, hcc, hfr⟩ := Kd.xI HN.out z26 (pre.length : Int) (Int.natCast_nonneg _) hlt
    have hrd : (jo ck pre x y ++ k :: rest).getD (pre.length : Int).toNat z26 = k := UZ ck pre k rest x y
    rw [hrd] at hM
    obtain ⟨ub, ud, rfl, _, _⟩ := ni hM
    have x0 : wk.cell? ⟨g, pre.length * 7, none⟩ = some (.int .u8 k.f0) := hcc 0 _ rfl
    have f0 : wk.frozen? ⟨g, pre.length * 7, none⟩ = false := hfr 0
    have x1 : wk.cell? ⟨g, pre.length * 7 + 1, none⟩ = some (.int .i64 k.f1.f0) := hcc 1 _ rfl
    have f1 : wk.frozen? ⟨g, pre.length * 7 + 1, none⟩ = false := hfr 1
    have x2 : wk.cell? ⟨g, pre.length * 7 + 2, none⟩ = some (.int .i64 k.f1.f1) := hcc 2 _ rfl
    have f2 : wk.frozen? ⟨g, pre.length * 7 + 2, none⟩ = false := hfr 2
    have x3 : wk.cell? ⟨g, pre.length * 7 + 3, none⟩ = some (.int .i64 k.f1.f2) := hcc 3 _ rfl
    have f3 : wk.frozen? ⟨g, pre.length * 7 + 3, none⟩ = false := hfr 3
    have x4 : wk.cell? ⟨g, pre.length * 7 + 4, none⟩ = some (.int .i64 k.f1.f3) := hcc 4 _ rfl
    have f4 : wk.frozen? ⟨g, pre.length * 7 + 4, none⟩ = false := hfr 4
    have x5 : wk.cell? ⟨g, pre.length * 7 + 5, none⟩ = some (.int .i64 k.f2) := hcc 5 _ rfl
    have f5 : wk.frozen? ⟨g, pre.length * 7 + 5, none⟩ = false := hfr 5
    have x6 : wk.cell? ⟨g, pre.length * 7 + 6, none⟩ = some (.slice ub k.f3.length ud) := hcc 6 _ rfl
    have f6 : wk.frozen? ⟨g, pre.length * 7 + 6, none⟩ = false := hfr 6
    have jA : ∀ q, (((fun q => ((P q ∨ w.heap.size ≤ q) ∧ q ≠ b3) ∧ q ≠ b6) q ∧ q ≠ g) ∧ q ≠ b8) ∨ wd.heap.size ≤ q → ((fun q => ((P q ∨ w.heap.size ≤ q) ∧ q ≠ b3) ∧ q ≠ b6) q ∧ q ≠ b8) ∧ q ≠ g := fun q hq => hq.elim (fun h => ⟨⟨h.1.1, h.2⟩, h.1.2⟩) (fun hn => ⟨⟨⟨⟨.inr (Nat.le_trans HS.out hn), Nat.ne_of_gt (Nat.lt_of_lt_of_le HE3.out hn)⟩, Nat.ne_of_gt (Nat.lt_of_lt_of_le HE6.out hn)⟩, Nat.ne_of_gt (Nat.lt_of_lt_of_le HE8.out hn)⟩, Nat.ne_of_gt (Nat.lt_of_lt_of_le HEG.out hn)⟩)
    have JB := oC wk _ (dA k (qH ck pre x) (qJ ck pre y)) (A6 := Av) (c6 := cv) (by rw [lD]; exact (Kd.iI qZ.out).2.1) (by rw [lD]; exact Kd.XI qZ.out)
    have hseg := Kd.Qi HN.out (pre.length : Int) (Int.natCast_nonneg _) hlt (bK := [.int .u8 k.f0, .int .i64 (qH ck pre x), .int .i64 (qJ ck pre y), .int .i64 k.f1.f2, .int .i64 k.f1.f3, .int .i64 k.f2, .slice Av (jo k.f0 k.f3 (qH ck pre x) (qJ ck pre y)).length cv]) (j := 0) hcl hcc (show 0 + 7 ≤ 7 from by decide) (x' := dA k (qH ck pre x) (qJ ck pre y)) (by rw [lD] at JB ⊢; exact JB) jA
    rw [show (jo ck pre x y ++ k :: rest).set (pre.length : Int).toNat (dA k (qH ck pre x) (qJ ck pre y)) = jo ck (pre ++ [k]) x y ++ rest from aaN ck pre k rest x y] at hseg
    obtain ⟨w9, DT⟩ : ∃ w9, w9 = wk.setCells g ((pre.length : Int).toNat * 7 + 0) [.int .u8 k.f0, .int .i64 (qH ck pre x), .int .i64 (qJ ck pre y), .int .i64 k.f1.f2, .int .i64 k.f1.f3, .int .i64 k.f2, .slice Av (jo k.f0 k.f3 (qH ck pre x) (qJ ck pre y)).length cv] := ⟨_, rfl⟩
    replace hseg : Kd.N k26 26 w9 w.heap.size (fun q => (fun q => ((P q ∨ w.heap.size ≤ q) ∧ q ≠ b3) ∧ q ≠ b6) q ∧ q ≠ b8) (.slice (some ⟨g, 0, none⟩) l.length c1) (jo ck (pre ++ [k]) x y ++ rest) ∧ wk.grownBy w9 (some g) := by rw [DT]; exact hseg
    have RP := ae.mk (Kd.Sj hseg.1)
    have KF := ae.mk (grown_below HB.out hseg.2 vJ.out HB.out.size)
    have yh := ae.mk (df cZ.out hseg.2 (fun e_ => (HN.out.1 g rfl).1.1.2 (Option.some.inj e_).symm))
    have K_ := ae.mk (df fJ.out hseg.2 (fun e_ => (HN.out.1 g rfl).1.2 (Option.some.inj e_).symm))
    have Fj := ae.mk (df Kb8.out hseg.2 (fun e_ => (HN.out.1 g rfl).2 (Option.some.inj e_).symm))
    clear hseg JB jA hcl hcc hfr hM hrd HN HB cZ fJ Kb8 hHeld qZ
    refine QR (i := 8) (N := none) #[true, true, true, true, true, true, true, true, true] rfl rfl (xO aj.out (by kernel_rfl)) (by decide) (fun K hK => ?_)
    refine Hy (w1 := w9) (by rfl) rfl ?_ ?_
    ·rw [DT]; go_simp; rfl
    refine hK.out _ _ ?_
    clear hK K x0 x1 x2 x3 x4 x5 x6 f0 f1 f2 f3 f4 f5 f6 DT
    refine jJ (gK aj.out (by kernel_rfl)) ?_
    have d0 := (af yh.out 0).trans rfl
    have e0 := (af Fj.out 0).trans rfl
    have d1 := (af yh.out 1).trans rfl
    have e1 := (af Fj.out 1).trans rfl
    have d2 := (af yh.out 2).trans rfl
    have e2 := (af Fj.out 2).trans rfl
    have d3 := (af yh.out 3).trans rfl
    have e3 := (af Fj.out 3).trans rfl
    have d4 := (af yh.out 4).trans rfl
    have e4 := (af Fj.out 4).trans rfl
    have d5 := (af yh.out 5).trans rfl
    have e5 := (af Fj.out 5).trans rfl
    have d6 := (af yh.out 6).trans rfl
    have e6 := (af Fj.out 6).trans rfl
    by_cases k2 : ck = 2
    ·have ahc : (ck == 2) = true := beq_iff_eq.mpr k2
     have K2 := ae.mk k2
     clear k2
     have hw := HW1.out
     go_wp2
     clear d0 d1 d2 d3 d4 d5 d6 e0 e1 e2 e3 e4 e5 e6
     go_roundg rest.length
     case measure => exact Nat.lt_of_lt_of_le (Nat.lt_succ_self _) fF.out
     case rel => exact ⟨pre ++ [k], rest, (by rw [Ci]; unfold zI; rw [if_pos K2.out]), (by rw [Cj]; unfold zJ; rw [if_pos K2.out]), (by rw [hw]), ⟨by rw [List.append_assoc]; exact HE.out⟩, Nat.le_refl _, RP, yh, K_, KF⟩
    ·have ahc : (ck == 2) = false := beq_eq_false_iff_ne.mpr k2
     have K2 := ae.mk k2
     clear k2
     by_cases k3 : ck = 3
     ·have ahd : (ck == 3) = true := beq_iff_eq.mpr k3
      have K3 := ae.mk k3
      clear k3
      have hw := HW1.out
      go_wp2
      clear d0 d1 d2 d3 d4 d5 d6 e0 e1 e2 e3 e4 e5 e6
      go_roundg rest.length
      case measure => exact Nat.lt_of_lt_of_le (Nat.lt_succ_self _) fF.out
      case rel => exact ⟨pre ++ [k], rest, (by rw [Ci]; unfold zI; rw [if_neg K2.out]), (by rw [Cj]; unfold zJ; rw [if_neg K2.out, if_pos K3.out]), (by rw [hw]), ⟨by rw [List.append_assoc]; exact HE.out⟩, Nat.le_refl _, RP, yh, K_, KF⟩
     ·have ahd : (ck == 3) = false := beq_eq_false_iff_ne.mpr k3
      have K3 := ae.mk k3
      clear k3
      have hw := HW1.out
      go_wp2
      clear d0 d1 d2 d3 d4 d5 d6 e0 e1 e2 e3 e4 e5 e6
      go_roundg rest.length
      case measure => exact Nat.lt_of_lt_of_le (Nat.lt_succ_self _) fF.out
      case rel => exact ⟨pre ++ [k], rest, (by rw [Ci]; unfold zI; rw [if_neg K2.out]), (by rw [Cj]; unfold zJ; rw [if_neg K2.out, if_neg K3.out]), (by rw [hw]), ⟨by rw [List.append_assoc]; exact HE.out⟩, Nat.le_refl _, RP, yh, K_, KF⟩
def mP.f (a0 a1 a2 a3 a4 a5 : Int) (l : List ai) (x y : Int) : Option (Int × Int × Int × Int × Int × Int × List ai) := if sz ⟨a0, ⟨a1, a2, a3, a4⟩, a5, l⟩ ≤ 1000000 then some (a0, x, y, a3, a4, a5, jo a0 l x y) else none
section
variable {W : World} {b : Nat} {P : Nat → Prop} {A : Option Addr} {cc : Nat}
abbrev Qk (w : World) (P : Nat → Prop) (z : ai) (e : Ending) (w' : World) : Prop := ∃ A c, e = .returned (.agg #[.int .u8 z.f0, .int .i64 z.f1.f0, .int .i64 z.f1.f1, .int .i64 z.f1.f2, .int .i64 z.f1.f3, .int .i64 z.f2, .slice A z.f3.length c]) ∧ Kd.N k26 26 w' w.heap.size (fun k => P k ∨ w.heap.size ≤ k) (.slice A z.f3.length c) z.f3 ∧ Below w.heap.size w w'
theorem Bc (c : ai) (ax : Int) (hz : sz c ≤ 1048576) (hV : Kd.V k26 26 W b P (.slice A c.f3.length cc) c.f3) :
  Calls Try.prog 86 #[.agg #[.int .u8 c.f0, .int .i64 c.f1.f0, .int .i64 c.f1.f1, .int .i64 c.f1.f2, .int .i64 c.f1.f3, .int .i64 c.f2, .slice A c.f3.length cc], .int .u8 ax] W fun e w' => e = .returned (.int .i64 (az ax c)) ∧ Below W.heap.size W w' := by
 obtain ⟨k, hk⟩ := (V8 c hz ax).rounds
 exact bZ.calls k _ _ _ _ _ _ P A cc c.f3 ax _ W (fK hV) hk
theorem YF (c : ai) (ax : Int) (hV : Kd.V k26 26 W b P (.slice A c.f3.length cc) c.f3) :
  Calls Try.prog 99 #[.agg #[.int .u8 c.f0, .int .i64 c.f1.f0, .int .i64 c.f1.f1, .int .i64 c.f1.f2, .int .i64 c.f1.f3, .int .i64 c.f2, .slice A c.f3.length cc], .int .u8 ax] W fun e w' => e = .returned (.bool (fC ax c.f0)) ∧ Below W.heap.size W w' := by
 have h := Kd.kP hV
 exact qU.calls _ _ _ _ _ _ A cc c.f3 ax _ W h.2.2 h.2.1 (BI c ax)
theorem YL (l : List ai) (hl : l.length ≤ 1000000) (hV : Kd.V k26 26 W b P (.slice A l.length cc) l) :
  Calls Try.prog 137 #[.slice A l.length cc] W fun e w' => ∃ A' c', e = .returned (.slice A' l.length c') ∧ Kd.N k26 26 w' W.heap.size (fun k => P k ∨ W.heap.size ≤ k) (.slice A' l.length c') l ∧ Below W.heap.size W w' :=
 (pW.calls P A cc l l W (fK hV) (if_pos hl)).mono (fun e w' ⟨v, he, hN, hB⟩ => by
  obtain ⟨A', c', rfl⟩ := Kd.jw hN
  exact ⟨A', c', he, hN, hB⟩)
theorem Ku (c : ai) (x y : Int) (hz : sz c ≤ 1000000) (hV : Kd.V k26 26 W b P (.slice A c.f3.length cc) c.f3) :
  Calls Try.prog 66 #[.agg #[.int .u8 c.f0, .int .i64 c.f1.f0, .int .i64 c.f1.f1, .int .i64 c.f1.f2, .int .i64 c.f1.f3, .int .i64 c.f2, .slice A c.f3.length cc], .int .i64 x, .int .i64 y] W (Qk W P (dA c x y)) :=
 (afK 1000000 c hz (Nat.le_refl _) P A cc x y W (fK hV)).mono (fun e w' ⟨v, he, hN, hB⟩ => by
  rw [lD]
  obtain ⟨A', c', rfl⟩ := Kd.jw hN
  exact ⟨A', c', he, hN, hB⟩)
theorem Xo (b : Int) (gs : List Int) (hl : gs.length ≤ 100000) (h0 : -2147483647 ≤ b) (h1 : b ≤ 2147483647) (hC : Kd.C (Kd.int .i64) W A gs.length gs) (hc : gs.length ≤ cc) :
  Calls Try.prog 49 #[.int .i64 b, .slice A gs.length cc] W fun e w' => ∃ A' c', e = .returned (.tuple #[.slice A' (qP b gs).1.length c', .bool (qP b gs).2]) ∧ (Kd.int .i64).R 3 w' W.heap.size (fun _ => True) (.slice A' (qP b gs).1.length c') (qP b gs).1 ∧ Below W.heap.size W w' := by
 obtain ⟨k, hk⟩ := (Ea b gs hl h0 h1).2.rounds
 exact (bF.calls k b A cc gs _ _ W hC hc hk).mono (fun e w' ⟨v, he, hR, hB⟩ => by
  obtain ⟨A', c', rfl⟩ := Kd.gJ hR
  exact ⟨A', c', he, hR, hB⟩)
end
def afM.T6 : Bool × List (List Nat × List Nat) := (true, [([], []), ([0], [0]), ([], []), ([1, 2], [1, 2]), ([3], [3]), ([], []), ([5], [5]), ([], []), ([6, 7], [6, 7]), ([8], [8]), ([4, 9], [4, 9]), ([10], [10])])
def afM.B6 : List Nat := [0, 1, 0, 7, 15, 0, 32, 0, 224, 480, 1023, 2047]
theorem Ic : ∀ (is : List Int) (c x : ai), n_ c is = some x → sz x ≤ sz c := by
 intro is
 induction is with
 | nil => intro c x h; injection h with h; rw [h]; exact Nat.le_refl _
 | cons i is ih =>
  intro c x h
  simp only [n_] at h
  split at h
  ·cases h
  ·rename_i hi
   have h1 := ih _ x h
   have h2 := uI (Hr c.f3 i (by omega) (by omega))
   have h3 := cO c
   omega
theorem A_ (id : Int) : ∀ (N : Nat), (∀ c : ai, sz c ≤ N → ∀ p, fO id c = some p → ∃ z, n_ c p = some z ∧ z.f0 = 1 ∧ z.f2 = id) ∧
  (∀ l : List ai, dI l ≤ N → ∀ (pre : List ai) (p : List Int), oN id pre.length l = some p → ∃ i is z, p = i :: is ∧ 0 ≤ i ∧ i < ((pre ++ l).length : Int) ∧ n_ (aA (pre ++ l) i) is = some z ∧ z.f0 = 1 ∧ z.f2 = id) := by
 intro N
 induction N with
 | zero =>
  refine ⟨fun c h => ?_, fun l h => ?_⟩
  ·rw [cO] at h; omega
  ·cases l with
   | nil => intro pre p hp; rw [sD] at hp; cases hp
   | cons z zs => rw [bY, cO] at h; omega
 | succ N ih =>
  have hC : ∀ c : ai, sz c ≤ N + 1 → ∀ p, fO id c = some p → ∃ z, n_ c p = some z ∧ z.f0 = 1 ∧ z.f2 = id := by
   intro c h p hp
   have hs := cO c
   rw [BM] at hp
   split at hp
   ·rename_i hq
    injection hp with hp
    subst hp
    exact ⟨c, rfl, hq.1, hq.2⟩
   ·obtain ⟨i, is, z, rfl, h0, h1, h2, h3⟩ := ih.2 c.f3 (by omega) [] p hp
    refine ⟨z, ?_, h3⟩
    rw [List.nil_append] at h1 h2
    simp only [n_]
    rw [if_neg (by omega)]
    exact h2
  refine ⟨hC, fun l => ?_⟩
  induction l with
  | nil => intro _ pre p hp; rw [sD] at hp; cases hp
  | cons x xs ihl =>
   intro h pre p hp
   rw [bY] at h
   rw [oO] at hp
   cases hx : fO id x with
   | some q =>
    rw [hx] at hp
    injection hp with hp
    obtain ⟨z, hz, h3⟩ := hC x (by omega) q hx
    refine ⟨(pre.length : Int), q, z, hp.symm, by omega, by rw [List.length_append, List.length_cons]; omega, ?_, h3⟩
    rw [lu]
    exact hz
   | none =>
    rw [hx] at hp
    have e := ihl (by omega) (pre ++ [x]) p (by rw [List.length_append]; exact hp)
    rwa [List.append_assoc] at e
def mZ.T5 : Bool × List (List Nat × List Nat) := (true, [([], []), ([0], [0]), ([], []), ([], []), ([3], [3]), ([1, 2, 0, 1, 2, 3, 4], [1, 2]), ([5, 4, 4, 0, 1, 2, 3, 4], [4, 5])])
def mZ.B5 : List Nat := [0, 1, 0, 0, 8, 31, 63]
theorem mZ.Jb : g_ .any (opsOf Try.f151 5) = mZ.T5 := by kernel_rfl
theorem mZ.Es : iO mZ.T5.2 mZ.B5 = true := by kernel_rfl
theorem FI : ∀ (N : Nat) (c : ai), sz c ≤ N → N ≤ 1000000 → ∀ (P : Nat → Prop) (A : Option Addr) (cc : Nat) (w : World), Kd.V k26 26 w w.heap.size P (.slice A c.f3.length cc) c.f3 →
  Calls Try.prog 151 #[.agg #[.int .u8 c.f0, .int .i64 c.f1.f0, .int .i64 c.f1.f1, .int .i64 c.f1.f2, .int .i64 c.f1.f3, .int .i64 c.f2, .slice A c.f3.length cc]] w
   fun e w' => ∃ v : Value, e = .returned (.agg #[.int .u8 c.f0, .int .i64 c.f1.f0, .int .i64 c.f1.f1, .int .i64 c.f1.f2, .int .i64 c.f1.f3, .int .i64 c.f2, v]) ∧ Kd.N k26 26 w' w.heap.size (fun k => P k ∨ w.heap.size ≤ k) v c.f3 ∧ Below w.heap.size w w' := by
 intro N
 induction N with
 | zero => intro c h; rw [cO] at h; omega
 | succ N ih =>
  intro c hc hN P A cc w hs
  have hsz := cO c
  have hlen := ik c.f3
  have IH := ae.mk fun (k : ai) (hk : k ∈ c.f3) => ih k (by
   have : sz k ≤ dI c.f3 := by
    obtain ⟨p, q, e⟩ := List.append_of_mem hk
    rw [e, nG, bY]; omega
   omega) (by omega)
  have KE := ae.mk fun (W : World) (P' : Nat → Prop) (hV : Kd.V k26 26 W w.heap.size P' (.slice A c.f3.length cc) c.f3) => pW.calls P' A cc c.f3 c.f3 W hV (if_pos (by omega))
  have HO := ae.mk hs
  have HL := ae.mk (show c.f3.length ≤ 1000000 by omega)
  have HB := ae.mk (Below.refl w.heap.size w)
  clear ih hs hc hN hsz hlen
  obtain ⟨ck, ⟨cx, cy, cw, ch⟩, aU, l⟩ := c
  simp only [] at HO HL IH KE ⊢
  go_enter Try.func151, Try.ntmps151
  go_upto_region 1 with (first | ((with_reducible refine aG (N := 1) rfl ?_); refine aT ?hg (N := 1) ?hd (cs := #[.int .u8 ck, .int .i64 cx, .int .i64 cy, .int .i64 cw, .int .i64 ch, .int .i64 aU, .slice A l.length cc]) (t := 26) ?hr ?_; (case hd => rfl); (case hg => rfl); (case hr => (go_simp; done)); intro b3 hg Vd hbox hb; have RH := ae.mk (show w.heap.size ≤ b3 by rw [hg]; exact HB.out.size); have kX := ae.mk (ak HB.out hb); have sH := ae.mk (Kd.ja (Kd.nK HO.out b3 (by rw [hg]; exact Nat.le_refl _)) hb); clear HB HO; have HB := kX; have HO := sH; clear kX sH; have cZ := ae.mk hbox; clear hb hbox hg) | ((with_reducible refine aG (N := 2) rfl ?_); refine aT ?hg (N := 2) ?hd (cs := #[.int .u8 0, .int .i64 0, .int .i64 0, .int .i64 0, .int .i64 0, .int .i64 0, .slice none 0 0]) (t := 26) ?hr ?_; (case hd => rfl); (case hg => rfl); (case hr => (go_simp; done)); intro b6 hg wb6 hbox hb; have Gb6 := ae.mk (show w.heap.size ≤ b6 by rw [hg]; exact HB.out.size); have uO := ae.mk (show b3 ≠ b6 by rw [hg]; exact Nat.ne_of_lt (fA cZ.out)); have kX := ae.mk (ak HB.out hb); have sH := ae.mk (Kd.ja (Kd.nK HO.out b6 (by rw [hg]; exact Nat.le_refl _)) hb); have gY := ae.mk (aJ cZ.out hb); clear HB HO cZ; have HB := kX; have HO := sH; have cZ := gY; clear kX sH gY; have fJ := ae.mk hbox; clear hb hbox hg))
  have GK : _ = some (Value.slice A l.length cc) := (af cZ.out 6).trans rfl
  go_upto_region 2 with (first | ((with_reducible refine kM (f := 137) rfl ?_); refine mM (some 7) rfl rfl Try.func137 (by kernel_rfl) rfl #[.slice A l.length cc] rfl (by (try simp only [List.map_toArray, List.map_cons, List.map_nil]); rfl) ?_; refine (KE.out _ _ HO.out).mono ?_; rintro e wc1 ⟨v1, rfl, ho, hb⟩; refine ⟨_, rfl, ?_⟩; have HN := ae.mk (Le ho (fA cZ.out) (fA fJ.out) HB.out.size); clear ho HO; obtain ⟨A1, c1, e1⟩ := Kd.jw HN.out; subst e1; have kX := ae.mk (ak HB.out hb); have gY := ae.mk (aJ cZ.out hb); have gZ := ae.mk (aJ fJ.out hb); clear HB cZ fJ; have HB := kX; have cZ := gY; have fJ := gZ; clear kX gY gZ; clear hb) | ((with_reducible refine lH (.store 24 (.tmp 8) (.tmp 7)) rfl ?_); go_loud (refine fQ (w0 := w) rfl rfl 24 (.tmp 8) (.tmp 7) rfl (g := b3) (j := 6) (base := w.heap.size) #[.int .u8 ck, .int .i64 cx, .int .i64 cy, .int .i64 cw, .int .i64 ch, .int .i64 aU, .slice A1 l.length c1] (u := .slice A1 l.length c1) (bK := [.slice A1 l.length c1]) ?sA ?sX rfl ?sT ?s1 cZ.out ?sJ rfl HB.out HB.out.size RH.out ?_; (case sA => rfl); (case sX => rfl); (case sT => rfl); (case s1 => (simp [Value.oneCell'])); (case sJ => (simp)); intro ws1 hbk hbb hgg; have gZ := ae.mk (df fJ.out hgg (fun e_ => absurd (Option.some.inj e_) (by exact (fun MP => uO.out MP.symm)))); have kY := ae.mk (Kd.uX HN.out hgg (fun k_ hk e_ => absurd (Option.some.inj e_) hk.1.2)); clear fJ HN; have fJ := gZ; have HN := kY; clear gZ kY; clear cZ HB; have cZ := ae.mk hbk; have HB := ae.mk hbb; clear hbk hbb hgg)))
  clear GK
  have GK : _ = some (Value.slice A1 l.length c1) := (af cZ.out 6).trans rfl
  go_wp2
  clear GK
  go_loopg [12] l.length (fun gg v22 wr => ∃ (pre rest : List ai), v22 = .int .i64 (pre.length : Int) ∧ ae (pre ++ rest = l) ∧ rest.length ≤ gg ∧ ae (Kd.N k26 26 wr w.heap.size (fun q => ((P q ∨ w.heap.size ≤ q) ∧ q ≠ b3) ∧ q ≠ b6) (.slice A1 l.length c1) l) ∧ ae (wr.heap[b3]? = some (.cells #[.int .u8 ck, .int .i64 cx, .int .i64 cy, .int .i64 cw, .int .i64 ch, .int .i64 aU, .slice A1 l.length c1] 26 (0, 0))) ∧ ae (wr.heap[b6]? = some (.cells #[.int .u8 0, .int .i64 0, .int .i64 0, .int .i64 0, .int .i64 0, .int .i64 0, .slice none 0 0] 26 (0, 0))) ∧ ae (Below w.heap.size w wr))
  case atStart => exact ⟨[], l, rfl, ⟨rfl⟩, Nat.le_refl _, HN, cZ, fJ, HB⟩
  case round =>
   clear HN cZ fJ HB
   obtain ⟨pre, rest, rfl, HE, hgg, HN, cZ, fJ, HB⟩ := hrel
   cases rest with
   | nil =>
    have hpl : pre = l := by have := HE.out; rwa [List.append_nil] at this
    have hlt : ¬ ((pre.length : Int) < (l.length : Int)) := by rw [hpl]; omega
    clear hpl hgg
    have c30 := (af cZ.out 0).trans rfl
    have c31 := (af cZ.out 1).trans rfl
    have c32 := (af cZ.out 2).trans rfl
    have c33 := (af cZ.out 3).trans rfl
    have c34 := (af cZ.out 4).trans rfl
    have c35 := (af cZ.out 5).trans rfl
    have GK := (af cZ.out 6).trans rfl
    go_wp2_with (((with_reducible refine lH (.store 26 (.tmp 2) (.tmp 24)) rfl ?_); go_loud (refine fQ (w0 := w) rfl rfl 26 (.tmp 2) (.tmp 24) rfl (g := b6) (j := 0) (base := w.heap.size) #[.int .u8 ck, .int .i64 cx, .int .i64 cy, .int .i64 cw, .int .i64 ch, .int .i64 aU, .slice A1 l.length c1] (u := .agg #[.int .u8 ck, .int .i64 cx, .int .i64 cy, .int .i64 cw, .int .i64 ch, .int .i64 aU, .slice A1 l.length c1]) (bK := [.int .u8 ck, .int .i64 cx, .int .i64 cy, .int .i64 cw, .int .i64 ch, .int .i64 aU, .slice A1 l.length c1]) ?sA ?sX rfl ?sT ?s1 fJ.out ?sJ rfl HB.out HB.out.size Gb6.out ?_; (case sA => rfl); (case sX => rfl); (case sT => rfl); (case s1 => (simp [Value.oneCell'])); (case sJ => (simp)); intro aho hbk hbb hgg; have kY := ae.mk (Kd.uX HN.out hgg (fun k_ hk e_ => absurd (Option.some.inj e_) hk.2)); have gY := ae.mk (df cZ.out hgg (fun e_ => absurd (Option.some.inj e_) uO.out)); clear HN cZ; have HN := kY; have cZ := gY; clear kY gY; clear fJ HB; have fJ := ae.mk hbk; have HB := ae.mk hbb; clear hbk hbb hgg)))
    refine bodyPost_ret (results_cell_row rfl _ _ b6 26 _ (0, 0) _ rfl fJ.out Try.underlying26 rfl (by kernel_rfl)) rfl ?_
    exact ⟨_, rfl, Kd.iH HN.out (fun q hq => hq.1.1), HB.out⟩
   | cons k rest =>
    have hk : k ∈ l := by rw [← HE.out]; simp
    have hlt : (pre.length : Int) < (l.length : Int) := by rw [← HE.out, List.length_append, List.length_cons]; omega
    have hw : wrap64 ((pre.length : Int) + 1) = ((pre ++ [k]).length : Int) := by rw [List.length_append, List.length_singleton]; unfold wrap64; have := HL.out; omega
    obtain ⟨g, cap, he, hgb, Wq, _⟩ := Kd.xJ HN.out (by omega)
    injection he with ea en ec
    subst ea
    subst ec
    clear en
    have vJ := ae.mk hgb
    obtain ⟨ce, hcl, hM, hcc, hfr⟩ := Kd.xI HN.out z26 (pre.length : Int) (Int.natCast_nonneg _) hlt
    have hrd : l.getD (pre.length : Int).toNat z26 = k := by rw [← HE.out, Int.toNat_natCast]; simp [List.getD_eq_getElem?_getD]
    rw [hrd] at hM
    obtain ⟨ua, uc, rfl, ul, ge⟩ := ni hM
    have HV := ae.mk (show Kd.V k26 26 wr w.heap.size _ (.slice ua k.f3.length uc) k.f3 from Kd.wU ul ge)
    have HRD := ae.mk hrd
    have x0 : wr.cell? ⟨g, pre.length * 7, none⟩ = some (.int .u8 k.f0) := hcc 0 _ rfl
    have x1 : wr.cell? ⟨g, pre.length * 7 + 1, none⟩ = some (.int .i64 k.f1.f0) := hcc 1 _ rfl
    have x2 : wr.cell? ⟨g, pre.length * 7 + 2, none⟩ = some (.int .i64 k.f1.f1) := hcc 2 _ rfl
    have x3 : wr.cell? ⟨g, pre.length * 7 + 3, none⟩ = some (.int .i64 k.f1.f2) := hcc 3 _ rfl
    have x4 : wr.cell? ⟨g, pre.length * 7 + 4, none⟩ = some (.int .i64 k.f1.f3) := hcc 4 _ rfl
    have x5 : wr.cell? ⟨g, pre.length * 7 + 5, none⟩ = some (.int .i64 k.f2) := hcc 5 _ rfl
    have x6 : wr.cell? ⟨g, pre.length * 7 + 6, none⟩ = some (.slice ua k.f3.length uc) := hcc 6 _ rfl
    have HW1 := ae.mk hw
    have HK := ae.mk hk
    have fF := ae.mk hgg
    clear hcl hM hcc hfr hrd ul ge hgb Wq hw hk hgg
    go_upto_region 5 with (first | ((with_reducible refine aG (N := 4) rfl ?_); refine aT ?hg (N := 4) ?hd (cs := #[.int .u8 0, .int .i64 0, .int .i64 0, .int .i64 0, .int .i64 0, .int .i64 0, .slice none 0 0]) (t := 26) ?hr ?_; (case hd => rfl); (case hg => rfl); (case hr => (go_simp; done)); intro b8 hg wb8 hbox hb; have Gb8 := ae.mk (show w.heap.size ≤ b8 by rw [hg]; exact HB.out.size); have Fp := ae.mk (show b3 ≠ b8 by rw [hg]; exact Nat.ne_of_lt (fA cZ.out)); have Fq := ae.mk (show b6 ≠ b8 by rw [hg]; exact Nat.ne_of_lt (fA fJ.out)); have kX := ae.mk (ak HB.out hb); have kY := ae.mk (Kd.pO (Kd.BC HN.out b8 (by rw [hg]; exact Nat.le_refl _)) hb); have sK := ae.mk (Kd.ja (Kd.nK HV.out b8 (by rw [hg]; exact Nat.le_refl _)) hb); have gY := ae.mk (aJ cZ.out hb); have gZ := ae.mk (aJ fJ.out hb); clear HB HN HV cZ fJ; have HB := kX; have HN := kY; have HV := sK; have cZ := gY; have fJ := gZ; clear kX kY sK gY gZ; have Kb8 := ae.mk hbox; clear hb hbox hg) | ((with_reducible refine lH (.store 26 (.tmp 4) (.tmp 16)) rfl ?_); go_loud (refine fQ (w0 := w) rfl rfl 26 (.tmp 4) (.tmp 16) rfl (g := b8) (j := 0) (base := w.heap.size) #[.int .u8 k.f0, .int .i64 k.f1.f0, .int .i64 k.f1.f1, .int .i64 k.f1.f2, .int .i64 k.f1.f3, .int .i64 k.f2, .slice ua k.f3.length uc] (u := .agg #[.int .u8 k.f0, .int .i64 k.f1.f0, .int .i64 k.f1.f1, .int .i64 k.f1.f2, .int .i64 k.f1.f3, .int .i64 k.f2, .slice ua k.f3.length uc]) (bK := [.int .u8 k.f0, .int .i64 k.f1.f0, .int .i64 k.f1.f1, .int .i64 k.f1.f2, .int .i64 k.f1.f3, .int .i64 k.f2, .slice ua k.f3.length uc]) ?sA ?sX rfl ?sT ?s1 Kb8.out ?sJ rfl HB.out HB.out.size Gb8.out ?_; (case sA => rfl); (case sX => rfl); (case sT => rfl); (case s1 => (simp [Value.oneCell'])); (case sJ => (simp)); intro Xv hbk hbb hgg; have kY := ae.mk (Kd.uX HN.out hgg (fun k_ hk e_ => absurd (Option.some.inj e_) hk.2)); have sK := ae.mk (Kd.wS HV.out hgg (fun k_ hk e_ => absurd (Option.some.inj e_) hk.2)); have gY := ae.mk (df cZ.out hgg (fun e_ => absurd (Option.some.inj e_) Fp.out)); have gZ := ae.mk (df fJ.out hgg (fun e_ => absurd (Option.some.inj e_) Fq.out)); clear HN HV cZ fJ; have HN := kY; have HV := sK; have cZ := gY; have fJ := gZ; clear kY sK gY gZ; clear Kb8 HB; have Kb8 := ae.mk hbk; have HB := ae.mk hbb; clear hbk hbb hgg)))
    clear x0 x1 x2 x3 x4 x5 x6
    have q_ := ae.mk (um HB.out)
    clear HB
    have HB := q_
    clear q_
    have q_ := ae.mk (Kd.Si HN.out)
    clear HN
    have HN := q_
    clear q_
    have q_ := ae.mk (Kd.Lr HV.out)
    clear HV
    have HV := q_
    clear q_
    have q_ := ae.mk (uP cZ.out)
    clear cZ
    have cZ := q_
    clear q_
    have q_ := ae.mk (uP fJ.out)
    clear fJ
    have fJ := q_
    clear q_
    have q_ := ae.mk (uP Kb8.out)
    clear Kb8
    have Kb8 := q_
    clear q_
    refine iU (n := 7) (S := fun w' => w'.heap[b3]? = some (.cells #[.int .u8 ck, .int .i64 cx, .int .i64 cy, .int .i64 cw, .int .i64 ch, .int .i64 aU, .slice (some ⟨g, 0, none⟩) l.length c1] 26 (0, 0)) ∧ w'.heap[b8]? = some (.cells #[.int .u8 k.f0, .int .i64 k.f1.f0, .int .i64 k.f1.f1, .int .i64 k.f1.f2, .int .i64 k.f1.f3, .int .i64 k.f2, .slice ua k.f3.length uc] 26 (0, 0))) (ds := [6]) #[false, false, false, false, false, false, false] (by kernel_rfl) rfl rfl ⟨cZ.out, Kb8.out⟩ (fun hHeld => ?_); refine eU mZ.Jb mZ.Es (fun aj dY => ?_)
    generalize Xv.drew = wd at HB HN HV cZ fJ Kb8 hHeld ⊢
    refine rF (i := 0) (N := some 17) (v := ?_) (a' := ?_) #[true, false, false, false, false, false, false] rfl rfl (oL aj.out (by kernel_rfl)) (fun _ _ _ h => h) (Or.inl ⟨by rfl, ?_⟩) ?_ ?_
    rotate_left
    ·intro w'; go_simp; with_reducible rfl
    rotate_left
    ·simp only [Act.put, List.setIfInBounds_toArray, List.set_cons_zero, List.set_cons_succ, jM, jL]
     rfl
    refine yS (i := 1) (N := some 18) (v := ?_) (a' := ?_) #[true, true, false, false, false, false, false] rfl rfl (uS aj.out dY.out (by kernel_rfl)) (fun _ _ _ h => h) (Or.inl ⟨by rfl, ?_⟩) hHeld ?_ ?_
    rotate_left
    ·intro w' hs_
     have c := (af hs_.1 6).trans rfl
     go_simp; with_reducible rfl
    rotate_left
    ·simp only [Act.put, List.setIfInBounds_toArray, List.set_cons_zero, List.set_cons_succ, jM, jL]
     rfl
    refine rF (i := 2) (N := some 19) (v := ?_) (a' := ?_) #[true, true, true, false, false, false, false] rfl rfl (oL aj.out (by kernel_rfl)) (fun _ _ _ h => h) (Or.inl ⟨by rfl, ?_⟩) ?_ ?_
    rotate_left
    ·intro w'; go_simp; with_reducible rfl
    rotate_left
    ·simp only [Act.put, List.setIfInBounds_toArray, List.set_cons_zero, List.set_cons_succ, jM, jL]
     rfl
    refine yS (i := 3) (N := some 20) (v := ?_) (a' := ?_) #[true, true, true, true, false, false, false] rfl rfl (uS aj.out dY.out (by kernel_rfl)) (fun _ _ _ h => h) (Or.inl ⟨by rfl, ?_⟩) hHeld ?_ ?_
    rotate_left
    ·intro w' hs_
     have c0 := (af hs_.2 0).trans rfl
     have c1 := (af hs_.2 1).trans rfl
     have c2 := (af hs_.2 2).trans rfl
     have c3 := (af hs_.2 3).trans rfl
     have c4 := (af hs_.2 4).trans rfl
     have c5 := (af hs_.2 5).trans rfl
     have c6 := (af hs_.2 6).trans rfl
     go_simp; with_reducible rfl
    rotate_left
    ·simp only [Act.put, List.setIfInBounds_toArray, List.set_cons_zero, List.set_cons_succ, jM, jL]
     rfl
    refine NV (i := 4) (N := some 21) #[true, true, true, true, true, false, false] rfl rfl (xO aj.out (by kernel_rfl)) (by decide) (fun K hK => ?_)
    refine jD Try.func151 (by kernel_rfl) rfl #[.agg #[.int .u8 k.f0, .int .i64 k.f1.f0, .int .i64 k.f1.f1, .int .i64 k.f1.f2, .int .i64 k.f1.f3, .int .i64 k.f2, .slice ua k.f3.length uc]] (by rfl) rfl rfl (by (try simp only [List.map_toArray, List.map_cons, List.map_nil]); rfl) ?_
    refine (IH.out k HK.out _ ua uc wd HV.out).mono ?_
    rintro e wk ⟨v, rfl, ho, hb⟩
    refine ⟨_, rfl, ?_⟩
    have HE3 := ae.mk (fA cZ.out)
    have HE6 := ae.mk (fA fJ.out)
    have HE8 := ae.mk (fA Kb8.out)
    have HEG := ae.mk (Kd.Fv HN.out g rfl)
    have HS := ae.mk HB.out.size
    have kX := ae.mk (ak HB.out hb); have kY := ae.mk (Kd.pO HN.out hb); have sK := ae.mk (Kd.ja HV.out hb); have gY := ae.mk (aJ cZ.out hb); have gZ := ae.mk (aJ fJ.out hb); have Ho := ae.mk (aJ Kb8.out hb); clear HB HN HV cZ fJ Kb8; have HB := kX; have HN := kY; have HV := sK; have cZ := gY; have fJ := gZ; have Kb8 := Ho; clear kX kY sK gY gZ Ho
    clear HV hb
    obtain ⟨Av, cv, ev⟩ := Kd.jw ho
    subst ev
    have qZ := ae.mk ho
    clear ho
    refine hK.out _ _ ⟨cZ.out, Kb8.out⟩ (fun hHeld => ?_)
    clear hK K
    refine l_ (a' := ?_) ?_ ?_
    rotate_left
    ·show Act.put _ (some 21) _ = _
     simp only [Act.put, List.setIfInBounds_toArray, List.set_cons_zero, List.set_cons_succ, jM, jL]
     rfl
    refine rF (i := 5) (N := some 22) (v := ?_) (a' := ?_) #[true, true, true, true, true, true, false] rfl rfl (oL aj.out (by kernel_rfl)) (fun _ _ _ h => h) (Or.inl ⟨by rfl, ?_⟩) ?_ ?_
    rotate_left
    ·intro w'; go_simp; with_reducible rfl
    rotate_left
    ·simp only [Act.put, List.setIfInBounds_toArray, List.set_cons_zero, List.set_cons_succ, jM, jL]
     rfl
    refine QR (i := 6) (N := none) #[true, true, true, true, true, true, true] rfl rfl (xO aj.out (by kernel_rfl)) (by decide) (fun K hK => ?_)
    obtain ⟨ce, hcl, hM, hcc, hfr⟩ := Kd.xI HN.out z26 (pre.length : Int) (Int.natCast_nonneg _) hlt
    rw [HRD.out] at hM
    obtain ⟨ub, ud, rfl, _, _⟩ := ni hM
    have x0 : wk.cell? ⟨g, pre.length * 7, none⟩ = some (.int .u8 k.f0) := hcc 0 _ rfl
    have f0 : wk.frozen? ⟨g, pre.length * 7, none⟩ = false := hfr 0
    have x1 : wk.cell? ⟨g, pre.length * 7 + 1, none⟩ = some (.int .i64 k.f1.f0) := hcc 1 _ rfl
    have f1 : wk.frozen? ⟨g, pre.length * 7 + 1, none⟩ = false := hfr 1
    have x2 : wk.cell? ⟨g, pre.length * 7 + 2, none⟩ = some (.int .i64 k.f1.f1) := hcc 2 _ rfl
    have f2 : wk.frozen? ⟨g, pre.length * 7 + 2, none⟩ = false := hfr 2
    have x3 : wk.cell? ⟨g, pre.length * 7 + 3, none⟩ = some (.int .i64 k.f1.f2) := hcc 3 _ rfl
    have f3 : wk.frozen? ⟨g, pre.length * 7 + 3, none⟩ = false := hfr 3
    have x4 : wk.cell? ⟨g, pre.length * 7 + 4, none⟩ = some (.int .i64 k.f1.f3) := hcc 4 _ rfl
    have f4 : wk.frozen? ⟨g, pre.length * 7 + 4, none⟩ = false := hfr 4
    have x5 : wk.cell? ⟨g, pre.length * 7 + 5, none⟩ = some (.int .i64 k.f2) := hcc 5 _ rfl
    have f5 : wk.frozen? ⟨g, pre.length * 7 + 5, none⟩ = false := hfr 5
    have x6 : wk.cell? ⟨g, pre.length * 7 + 6, none⟩ = some (.slice ub k.f3.length ud) := hcc 6 _ rfl
    have f6 : wk.frozen? ⟨g, pre.length * 7 + 6, none⟩ = false := hfr 6
    have jA : ∀ q, (((fun q => ((P q ∨ w.heap.size ≤ q) ∧ q ≠ b3) ∧ q ≠ b6) q ∧ q ≠ g) ∧ q ≠ b8) ∨ wd.heap.size ≤ q → ((fun q => ((P q ∨ w.heap.size ≤ q) ∧ q ≠ b3) ∧ q ≠ b6) q ∧ q ≠ b8) ∧ q ≠ g := fun q hq => hq.elim (fun h => ⟨⟨h.1.1, h.2⟩, h.1.2⟩) (fun hn => ⟨⟨⟨⟨.inr (Nat.le_trans HS.out hn), Nat.ne_of_gt (Nat.lt_of_lt_of_le HE3.out hn)⟩, Nat.ne_of_gt (Nat.lt_of_lt_of_le HE6.out hn)⟩, Nat.ne_of_gt (Nat.lt_of_lt_of_le HE8.out hn)⟩, Nat.ne_of_gt (Nat.lt_of_lt_of_le HEG.out hn)⟩)
    have JB := oC wk _ k (A6 := Av) (c6 := cv) (Kd.iI qZ.out).2.1 (Kd.XI qZ.out)
    have hseg := Kd.Qi HN.out (pre.length : Int) (Int.natCast_nonneg _) hlt (bK := [.int .u8 k.f0, .int .i64 k.f1.f0, .int .i64 k.f1.f1, .int .i64 k.f1.f2, .int .i64 k.f1.f3, .int .i64 k.f2, .slice Av k.f3.length cv]) (j := 0) hcl hcc (show 0 + 7 ≤ 7 from by decide) (x' := k) JB jA
    rw [show l.set (pre.length : Int).toNat k = l from by rw [← HE.out, Int.toNat_natCast]; simp] at hseg
    obtain ⟨w9, DT⟩ : ∃ w9, w9 = wk.setCells g ((pre.length : Int).toNat * 7 + 0) [.int .u8 k.f0, .int .i64 k.f1.f0, .int .i64 k.f1.f1, .int .i64 k.f1.f2, .int .i64 k.f1.f3, .int .i64 k.f2, .slice Av k.f3.length cv] := ⟨_, rfl⟩
    replace hseg : Kd.N k26 26 w9 w.heap.size (fun q => (fun q => ((P q ∨ w.heap.size ≤ q) ∧ q ≠ b3) ∧ q ≠ b6) q ∧ q ≠ b8) (.slice (some ⟨g, 0, none⟩) l.length c1) l ∧ wk.grownBy w9 (some g) := by rw [DT]; exact hseg
    have RP := ae.mk (Kd.Sj hseg.1)
    have KF := ae.mk (grown_below HB.out hseg.2 vJ.out HB.out.size)
    have yh := ae.mk (df cZ.out hseg.2 (fun e_ => (HN.out.1 g rfl).1.1.2 (Option.some.inj e_).symm))
    have K_ := ae.mk (df fJ.out hseg.2 (fun e_ => (HN.out.1 g rfl).1.2 (Option.some.inj e_).symm))
    clear hseg JB jA hcl hcc hfr hM HN HB cZ fJ Kb8 hHeld qZ
    refine Hy (w1 := w9) (by rfl) rfl ?_ ?_
    ·rw [DT]; go_simp; rfl
    refine hK.out _ _ ?_
    clear hK K x0 x1 x2 x3 x4 x5 x6 f0 f1 f2 f3 f4 f5 f6 DT
    refine jJ (gK aj.out (by kernel_rfl)) ?_
    have hw := HW1.out
    go_wp2
    go_roundg rest.length
    case measure => exact Nat.lt_of_lt_of_le (Nat.lt_succ_self _) fF.out
    case rel => exact ⟨pre ++ [k], rest, (by rw [hw]), ⟨by rw [List.append_assoc]; exact HE.out⟩, Nat.le_refl _, RP, yh, K_, KF⟩
def mZ.f (a0 a1 a2 a3 a4 a5 : Int) (l : List ai) : Option (Int × Int × Int × Int × Int × Int × List ai) := if sz ⟨a0, ⟨a1, a2, a3, a4⟩, a5, l⟩ ≤ 1000000 then some (a0, a1, a2, a3, a4, a5, l) else none
def AtN (w : World) (P : Nat → Prop) : Option ai → Ending → World → Prop
 | none, e, w' => ∃ A2 c2, e = .returned (.tuple #[.agg #[.int .u8 0, .int .i64 0, .int .i64 0, .int .i64 0, .int .i64 0, .int .i64 0, .slice A2 0 c2], .bool false]) ∧ Kd.N k26 26 w' w.heap.size (fun k => P k ∨ w.heap.size ≤ k) (.slice A2 0 c2) [] ∧ Below w.heap.size w w'
 | some z, e, w' => ∃ A2 c2, e = .returned (.tuple #[.agg #[.int .u8 z.f0, .int .i64 z.f1.f0, .int .i64 z.f1.f1, .int .i64 z.f1.f2, .int .i64 z.f1.f3, .int .i64 z.f2, .slice A2 z.f3.length c2], .bool true]) ∧ Kd.N k26 26 w' w.heap.size (fun k => P k ∨ w.heap.size ≤ k) (.slice A2 z.f3.length c2) z.f3 ∧ Below w.heap.size w w'
theorem agM (c : ai) (path : List Int) (r : Option ai) (hr : n_ c path = r) (hp : path.length ≤ 1048576) (hc : sz c ≤ 1000000) (b : Nat) (P : Nat → Prop) (A : Option Addr) (cc : Nat) (B : Option Addr) (cb : Nat) (w : World) (hv : Kd.V k26 26 w b P (.slice A c.f3.length cc) c.f3) (hi : Kd.C (Kd.int .i64) w B path.length path) :
  Calls Try.prog 91 #[.agg #[.int .u8 c.f0, .int .i64 c.f1.f0, .int .i64 c.f1.f1, .int .i64 c.f1.f2, .int .i64 c.f1.f3, .int .i64 c.f2, .slice A c.f3.length cc], .slice B path.length cb] w (AtN w P r) := by
 have S := ae.mk (St.start (ts := [(.slice A c.f3.length cc, c.f3)]) (b0 := w.heap.size) (w := w) (P := P) (fun t ht => by rw [List.mem_singleton.1 ht]; exact fK hv))
 have HI := ae.mk hi
 have gW := ae.mk hp
 have HZ := ae.mk hc
 have HR := ae.mk hr
 clear hi hp hc hr hv
 go_enter Try.func91, Try.ntmps91
 go_wp2_with (first
  | (refine boxS 2 _ 26 S ?_; clear S; intro b2 dF S)
  | (refine boxS 4 _ 26 S ?_; clear S; intro b4 dV S)
  | fail)
 go_loopg [10] path.length (fun gg v10 wr => ∃ (pre rest : List Int) (z : ai) (Az : Option Addr) (cz : Nat), v10 = .int .i64 (pre.length : Int) ∧ ae (pre ++ rest = path) ∧ ae (n_ z rest = r) ∧ ae (sz z ≤ 1000000) ∧ rest.length ≤ gg ∧ ae (St w P [(some b4, .cells #[.int .u8 0, .int .i64 0, .int .i64 0, .int .i64 0, .int .i64 0, .int .i64 0, .slice none 0 0] 26 (0, 0)), (some b2, .cells #[.int .u8 z.f0, .int .i64 z.f1.f0, .int .i64 z.f1.f1, .int .i64 z.f1.f2, .int .i64 z.f1.f3, .int .i64 z.f2, .slice Az z.f3.length cz] 26 (0, 0))] [] [(.slice Az z.f3.length cz, z.f3)] [] wr))
 case atStart => exact ⟨[], path, c, A, cc, rfl, ⟨rfl⟩, HR, HZ, Nat.le_refl _, S⟩
 case round =>
  clear S HR HZ
  obtain ⟨pre, rest, z, Az, cz, rfl, HE, HR, HZ, hgg, S⟩ := hrel
  cases rest with
  | nil =>
   have hr := HR.out
   simp only [n_] at hr
   subst hr
   clear HR
   have hE := HE.out
   rw [List.append_nil] at hE
   have hE2 := hE.symm
   subst hE2
   clear hE HE hgg
   have hlt : ¬ ((path.length : Int) < (path.length : Int)) := by omega
   obtain ⟨jZ, mQ, mV, mW, mX, l7, eH⟩ := St.ed S bI
   go_wp2_with (first
    | (refine iF (some 31) Try.func151 (FI 1000000 z HZ.out (Nat.le_refl _) _ Az cz _ (S.out.tree _ (.head _))) ?_; rintro e fV ⟨v, rfl, h1, hb⟩; refine ⟨_, rfl, ?_⟩; obtain ⟨Ac, cc', ev⟩ := Kd.jw h1; subst ev; replace S := ae.mk (S.out.yC h1 hb); clear h1 hb; clear jZ mQ mV mW mX l7 eH)
    | (refine gX 26 4 31 #[.int .u8 z.f0, .int .i64 z.f1.f0, .int .i64 z.f1.f1, .int .i64 z.f1.f2, .int .i64 z.f1.f3, .int .i64 z.f2, .slice Ac z.f3.length cc'] 0 7 S ?_; clear S; intro iQ S)
    | fail)
   refine bodyPost_ret (fB rfl _ _ b4 26 _ (0, 0) _ rfl (S.out.blk _ (.head _) _ rfl) Try.underlying26 rfl (by kernel_rfl)) rfl ?_
   exact ⟨_, _, rfl, S.out.yA, S.out.below⟩
  | cons i is =>
   have hlt : (pre.length : Int) < (path.length : Int) := by rw [← HE.out, List.length_append, List.length_cons]; omega
   have adP : pre.length < path.length := by omega
   have hw1 : wrap64 ((pre.length : Int) + 1) = ((pre ++ [i]).length : Int) := by have := gW.out; rw [List.length_append, List.length_singleton]; unfold wrap64; omega
   have HW1 := ae.mk hw1
   have fF := ae.mk hgg
   have OO := ae.mk hlt
   have hrd : rd path (pre.length : Int) = i := by rw [← HE.out]; simp [rd, List.getD_eq_getElem?_getD]
   obtain ⟨XN, ek, xi⟩ := Kd.iR (Kd.gV HI.out S.out.below) (pre.length : Int) (Int.natCast_nonneg _) hlt
   subst ek
   have AQ := ae.mk (fun (W : World) (h : Below w.heap.size w W) => (show W.cell? (XN.add pre.length) = some (.int .i64 i) by have h2 := Kd.iR (Kd.gV HI.out h) (pre.length : Int) (Int.natCast_nonneg _) OO.out; obtain ⟨ad, e1, e2⟩ := h2; injection e1 with e1; subst e1; simp only [Int.toNat_natCast] at e2; rw [e2, hrd]))
   clear hrd xi hgg hw1
   have hr := HR.out
   simp only [n_] at hr
   by_cases h0 : i < 0
   case pos =>
    rw [if_pos (.inl h0)] at hr
    subst hr
    clear HR
    obtain ⟨JA, wO⟩ := mr (a := i) (b := 0) (by omega)
    have xi := AQ.out _ S.out.below
    go_wp2_with (first
     | (refine gX 26 4 23 #[.int .u8 0, .int .i64 0, .int .i64 0, .int .i64 0, .int .i64 0, .int .i64 0, .slice none 0 0] 0 7 S ?_; clear S; intro dF S; clear xi)
     | fail)
    refine bodyPost_ret (fB rfl _ _ b4 26 _ (0, 0) _ rfl (S.out.blk _ (.head _) _ rfl) Try.underlying26 rfl (by kernel_rfl)) rfl ?_
    exact ⟨none, 0, rfl, Kd.yK _ _ _ _ _, S.out.below⟩
   by_cases h1 : i ≥ (z.f3.length : Int)
   case pos =>
    rw [if_pos (.inr h1)] at hr
    subst hr
    clear HR
    obtain ⟨JA, wO⟩ := lG (a := i) (b := 0) (by omega)
    have h1b : decide (i ≥ (z.f3.length : Int)) = true := decide_eq_true h1
    have h1c : decide ((z.f3.length : Int) ≤ i) = true := decide_eq_true h1
    have xi := AQ.out _ S.out.below
    have eH := (S.out.at bI 6).trans rfl
    go_wp2_with (first
     | (refine gX 26 4 23 #[.int .u8 0, .int .i64 0, .int .i64 0, .int .i64 0, .int .i64 0, .int .i64 0, .slice none 0 0] 0 7 S ?_; clear S; intro dF S; clear xi eH)
     | fail)
    refine bodyPost_ret (fB rfl _ _ b4 26 _ (0, 0) _ rfl (S.out.blk _ (.head _) _ rfl) Try.underlying26 rfl (by kernel_rfl)) rfl ?_
    exact ⟨none, 0, rfl, Kd.yK _ _ _ _ _, S.out.below⟩
   rw [if_neg (fun h => h.elim h0 h1)] at hr
   obtain ⟨JA, wO⟩ := lG (a := i) (b := 0) (by omega)
   have h1b : decide (i ≥ (z.f3.length : Int)) = false := decide_eq_false h1
   have h1c : decide ((z.f3.length : Int) ≤ i) = false := decide_eq_false h1
   have hi0 : 0 ≤ i := by omega
   have hi1 : i < (z.f3.length : Int) := by omega
   obtain ⟨jS, ua, uc, ek, S1⟩ := S.out.elem (.head _) i hi0 hi1
   subst ek
   have hkz : sz (aA z.f3 i) ≤ 1000000 := by have h2 := uI (Hr z.f3 i hi0 hi1); have h3 := cO z; have := HZ.out; omega
   obtain ⟨k, hk⟩ : ∃ k, k = aA z.f3 i := ⟨_, rfl⟩
   rw [← hk] at S1 hr hkz
   replace S := ae.mk S1
   replace HR := ae.mk hr
   have kL := ae.mk hkz
   clear S1 hk hr hkz
   obtain ⟨fZ, iw, jf, iV, iW, kD, kE⟩ := St.CJ S
   have xi := AQ.out _ S.out.below
   have eH := (S.out.at bI 6).trans rfl
   go_wp2_with (first
    | (refine Aw 26 2 28 #[.int .u8 k.f0, .int .i64 k.f1.f0, .int .i64 k.f1.f1, .int .i64 k.f1.f2, .int .i64 k.f1.f3, .int .i64 k.f2, .slice ua k.f3.length uc] 0 7 S ?_; clear S; intro dF S; clear fZ iw jf iV iW kD kE xi eH)
    | fail)
   have hw1 := HW1.out
   go_wp2
   go_roundg is.length
   case measure => exact Nat.lt_of_lt_of_le (Nat.lt_succ_self _) fF.out
   case rel => exact ⟨pre ++ [i], is, k, ua, uc, (by rw [hw1]), ⟨by rw [List.append_assoc]; exact HE.out⟩, HR, kL, Nat.le_refl _, ⟨S.out.bg.bg.bg.bg.bg.bg.bg.afG (.head _)⟩⟩
section
variable {W : World} {b : Nat} {P : Nat → Prop} {A : Option Addr} {cc cb : Nat}
theorem Ib (c : ai) (path : List Int) (z : ai) (hz : n_ c path = some z) (hp : path.length ≤ 1048576) (hc : sz c ≤ 1000000) {B : Option Addr} (hV : Kd.V k26 26 W b P (.slice A c.f3.length cc) c.f3) (hi : Kd.C (Kd.int .i64) W B path.length path) (_ : path.length ≤ cb) :
  Calls Try.prog 91 #[.agg #[.int .u8 c.f0, .int .i64 c.f1.f0, .int .i64 c.f1.f1, .int .i64 c.f1.f2, .int .i64 c.f1.f3, .int .i64 c.f2, .slice A c.f3.length cc], .slice B path.length cb] W fun e w' => ∃ A2 c2, e = .returned (.tuple #[.agg #[.int .u8 z.f0, .int .i64 z.f1.f0, .int .i64 z.f1.f1, .int .i64 z.f1.f2, .int .i64 z.f1.f3, .int .i64 z.f2, .slice A2 z.f3.length c2], .bool true]) ∧ Kd.N k26 26 w' W.heap.size (fun k => P k ∨ W.heap.size ≤ k) (.slice A2 z.f3.length c2) z.f3 ∧ Below W.heap.size W w' := agM c path (some z) hz hp hc b P A cc B cb W hV hi
end
section
variable {W : World} {b b' : Nat} {P P' : Nat → Prop} {A A' : Option Addr} {cc cc' : Nat}
theorem Ir (c : ai) (g : Bool) (hg : ∃ k, jr.f k c.f0 c.f1.f0 c.f1.f1 c.f1.f2 c.f1.f3 c.f2 c.f3 = some g) (hV : Kd.V k26 26 W b P (.slice A c.f3.length cc) c.f3) :
  Calls Try.prog 34 #[.agg #[.int .u8 c.f0, .int .i64 c.f1.f0, .int .i64 c.f1.f1, .int .i64 c.f1.f2, .int .i64 c.f1.f3, .int .i64 c.f2, .slice A c.f3.length cc]] W fun e w' => e = .returned (.bool g) ∧ Below W.heap.size W w' := by
 obtain ⟨k, hk⟩ := hg
 have h := Kd.kP hV
 exact jr.calls k _ _ _ _ _ _ A cc c.f3 g W h.2.2 h.2.1 hk
end
section
variable {Pr : Program} {ops : Array Oper} {rest : List Oper} {op : Oper} {a : Act} {Q : Exit → Act → World → Prop} {w W : World} {P : Nat → Prop} {bs : List (Option Nat × Obj)} {ts : List (Value × List ai)} {ro : List (Addr × Value)}
end
theorem HY {l : List ai} {k : ai} (h : k ∈ l) : sz k ≤ dI l := by
 obtain ⟨p, q, e⟩ := List.append_of_mem h
 rw [e, nG, bY]
 omega
theorem D7 {a b : dD} : qG a b = true ↔ a.f0 = b.f0 ∧ a.f1 = b.f1 ∧ a.f2 = b.f2 ∧ a.f3 = b.f3 := by
 unfold qG
 simp
theorem Oy (ax X Y W H : Int) (hax : ax = 1 ∨ ax = 2) : ∀ (kids : List ai) (ns : List Int) (off : Int), kids.length = ns.length → su (fun k r => qG k.f1 r) kids (yw ax X Y W H off ns) = true → ∀ x, x ∈ kids → aV (3 - ax) x.f1 = tX ax H W := by
 intro kids
 induction kids with
 | nil => intro _ _ _ _ x hx; cases hx
 | cons k ks ih =>
  intro ns off hl he x hx
  cases ns with
  | nil => simp at hl
  | cons n ns =>
   simp only [yw, su, Bool.and_eq_true] at he
   rcases List.mem_cons.1 hx with rfl | hx
   ·obtain ⟨_, _, h2, h3⟩ := D7.1 he.1
    simp only [] at h2 h3
    rcases hax with rfl | rfl
    ·unfold aV tX at *
     simp at h3 ⊢
     exact h3
    ·unfold aV tX at *
     simp at h2 ⊢
     exact h2
   ·exact ih ns (off + n + 1) (by simpa using hl) he.2 x hx
theorem BU {c : ai} (h1 : mF c = true) (hk : c.f0 = 2 ∨ c.f0 = 3) (hl : c.f3.length ≤ 20000) :
  (c.f3.map (fun k => aV (c.f0 - 1) k.f1)).sum + (c.f3.length : Int) - 1 = aV (c.f0 - 1) c.f1 ∧ ∀ x, x ∈ c.f3 → aV (3 - (c.f0 - 1)) x.f1 = aV (3 - (c.f0 - 1)) c.f1 := by
 unfold mF B_ at h1
 rw [show (c.f0 == 1) = false from by simp; omega, Bool.false_or] at h1
 simp only [Bool.and_eq_true] at h1
 obtain ⟨ht, hlen, hE⟩ := h1
 obtain ⟨hax, gp, gs, _⟩ := Dk ht
 have e1 : yG c.f0 = c.f0 - 1 := by unfold yG; omega
 rw [e1] at hax gp gs
 have e2 : je c = c.f3.map (fun k => aV (c.f0 - 1) k.f1) := by
  unfold je
  apply List.map_congr_left
  intro k _
  unfold szK qo aV
  rcases hk with h | h
  ·rw [if_pos h, if_pos (by omega)]
  ·rw [if_neg (by omega), if_neg (by omega), if_pos (by omega)]
 have e3 : ∀ r : dD, tX (c.f0 - 1) r.f2 r.f3 = aV (c.f0 - 1) r ∧ tX (c.f0 - 1) r.f3 r.f2 = aV (3 - (c.f0 - 1)) r := by
  intro r
  rcases hk with h | h <;> simp [tX, aV, h]
 refine ⟨?_, fun x hx => ?_⟩
 ·rw [← e2, ← (e3 c.f1).1, ← gs]
  simp [je]
 ·rw [gp] at hE
  rw [← (e3 c.f1).2]
  exact Oy (c.f0 - 1) _ _ _ _ hax c.f3 (je c) 0 (by simp [je]) hE x hx
theorem tJ {c : ai} (h : mf c = true) : jU c.f1 = true := by
 unfold mf at h
 simp only [Bool.and_eq_true] at h
 exact h.1.1.1
theorem nz {r : dD} (h : jU r = true) {ax : Int} (hax : ax = 1 ∨ ax = 2) : 1 ≤ aV ax r ∧ aV ax r ≤ 10000 := by
 have := vz.1 h
 unfold aV
 rcases hax with rfl | rfl
 ·rw [if_pos rfl]; omega
 ·rw [if_neg (by omega), if_pos rfl]; omega
theorem AA {c x : ai} (h : kG c = true) (hx : x ∈ c.f3) : kG x = true := by
 rw [sS, Bool.and_eq_true] at h
 exact List.all_eq_true.1 h.2 x hx
theorem UB (ax m : Int) (a b : List ai) : lJ ax m (a ++ b) = lJ ax (lJ ax m a) b := by
 induction a generalizing m with
 | nil => rw [List.nil_append, ql]
 | cons x xs ih => rw [List.cons_append, kC, kC, ih]
theorem WM {ax u : Int} : ∀ {l : List ai} {m : Int}, m ≤ u → (∀ x, x ∈ l → b_ ax x ≤ u) → lJ ax m l ≤ u := by
 intro l
 induction l with
 | nil => intro m h _; rw [ql]; exact h
 | cons x xs ih =>
  intro m h hx
  rw [kC]
  exact ih (X8 h (hx x (by simp))) (fun y hy => hx y (by simp [hy]))
theorem NU {ax : Int} : ∀ {l : List ai} {m : Int}, m ≤ lJ ax m l := by
 intro l
 induction l with
 | nil => intro m; rw [ql]; exact Int.le_refl _
 | cons x xs ih =>
  intro m
  rw [kC]
  exact Int.le_trans (Uo m (b_ ax x)) ih
theorem aaQ {ax : Int} : ∀ {l : List ai}, (∀ x, x ∈ l → b_ ax x ≤ aV ax x.f1) → lX ax l ≤ (l.map (fun k => aV ax k.f1)).sum := by
 intro l
 induction l with
 | nil => intro _; rw [sQ]; exact Int.le_refl _
 | cons x xs ih =>
  intro hx
  rw [o8, List.map_cons, List.sum_cons]
  have h1 := hx x (by simp)
  have h2 := ih (fun y hy => hx y (by simp [hy]))
  omega
theorem BV {ax : Int} (hax : ax = 1 ∨ ax = 2) : ∀ (N : Nat) (c : ai), sz c ≤ N → N ≤ 20000 → (fG c).all mf = true → 1 ≤ b_ ax c ∧ (kG c = true → b_ ax c ≤ aV ax c.f1) := by
 intro N
 induction N with
 | zero => intro c h; rw [cO] at h; omega
 | succ N ih =>
  intro c hc hN hok
  have hs := cO c
  have hlen := ik c.f3
  have hk : ∀ x, x ∈ c.f3 → 1 ≤ b_ ax x ∧ (kG x = true → b_ ax x ≤ aV ax x.f1) := fun x hx => by
   refine ih x ?_ (by omega) (I4 hok hx)
   have := HY hx
   omega
  rw [oQ]
  rcases w_ (nD hok) with ⟨h1, h2⟩ | ⟨h1, h2⟩
  ·rw [if_pos h1]
   exact ⟨Int.le_refl _, fun _ => (nz (tJ (nD hok)) hax).1⟩
  ·rw [if_neg (by omega)]
   have hsum : ∀ l : List ai, (∀ x, x ∈ l → 1 ≤ b_ ax x) → (l.length : Int) ≤ lX ax l := by
    intro l
    induction l with
    | nil => intro _; rw [sQ]; simp
    | cons x xs ihl =>
     intro h
     have a1 := h x (by simp)
     have a2 := ihl (fun y hy => h y (by simp [hy]))
     rw [o8, List.length_cons]
     omega
   have adM := fun (ht : kG c = true) => BU (c := c) (by rw [sS, Bool.and_eq_true] at ht; exact ht.1) h1 (by omega)
   cases ha : fC ax c.f0 with
   | true =>
    have e : c.f0 - 1 = ax := by
     unfold fC at ha
     simp at ha
     omega
    simp only [if_true]
    refine ⟨by have := hsum c.f3 (fun x hx => (hk x hx).1); omega, fun ht => ?_⟩
    obtain ⟨g1, _⟩ := adM ht
    rw [e] at g1
    have := aaQ (ax := ax) (l := c.f3) (fun x hx => (hk x hx).2 (AA ht hx))
    omega
   | false =>
    have e : 3 - (c.f0 - 1) = ax := by
     unfold fC at ha
     simp at ha
     omega
    simp only [Bool.false_eq_true, if_false]
    refine ⟨?_, fun ht => ?_⟩
    ·cases hl : c.f3 with
     | nil => rw [hl] at h2; simp at h2
     | cons x xs =>
      have := (hk x (by rw [hl]; simp)).1
      rw [kC]
      exact Int.le_trans this (Int.le_trans (Ur 0 _) NU)
    ·obtain ⟨_, g2⟩ := adM ht
     rw [e] at g2
     have := nz (tJ (nD hok)) hax
     exact WM (by omega) (fun x hx => by
      have := (hk x hx).2 (AA ht hx)
      rw [g2 x hx] at this
      exact this)
section
variable {W : World} {b : Nat} {P : Nat → Prop} {A : Option Addr} {cc : Nat}
theorem tN (c : ai) (hz : sz c ≤ 1048576) (h1 : Kd.C k26 W A 1 [c]) (h2 : 1 ≤ cc) : Calls Try.prog 148 #[.slice A 1 cc] W fun e w' => e = .returned (.bool (di c)) ∧ Below W.heap.size W w' := by
 have h := Ol [c] (fun x hx => by rw [List.mem_singleton.1 hx]; exact hz) A cc W h1 h2
 simpa using h
theorem nH {c : ai} {v : Bool} {f : FuncId} {args : Array Value} (h : di c = v) (hc : Calls Try.prog f args W fun e w' => e = .returned (.bool (di c)) ∧ Below W.heap.size W w') : Calls Try.prog f args W fun e w' => e = .returned (.bool v) ∧ Below W.heap.size W w' := by
 rw [h] at hc
 exact hc
theorem aen (r : dD) (ax : Int) : Calls Try.prog 98 #[.agg #[.int .i64 r.f0, .int .i64 r.f1, .int .i64 r.f2, .int .i64 r.f3], .int .u8 ax] W fun e w' => e = .returned (.int .i64 (aV ax r)) ∧ Below W.heap.size W w' :=
 oU.calls r.f0 r.f1 r.f2 r.f3 ax _ W (JS r ax)
end
section
variable {Pr : Program} {ops : Array Oper} {rest : List Oper} {op : Oper} {a : Act} {Q : Exit → Act → World → Prop} {w W : World} {P P' : Nat → Prop} {bs : List (Option Nat × Obj)} {ow : List (Value × List ai)} {ts : List (Value × List ai)} {ro : List (Addr × Value)}
theorem tH {N : Tmp} (hd : op.dst = some N) (hgd : op.guard = none) (x : ai) {A : Option Addr} {c b : Nat} (S : St w P bs ow ts ro W) (hV : Kd.V k26 26 W b P' (.slice A x.f3.length c) x.f3)
  (hrun : (execOp a.eval op).run Pr W = .ok (.value (.slice (some ⟨W.heap.size, 0, none⟩) 1 1)) (W.alloc (.cells (kR x A c).toArray 26)))
  (h : ∀ A1 c1 w1, St w P bs ow ts ro w1 → 1 ≤ c1 → Kd.C k26 w1 A1 1 [x] → wpList Pr ops Q rest (a.put op.dst (.slice A1 1 c1)) w1) : wpList Pr ops Q (op :: rest) a W := by
 obtain ⟨_, hl, hF⟩ := Kd.BG hV
 refine Kd.yJ k26 (w0 := W) W.heap.size 26 hgd hd (xs := [x]) (inner := kR x A c) (ok := fun _ => True) (fD := P') hrun (bW.c7 (oC W P' x hl hF) (bW.none _ _)) (fun _ _ => trivial) trivial (Below.refl _ _) (Nat.le_refl _) (by simp) ?_
 intro v1 w1 hN _ hg _
 obtain ⟨A1, c1, rfl⟩ := Kd.jw hN
 exact h A1 c1 w1 (S.call (wC hg)) (Kd.iI hN).2.1 (Kd.iI hN).2.2
end
abbrev ae2 (w : World) (P : Nat → Prop) (z : ai) (n : Int) (e : Ending) (w' : World) : Prop := ∃ A c, e = .returned (.tuple #[.agg #[.int .u8 z.f0, .int .i64 z.f1.f0, .int .i64 z.f1.f1, .int .i64 z.f1.f2, .int .i64 z.f1.f3, .int .i64 z.f2, .slice A z.f3.length c], .int .i64 n]) ∧ Kd.N k26 26 w' w.heap.size (fun k => P k ∨ w.heap.size ≤ k) (.slice A z.f3.length c) z.f3 ∧ Below w.heap.size w w'
noncomputable def yl (ax : Int) (c : ai) : Bool := !di c || (ax != 1 && ax != 2)
noncomputable def yt (ax : Int) (c : ai) (b : Int) : Bool := decide (b < wrap64 (-(az ax c))) || decide (b > wrap64 (10000 - aV ax ⟨0, 0, wrap64 (c.f1.f0 + c.f1.f2), wrap64 (c.f1.f1 + c.f1.f3)⟩))
noncomputable def aN (ax : Int) (c : ai) (b : Int) : Int := if yl ax c = true then 1 else if yt ax c b = true then 7 else 0
noncomputable def aZ (ax : Int) (c : ai) (b : Int) : ai := if yl ax c = true then z26 else if yt ax c b = true then z26 else dA (fE ax c b) c.f1.f0 c.f1.f1
theorem agL {ax : Int} {c : ai} {b : Int} (h1 : yl ax c = false) (h2 : yt ax c b = false) : di c = true ∧ (ax = 1 ∨ ax = 2) ∧ sz c ≤ 20000 ∧ -10000 ≤ b ∧ b ≤ 10000 ∧ -(az ax c) ≤ b ∧ az ax c = aV ax c.f1 - b_ ax c ∧ aV ax c.f1 + b ≤ 10000 := by
 unfold yl at h1
 simp only [Bool.or_eq_false_iff, Bool.not_eq_false', Bool.and_eq_false_iff, bne_eq_false_iff_eq] at h1
 obtain ⟨ht, hax⟩ := h1
 have hm := kH ht
 have hs := ny hm
 have hB : kG c = true := by
  unfold di at ht
  simp only [Bool.and_eq_true] at ht
  exact ht.2
 have f := (BV hax (sz c) c (Nat.le_refl _) hs (oZ hm)).2 hB
 have f1 := (BV hax (sz c) c (Nat.le_refl _) hs (oZ hm)).1
 have hr := tJ (nD (oZ hm))
 have r := nz hr hax
 have hg : az ax c = aV ax c.f1 - b_ ax c := by
  unfold az
  rw [if_pos ⟨hax, ht⟩]
  unfold wrap64
  omega
 unfold yt at h2
 simp only [Bool.or_eq_false_iff, decide_eq_false_iff_not] at h2
 have hw1 : wrap64 (-(az ax c)) = -(az ax c) := by rw [hg]; unfold wrap64; omega
 have hq : 0 ≤ c.f1.f0 ∧ 0 ≤ c.f1.f1 ∧ c.f1.f0 + c.f1.f2 ≤ 10000 ∧ c.f1.f1 + c.f1.f3 ≤ 10000 ∧ 1 ≤ c.f1.f2 ∧ 1 ≤ c.f1.f3 := by
  unfold jU pz at hr
  simp only [Bool.and_eq_true, decide_eq_true_eq] at hr
  omega
 have he : aV ax ⟨0, 0, wrap64 (c.f1.f0 + c.f1.f2), wrap64 (c.f1.f1 + c.f1.f3)⟩ = (if ax = 1 then c.f1.f0 else c.f1.f1) + aV ax c.f1 := by
  unfold aV
  rcases hax with rfl | rfl
  ·simp only [if_true]; unfold wrap64; omega
  ·simp only [show ¬ ((2 : Int) = 1) by decide, if_false, if_true]; unfold wrap64; omega
 rw [hw1, he] at h2
 have hw2 : wrap64 (10000 - ((if ax = 1 then c.f1.f0 else c.f1.f1) + aV ax c.f1)) = 10000 - ((if ax = 1 then c.f1.f0 else c.f1.f1) + aV ax c.f1) := by unfold wrap64; split <;> omega
 rw [hw2] at h2
 refine ⟨ht, hax, hs, ?_, ?_, ?_, hg, ?_⟩ <;> (split at h2 <;> omega)
def xU.T6 : Bool × List (List Nat × List Nat) := (true, [([], []), ([0], [0]), ([], []), ([1, 2], [1, 2]), ([3], [3]), ([], []), ([], []), ([6], [6]), ([4, 5, 7], [4, 5, 7]), ([8], [8]), ([9], [9]), ([9], [9]), ([], []), ([12, 10, 8, 0, 1, 2, 3, 4, 5, 6, 7, 8, 9, 10, 12], [10, 12]), ([11, 13, 0, 1, 2, 3, 4, 5, 6, 7, 8, 9, 10, 11, 12, 13], [11])])
def xU.B6 : List Nat := [0, 1, 0, 7, 15, 0, 0, 64, 255, 511, 1023, 1023, 0, 6143, 16383]
theorem xU.tab6 : g_ .any (opsOf Try.f102 6) = xU.T6 := by kernel_rfl
theorem xU.Gz : iO xU.T6.2 xU.B6 = true := by kernel_rfl
def xe (kid : ai) : List Int → ai → Option ai
 | [], _ => some kid
 | i :: is, c => if i < 0 ∨ i ≥ (c.f3.length : Int) then none else match xe kid is (aA c.f3 i) with
  | none => none
  | some k => some ⟨c.f0, c.f1, c.f2, c.f3.set i.toNat k⟩
abbrev Vq (w : World) (P : Nat → Prop) : Option ai → Ending → World → Prop
 | none, e, w' => e = .returned (.tuple #[.agg #[.int .u8 0, .int .i64 0, .int .i64 0, .int .i64 0, .int .i64 0, .int .i64 0, .slice none 0 0], .bool false]) ∧ Below w.heap.size w w'
 | some z, e, w' => ∃ A c, e = .returned (.tuple #[.agg #[.int .u8 z.f0, .int .i64 z.f1.f0, .int .i64 z.f1.f1, .int .i64 z.f1.f2, .int .i64 z.f1.f3, .int .i64 z.f2, .slice A z.f3.length c], .bool true]) ∧ Kd.N k26 26 w' w.heap.size (fun k => P k ∨ w.heap.size ≤ k) (.slice A z.f3.length c) z.f3 ∧ Below w.heap.size w w'
def aeq.T5 : Bool × List (List Nat × List Nat) := (true, [([], []), ([0], [0]), ([], []), ([2], [2]), ([3], [3]), ([1, 4], [1, 4]), ([5], [5]), ([], []), ([], []), ([8], [8]), ([6, 7, 9], [6, 7, 9]), ([10], [10]), ([11], [11]), ([11], [11]), ([], []), ([14, 12, 10, 0, 1, 2, 3, 4, 5, 6, 7, 8, 9, 10, 11, 12, 14], [12, 14]), ([13, 15, 0, 1, 2, 3, 4, 5, 6, 7, 8, 9, 10, 11, 12, 13, 14, 15], [13])])
def aeq.B5 : List Nat := [0, 1, 0, 4, 12, 31, 63, 0, 0, 256, 1023, 2047, 4095, 4095, 0, 24575, 65535]
def aer.T9 : Bool × List (List Nat × List Nat) := (true, [([], []), ([], []), ([1], [1]), ([2], [2]), ([], []), ([0, 3, 0, 1, 2, 3, 4], [0, 3]), ([5, 4, 0, 1, 2, 3, 4], [4, 5])])
def aer.B9 : List Nat := [0, 0, 2, 6, 0, 31, 63]
theorem Rk : ∀ (l : List ai) (n : Nat) (k : ai) (m : Nat), n < l.length → sz k ≤ sz (l.getD n z26) + m → dI (l.set n k) ≤ dI l + m := by
 intro l
 induction l with
 | nil => intro n k m h; simp at h
 | cons x xs ih =>
  intro n k m h hk
  cases n with
  | zero => rw [List.set_cons_zero, bY, bY]; simp only [List.getD_cons_zero] at hk; omega
  | succ n => rw [List.set_cons_succ, bY, bY]; have := ih n k m (by simpa using h) (by simpa using hk); omega
theorem Xb (kid : ai) : ∀ (path : List Int) (c x : ai), xe kid path c = some x → sz x ≤ sz c + sz kid := by
 intro path
 induction path with
 | nil => intro c x h; simp only [xe] at h; rw [← Option.some.inj h]; omega
 | cons i is ih =>
  intro c x h
  simp only [xe] at h
  split at h
  ·cases h
  ·rename_i hi
   cases hp : xe kid is (aA c.f3 i) with
   | none => rw [hp] at h; cases h
   | some k =>
    rw [hp] at h
    have h := Option.some.inj h
    subst h
    have h1 := ih _ _ hp
    have h2 := Rk c.f3 i.toNat k (sz kid) (by omega) h1
    rw [cO, cO c]
    show 1 + dI (c.f3.set i.toNat k) ≤ _
    omega
section
variable {Pr : Program} {ops : Array Oper} {rest : List Oper} {op : Oper} {a : Act} {Q : Exit → Act → World → Prop} {w W : World} {P : Nat → Prop} {bs : List (Option Nat × Obj)} {ow : List (Value × List ai)} {ts : List (Value × List ai)} {ro : List (Addr × Value)}
theorem WI (N : Tmp) (y : Int) (S : ae (St w P bs ow ts ro W)) (h : ∀ A c o w1, ae (St w P (((Value.slice A [y].length c).ownBlock, o) :: bs) ow ts ro w1) → ae (KR (Kd.int .i64) 3 w.heap.size (.slice A [y].length c) [y] o) → wpList Pr ops Q rest (a.put op.dst (.slice A [y].length c)) w1)
  (hd : op.dst = some N := by rfl) (hgd : op.guard = none := by rfl) (hrun : (execOp a.eval op).run Pr W = .ok (.value (.slice (some ⟨W.heap.size, 0, none⟩) 1 1)) (W.alloc (.cells #[.int .i64 y] 3)) := by first | (go_simp; done) | (go_simp; rfl)) : wpList Pr ops Q (op :: rest) a W :=
 Kd.vO (Kd.int .i64) (w0 := W) W.heap.size 3 hgd hd (xs := [y]) (inner := [.int .i64 y]) (ok := fun _ => True) (fD := fun _ => True) hrun (bW.one (show Kd.M (Kd.int .i64) _ _ _ y [.int .i64 y] from rfl) (bW.none _ _)) (fun _ hk => hk) trivial (Below.refl _ _) (Nat.le_refl _) (by simp) (fun v1 w1 hR hb hg _ => by
  obtain ⟨A, c, rfl⟩ := Kd.gJ hR
  obtain ⟨o, S1, HI⟩ := S.out.F8 (d := Kd.int .i64) (e := 3) rfl hR (wC hg)
  exact h A c o w1 ⟨S1⟩ ⟨HI⟩)
end
abbrev yL (W : World) (p : List Int) (t : Bool) (e : Ending) (w' : World) : Prop := ∃ A c, e = .returned (.tuple #[.slice A p.length c, .bool t]) ∧ (Kd.int .i64).R 3 w' W.heap.size (fun _ => True) (.slice A p.length c) p ∧ Below W.heap.size W w'
theorem Tc {id : Int} {k : ai} {r : Option (List Int)} {args : Array Value} {W : World} (h : fO id k = r) (hc : Calls Try.prog 90 args W (yL W ((fO id k).getD []) (fO id k).isSome)) : Calls Try.prog 90 args W (yL W (r.getD []) r.isSome) := by
 rw [h] at hc
 exact hc
theorem aaJ (id : Int) : ∀ (N : Nat) (c : ai), sz c ≤ N → N ≤ 1000000 → ∀ (b : Nat) (P : Nat → Prop) (A : Option Addr) (cc : Nat) (w : World), Kd.V k26 26 w b P (.slice A c.f3.length cc) c.f3 →
  Calls Try.prog 90 #[.agg #[.int .u8 c.f0, .int .i64 c.f1.f0, .int .i64 c.f1.f1, .int .i64 c.f1.f2, .int .i64 c.f1.f3, .int .i64 c.f2, .slice A c.f3.length cc], .int .i64 id] w (yL w ((fO id c).getD []) (fO id c).isSome) := by
 intro N
 induction N with
 | zero => intro c h; rw [cO] at h; omega
 | succ N ih =>
  intro c hc hN b P A cc w hv
  have hsz := cO c
  have hlen := ik c.f3
  have S := ae.mk (St.start (ts := [(.slice A c.f3.length cc, c.f3)]) (b0 := w.heap.size) (w := w) (P := P) (fun t ht => by rw [List.mem_singleton.1 ht]; exact fK hv))
  have gW := ae.mk (show c.f3.length ≤ 1000000 by omega)
  have IH := ae.mk fun (k : ai) (hk : k ∈ c.f3) A cc w {b P} h => ih k (by have := uI hk; omega) (by omega) b P A cc w h
  have HQS := ae.mk fun (k : ai) (hk : k ∈ c.f3) q (h : fO id k = some q) => (show q.length ≤ 1000000 by have := (BN id (sz k)).1 k (Nat.le_refl _) q h; have := uI hk; omega)
  rw [BM]
  obtain ⟨ck, ⟨cx, cy, cw, ch⟩, aU, l⟩ := c
  simp only [] at S gW IH HQS ⊢
  clear ih hc hN hv hsz hlen
  by_cases hq : ck = 1 ∧ aU = id
  case pos =>
   rw [if_pos hq]
   obtain ⟨h1, h2⟩ := hq
   obtain ⟨h1a, h1b, h1d⟩ := wM (a := ck) (b := 1) (by omega)
   obtain ⟨h2a, h2b, h2d⟩ := wM (a := aU) (b := id) (by omega)
   clear h1 h2
   go_enter Try.func90, Try.ntmps90
   go_wp2_with (first
    | (refine boxS 2 _ 26 S ?_; clear S; intro b2 dF S; have jZ := (S.out.at (.head _) 0).trans rfl; have l7 := (S.out.at (.head _) 5).trans rfl)
    | (refine ig 18 rfl ?_; refine lU (Kd.int .i64) 3 rfl 18 S ?_; clear S; intro An cn on dV S yE; clear jZ l7)
    | fail)
   go_ret2
   exact ⟨_, _, rfl, S.out.FY yE.out (.head _), S.out.below⟩
  rw [if_neg hq]
  have hw : ((ck == 1) = true ∧ decide (ck = 1) = true ∧ (aU == id) = false ∧ decide (aU = id) = false) ∨ ((ck == 1) = false ∧ decide (ck = 1) = false) := by
   by_cases h1 : ck = 1
   ·exact .inl ⟨beq_iff_eq.mpr h1, decide_eq_true h1, beq_eq_false_iff_ne.mpr (fun h => hq ⟨h1, h⟩), decide_eq_false (fun h => hq ⟨h1, h⟩)⟩
   ·exact .inr ⟨beq_eq_false_iff_ne.mpr h1, decide_eq_false h1⟩
  obtain ⟨R, hR⟩ : ∃ R, R = oN id 0 l := ⟨_, rfl⟩
  rw [← hR]
  have HR := ae.mk hR.symm
  clear hq hR
  rcases hw with ⟨ha, hb, hc, hd⟩ | ⟨ha, hb⟩
  all_goals
   go_enter Try.func90, Try.ntmps90
   go_wp2_with (first
    | (refine boxS 2 _ 26 S ?_; clear S; intro b2 dF S; have jZ := (S.out.at (.head _) 0).trans rfl; have l7 := (S.out.at (.head _) 5).trans rfl; have eH := (S.out.at (.head _) 6).trans rfl)
    | fail)
   clear jZ l7 eH
   go_loopg [22] l.length (fun gg v22 wr => ∃ (pre rest : List ai), v22 = .int .i64 (pre.length : Int) ∧ ae (pre ++ rest = l) ∧ ae (oN id pre.length rest = R) ∧ rest.length ≤ gg ∧ ae (St w P [(some b2, .cells #[.int .u8 ck, .int .i64 cx, .int .i64 cy, .int .i64 cw, .int .i64 ch, .int .i64 aU, .slice A l.length cc] 26 (0, 0))] [] [(.slice A l.length cc, l)] [] wr))
   case atStart => exact ⟨[], l, rfl, ⟨rfl⟩, HR, Nat.le_refl _, S⟩
   case round =>
    clear S HR
    obtain ⟨pre, rest, rfl, HE, HR, hgg, S⟩ := hrel
    cases rest with
    | nil =>
     have hr := HR.out
     rw [sD] at hr
     replace HR := ae.mk hr.symm
     clear hr
     have hE := HE.out
     rw [List.append_nil] at hE
     have hE2 := hE.symm
     subst hE2
     clear hE HE hgg
     have hlt : ¬ ((l.length : Int) < (l.length : Int)) := by omega
     go_wp2_with (first
      | (refine ig 41 rfl ?_; refine lU (Kd.int .i64) 3 rfl 41 S ?_; clear S; intro An cn on dV S yE)
      | fail)
     go_ret2
     rw [HR.out]
     exact ⟨_, _, rfl, S.out.FY yE.out (.head _), S.out.below⟩
    | cons k rest =>
     have hk : k ∈ l := by rw [← HE.out]; simp
     have hlt : (pre.length : Int) < (l.length : Int) := by rw [← HE.out, List.length_append, List.length_cons]; omega
     have hw1 : wrap64 ((pre.length : Int) + 1) = ((pre ++ [k]).length : Int) := by have := gW.out; rw [List.length_append, List.length_singleton]; unfold wrap64; omega
     have HW1 := ae.mk hw1
     have fF := ae.mk hgg
     have HK := ae.mk hk
     have EO := ae.mk (show pre.length ≤ 1048576 by have := gW.out; omega)
     obtain ⟨jS, ua, uc, ek, S1⟩ := S.out.elem (.head _) (pre.length : Int) (Int.natCast_nonneg _) hlt
     subst ek
     have hrd : aA l (pre.length : Int) = k := by rw [← HE.out]; exact lu pre k rest
     rw [hrd] at S1
     simp only [Int.toNat_natCast] at S1
     replace S := ae.mk S1
     clear S1 hrd hk hgg hw1
     cases hf : fO id k with
     | none =>
      have HF := ae.mk hf
      have hr := HR.out
      rw [oO, hf] at hr
      replace HR := ae.mk (show oN id (pre ++ [k]).length rest = R by rw [List.length_append]; exact hr)
      clear hf hr
      obtain ⟨fZ, iw, jf, iV, iW, kD, kE⟩ := St.CJ S
      have eH := (S.out.at (.head _) 6).trans rfl
      go_wp2_with (first
       | (refine iF (some 32) Try.func90 (Tc HF.out (IH.out k HK.out ua uc _ (S.out.tree _ (.head _)))) ?_; rintro e dF ⟨Aq, cq, rfl, h1, hb⟩; refine ⟨_, rfl, ?_⟩; obtain ⟨oq, S1, hI⟩ := S.out.F8 (d := Kd.int .i64) (e := 3) rfl h1 hb; replace S := ae.mk S1; have mi := ae.mk hI; clear S1 hI h1 hb; clear fZ iw jf iV iW kD kE eH)
       | fail)
      have hw1 := HW1.out
      go_wp2
      go_roundg rest.length
      case measure => exact Nat.lt_of_lt_of_le (Nat.lt_succ_self _) fF.out
      case rel => exact ⟨pre ++ [k], rest, (by rw [hw1]), ⟨by rw [List.append_assoc]; exact HE.out⟩, HR, Nat.le_refl _, ⟨S.out.dP.dE.bg.bg.bg.bg.bg.bg.bg⟩⟩
     | some q =>
      have HF := ae.mk hf
      have HQL := ae.mk (HQS.out k HK.out q hf)
      have hr := HR.out
      rw [oO, hf] at hr
      replace HR := ae.mk (show R = some ((pre.length : Int) :: q) from hr.symm)
      clear hf hr
      obtain ⟨fZ, iw, jf, iV, iW, kD, kE⟩ := St.CJ S
      have eH := (S.out.at (.head _) 6).trans rfl
      go_wp2_with (first
       | (refine iF (some 32) Try.func90 (Tc HF.out (IH.out k HK.out ua uc _ (S.out.tree _ (.head _)))) ?_; rintro e dF ⟨Aq, cq, rfl, h1, hb⟩; refine ⟨_, rfl, ?_⟩; obtain ⟨oq, S1, hI⟩ := S.out.F8 (d := Kd.int .i64) (e := 3) rfl h1 hb; replace S := ae.mk S1; have mi := ae.mk hI; clear S1 hI h1 hb; clear fZ iw jf iV iW kD kE eH)
       | (refine ig 37 rfl ?_; refine WI 37 (pre.length : Int) S ?_; clear S; intro An cn on dV S yE)
       | (refine ig 39 rfl ?_; at_builtin; refine LW (Kd.int .i64) 3 rfl 37 38 41 (.int .i64 0) 8 Try.underlying41 info3 rfl (by decide) (by decide) (by decide) S yE q (Vo mi.out S.out bI).1 (fun _ _ _ _ _ h => h) (by have := HQL.out; simp only [List.length_cons, List.length_nil]; omega) ?_; clear S yE; intro An2 cn2 on2 fV S yE)
       | fail)
      go_ret2
      rw [HR.out]
      exact ⟨_, _, rfl, S.out.FY yE.out (.head _), S.out.below⟩
def afN.T3 : Bool × List (List Nat × List Nat) := (true, [([], []), ([0], [0]), ([1], [1]), ([2], [2]), ([3], [3]), ([4], [4]), ([5, 4], [4, 5]), ([6, 4], [4, 6]), ([4], [4]), ([8, 4], [4, 8]), ([9, 4], [4, 9]), ([7, 10, 4], [4, 7, 10]), ([4, 11], [4, 11])])
def afN.B3 : List Nat := [0, 1, 3, 7, 15, 31, 63, 127, 31, 287, 799, 2047, 4095]
def xE.T5 : Bool × List (List Nat × List Nat) := (true, [([], []), ([0], [0]), ([], []), ([2], [2]), ([3], [3]), ([1, 4], [1, 4]), ([5], [5]), ([], []), ([7], [7]), ([6, 8], [6, 8]), ([9], [9]), ([9], [9]), ([10, 9, 0, 1, 2, 3, 4, 5, 6, 7, 8, 9, 10, 11], [10]), ([11, 12, 0, 1, 2, 3, 4, 5, 6, 7, 8, 9, 10, 11, 12], [11])])
def xE.B5 : List Nat := [0, 1, 0, 4, 12, 31, 63, 0, 128, 511, 1023, 1023, 4095, 8191]
theorem xE.Jb : g_ .any (opsOf Try.f92 5) = xE.T5 := by kernel_rfl
theorem xE.Es : iO xE.T5.2 xE.B5 = true := by kernel_rfl
def AtV (w : World) (P : Nat → Prop) : Option ai → Ending → World → Prop
 | none, e, w' => ∃ A2 c2, e = .returned (.tuple #[.agg #[.int .u8 0, .int .i64 0, .int .i64 0, .int .i64 0, .int .i64 0, .int .i64 0, .slice A2 ([] : List ai).length c2], .bool false]) ∧ Kd.V k26 26 w' w.heap.size (fun k => P k ∨ w.heap.size ≤ k) (.slice A2 ([] : List ai).length c2) ([] : List ai) ∧ Below w.heap.size w w'
 | some z, e, w' => ∃ A2 c2, e = .returned (.tuple #[.agg #[.int .u8 z.f0, .int .i64 z.f1.f0, .int .i64 z.f1.f1, .int .i64 z.f1.f2, .int .i64 z.f1.f3, .int .i64 z.f2, .slice A2 z.f3.length c2], .bool true]) ∧ Kd.V k26 26 w' w.heap.size (fun k => P k ∨ w.heap.size ≤ k) (.slice A2 z.f3.length c2) z.f3 ∧ Below w.heap.size w w'
theorem agN : ∀ (is : List Int) (c : ai) (P : Nat → Prop) (A : Option Addr) (cc : Nat) (B : Option Addr) (cb : Nat) (w : World), Kd.V k26 26 w w.heap.size P (.slice A c.f3.length cc) c.f3 → Kd.C (Kd.int .i64) w B is.length is → is.length ≤ cb →
  Calls Try.prog 92 #[.agg #[.int .u8 c.f0, .int .i64 c.f1.f0, .int .i64 c.f1.f1, .int .i64 c.f1.f2, .int .i64 c.f1.f3, .int .i64 c.f2, .slice A c.f3.length cc], .slice B is.length cb] w (AtV w P (n_ c is)) := by
 intro is
 induction is with
 | nil =>
  intro c P A cc B cb w hv hi hb
  show Calls Try.prog 92 #[.agg #[.int .u8 c.f0, .int .i64 c.f1.f0, .int .i64 c.f1.f1, .int .i64 c.f1.f2, .int .i64 c.f1.f3, .int .i64 c.f2, .slice A c.f3.length cc], .slice B 0 cb] w (AtV w P (some c))
  have S := ae.mk (St.start (ts := [(.slice A c.f3.length cc, c.f3)]) (b0 := w.heap.size) (w := w) (P := P) (fun t ht => by rw [List.mem_singleton.1 ht]; exact hv))
  clear hv hi hb
  obtain ⟨ck, ⟨cx, cy, cw, ch⟩, aU, l⟩ := c
  simp only [] at S ⊢
  go_enter Try.func92, Try.ntmps92
  go_wp2_with (first | (refine boxS 2 _ 26 S ?_; clear S; intro b2 dF S) | (refine boxS 4 _ 26 S ?_; clear S; intro b4 dV S; obtain ⟨jZ, mQ, mV, mW, mX, l7, eH⟩ := St.ed S bI) | (refine gX 26 4 9 #[.int .u8 ck, .int .i64 cx, .int .i64 cy, .int .i64 cw, .int .i64 ch, .int .i64 aU, .slice A l.length cc] 0 7 S ?_; clear S; intro fV S; clear jZ mQ mV mW mX l7 eH))
  refine bodyPost_ret (fB rfl _ _ b4 26 _ (0, 0) _ rfl (S.out.blk _ (.head _) _ rfl) Try.underlying26 rfl (by kernel_rfl)) rfl ?_
  exact ⟨_, _, rfl, S.out.WS (.head _), S.out.below⟩
 | cons i is ih =>
  intro c P A cc B cb w hv hi hb
  have IH := ae.mk ih
  have HI := ae.mk hi
  have LI := ae.mk hb
  have S := ae.mk (St.start (ts := [(.slice A c.f3.length cc, c.f3)]) (b0 := w.heap.size) (w := w) (P := P) (fun t ht => by rw [List.mem_singleton.1 ht]; exact hv))
  obtain ⟨EP, rfl, xi⟩ := Kd.iR hi 0 (by omega) (by simp)
  rw [show ((0 : Int)).toNat = 0 from rfl, Addr.add_zero'] at xi
  have xi : w.cell? EP = some (.int .i64 i) := xi
  replace S := ae.mk (S.out.yU xi)
  have hlen0 : (0 : Int) < ((is.length : Int) + 1) := by omega
  have hl0 : ((is.length + 1 : Nat) : Int) = (is.length : Int) + 1 := by omega
  clear ih hv hi hb xi
  simp only [n_]
  obtain ⟨ck, ⟨cx, cy, cw, ch⟩, aU, l⟩ := c
  simp only [] at S ⊢
  simp only [List.length_cons] at HI LI ⊢
  by_cases h0 : i < 0
  ·rw [if_pos (.inl h0)]
   have wO : decide (i < 0) = true := decide_eq_true h0
   go_enter Try.func92, Try.ntmps92
   go_wp2_with (first | (refine boxS 2 _ 26 S ?_; clear S; intro b2 dF S) | (refine boxS 4 _ 26 S ?_; clear S; intro b4 dV S; have fZ := (S.out.cell _ (.head _)).1))
   go_quiet (fail)
   clear fZ
   replace S := ae.mk (S.out.call (eG (Below.refl _ _) nq))
   generalize dV.drewN nq = Ve at S ⊢
   go_wp2_with ((refine gX 26 4 23 #[.int .u8 0, .int .i64 0, .int .i64 0, .int .i64 0, .int .i64 0, .int .i64 0, .slice none 0 0] 0 7 S ?_; clear S; intro iQ S))
   refine bodyPost_ret (fB rfl _ _ b4 26 _ (0, 0) _ rfl (S.out.blk _ (.head _) _ rfl) Try.underlying26 rfl (by kernel_rfl)) rfl ?_
   exact ⟨_, _, rfl, Kd.Kq _ _ _ _ _, S.out.below⟩
  ·by_cases h1 : i ≥ (l.length : Int)
   ·rw [if_pos (.inr h1)]
    have wO : decide (i < 0) = false := decide_eq_false h0
    have h1b : decide (i ≥ (l.length : Int)) = true := decide_eq_true h1
    have h1c : decide ((l.length : Int) ≤ i) = true := decide_eq_true h1
    go_enter Try.func92, Try.ntmps92
    go_wp2_with (first | (refine boxS 2 _ 26 S ?_; clear S; intro b2 dF S) | (refine boxS 4 _ 26 S ?_; clear S; intro b4 dV S; have fZ := (S.out.cell _ (.head _)).1; have eH := (S.out.at bI 6).trans rfl))
    go_quiet (fail)
    clear fZ eH
    replace S := ae.mk (S.out.call (eG (Below.refl _ _) nq))
    generalize dV.drewN nq = Ve at S ⊢
    go_wp2_with ((refine gX 26 4 23 #[.int .u8 0, .int .i64 0, .int .i64 0, .int .i64 0, .int .i64 0, .int .i64 0, .slice none 0 0] 0 7 S ?_; clear S; intro iQ S))
    refine bodyPost_ret (fB rfl _ _ b4 26 _ (0, 0) _ rfl (S.out.blk _ (.head _) _ rfl) Try.underlying26 rfl (by kernel_rfl)) rfl ?_
    exact ⟨_, _, rfl, Kd.Kq _ _ _ _ _, S.out.below⟩
   ·rw [if_neg (fun h => h.elim h0 h1)]
    have wO : decide (i < 0) = false := decide_eq_false h0
    have h1b : decide (i ≥ (l.length : Int)) = false := decide_eq_false h1
    have h1c : decide ((l.length : Int) ≤ i) = false := decide_eq_false h1
    have h0z : 0 ≤ i := by omega
    have h1z : i < (l.length : Int) := by omega
    obtain ⟨jS, ua, uc, ek, S1⟩ := S.out.elem (.head _) i h0z h1z
    subst ek
    replace S := ae.mk S1
    clear S1
    generalize aA l i = k at S ⊢
    obtain ⟨i0, hi0, _, hsz, _⟩ := info_parts info3
    have hcut := MN (P := Try.prog) 41 3 .i64 Try.underlying41 hi0 1 hsz (some EP) (is.length + 1) cb 1 (by omega) (by omega)
    have hdrop := Kd.RF HI.out (m := 1) (by rw [List.length_cons]; omega) LI.out
    obtain ⟨A2, hA2⟩ : ∃ A2, A2 = (if cb = (1 : Int).toNat then (some EP) else ((some EP) : Option Addr).map (·.add ((1 : Int).toNat * 1))) := ⟨_, rfl⟩
    obtain ⟨c2, hc2⟩ : ∃ c2, c2 = cb - (1 : Int).toNat := ⟨_, rfl⟩
    rw [← hA2, ← hc2, show is.length + 1 - (1 : Int).toNat = is.length by simp] at hcut
    have HI2 := ae.mk (show Kd.C (Kd.int .i64) w A2 is.length is by rw [hA2]; exact hdrop)
    have LI2 := ae.mk (show is.length ≤ c2 by have h3 := LI.out; rw [hc2]; simp; omega)
    have Qc := ae.mk hcut
    clear hdrop hA2 hc2 hi0 hsz hcut h0 h1
    have Ju := fun Q W h1 h2 => IH.out k Q ua uc A2 c2 W h1 h2 LI2.out
    cases hp : n_ k is with
    | none =>
     simp only [hp] at Ju ⊢
     have hcut := Qc.out
     go_enter Try.func92, Try.ntmps92
     go_wp2_with (first | (refine boxS 2 _ 26 S ?_; clear S; intro b2 dF S) | (refine boxS 4 _ 26 S ?_; clear S; intro b4 dV S; have JW := (S.out.cell _ PG).1; have eH := (S.out.at bI 6).trans rfl))
     go_quiet (fail)
     clear JW eH
     replace S := ae.mk (S.out.call (eG (Below.refl _ _) nq))
     generalize dV.drewN nq = Ve at S ⊢
     go_wp2
     refine iU (n := 14) (S := fun w' => St w _ _ _ _ _ w') (ds := [12]) (bA 14 0) (by kernel_rfl) rfl rfl (S.out.call (bJ (Below.refl _ _))) (fun hHeld => ?_); refine eU xE.Jb xE.Es (fun aj dY => ?_)
     replace S := ae.mk (S.out.call (bJ (Below.refl _ _)))
     generalize Ve.drew = wd4 at S hHeld ⊢
     refine ay 0 24 (bA 14 1) aj ?_
     refine dN 1 25 (bA 14 3) aj dY hHeld ?_ (hv := by intro w' hs_; have eH := (hs_.at bI 6).trans rfl; go_simp; with_reducible rfl)
     refine ay 2 26 (bA 14 7) aj ?_
     refine ay 3 27 (bA 14 15) aj ?_
     refine dN 4 28 (bA 14 31) aj dY hHeld ?_ (hv := by intro w' hs_; have JW := (hs_.cell _ PG).1; go_simp; with_reducible rfl)
     refine ay 5 29 (bA 14 63) aj ?_
     refine dN 6 30 (bA 14 127) aj dY hHeld ?_ (hv := by intro w' hs_; have fZ := (hs_.cell _ (.head _)).1; have iw := (hs_.cell _ bI).1; have jf := (hs_.cell _ dQ).1; have iV := (hs_.cell _ kW).1; have iW := (hs_.cell _ qj).1; have kD := (hs_.cell _ Bh).1; have kE := (hs_.cell _ Bi).1; go_simp; with_reducible rfl)
     refine ay 7 31 (bA 14 255) aj ?_
     refine ay 8 32 (bA 14 511) aj ?_
     refine jH 9 (some 33) (bA 14 1023) aj (fun K hK => ?_)
     refine jD Try.func92 (by kernel_rfl) rfl #[.agg #[.int .u8 k.f0, .int .i64 k.f1.f0, .int .i64 k.f1.f1, .int .i64 k.f1.f2, .int .i64 k.f1.f3, .int .i64 k.f2, .slice ua k.f3.length uc], .slice A2 is.length c2] (by rfl) rfl rfl (by (try simp only [List.map_toArray, List.map_cons, List.map_nil]); rfl) ?_
     refine (Ju _ _ (fK (S.out.tree _ (.head _))) (Kd.gV HI2.out S.out.below)).mono ?_
     rintro e mO ⟨E8, FM, rfl, h1, hb⟩
     refine ⟨_, rfl, ?_⟩
     replace S := ae.mk (S.out.res h1 hb)
     clear h1 hb
     refine hK.out _ _ S.out.dE (fun hHeld => ?_)
     clear hK K
     refine d_ 33 ?_
     refine ay 10 34 (bA 14 2047) aj ?_
     refine ay 11 35 (bA 14 4095) aj ?_
     refine oP 12 none (bA 14 8191) aj (fun K hK => ?_)
     refine oD 0 rfl 26 (.tmp 4) (.tmp 34) rfl #[.int .u8 0, .int .i64 0, .int .i64 0, .int .i64 0, .int .i64 0, .int .i64 0, .slice E8 (([] : List ai).length) FM] (j := 0) (u := .agg #[.int .u8 0, .int .i64 0, .int .i64 0, .int .i64 0, .int .i64 0, .int .i64 0, .slice E8 (([] : List ai).length) FM]) (bK := [.int .u8 0, .int .i64 0, .int .i64 0, .int .i64 0, .int .i64 0, .int .i64 0, .slice E8 (([] : List ai).length) FM]) S.out (by rfl) rfl rfl rfl rfl (by kernel_rfl) (by simp [Value.oneCell']) (by simp) rfl ?_
     intro Bz S1
     simp only [List.set_cons_zero, List.set_cons_succ] at S1
     replace S := ae.mk S1
     clear S1
     refine hK.out _ _ ?_
     clear hK K
     refine ay 13 5 (bA 14 16383) aj ?_
     refine jJ (gK aj.out (by kernel_rfl)) ?_
     clear hHeld
     go_wp2
     refine bodyPost_ret (fB rfl _ _ b4 26 _ (0, 0) _ rfl (S.out.blk _ (.head _) _ rfl) Try.underlying26 rfl (by kernel_rfl)) rfl ?_
     exact ⟨_, _, rfl, S.out.WS (.head _), S.out.below⟩
    | some z =>
     simp only [hp] at Ju ⊢
     have hcut := Qc.out
     go_enter Try.func92, Try.ntmps92
     go_wp2_with (first | (refine boxS 2 _ 26 S ?_; clear S; intro b2 dF S) | (refine boxS 4 _ 26 S ?_; clear S; intro b4 dV S; have JW := (S.out.cell _ PG).1; have eH := (S.out.at bI 6).trans rfl))
     go_quiet (fail)
     clear JW eH
     replace S := ae.mk (S.out.call (eG (Below.refl _ _) nq))
     generalize dV.drewN nq = Ve at S ⊢
     go_wp2
     refine iU (n := 14) (S := fun w' => St w _ _ _ _ _ w') (ds := [12]) (bA 14 0) (by kernel_rfl) rfl rfl (S.out.call (bJ (Below.refl _ _))) (fun hHeld => ?_); refine eU xE.Jb xE.Es (fun aj dY => ?_)
     replace S := ae.mk (S.out.call (bJ (Below.refl _ _)))
     generalize Ve.drew = wd4 at S hHeld ⊢
     refine ay 0 24 (bA 14 1) aj ?_
     refine dN 1 25 (bA 14 3) aj dY hHeld ?_ (hv := by intro w' hs_; have eH := (hs_.at bI 6).trans rfl; go_simp; with_reducible rfl)
     refine ay 2 26 (bA 14 7) aj ?_
     refine ay 3 27 (bA 14 15) aj ?_
     refine dN 4 28 (bA 14 31) aj dY hHeld ?_ (hv := by intro w' hs_; have JW := (hs_.cell _ PG).1; go_simp; with_reducible rfl)
     refine ay 5 29 (bA 14 63) aj ?_
     refine dN 6 30 (bA 14 127) aj dY hHeld ?_ (hv := by intro w' hs_; have fZ := (hs_.cell _ (.head _)).1; have iw := (hs_.cell _ bI).1; have jf := (hs_.cell _ dQ).1; have iV := (hs_.cell _ kW).1; have iW := (hs_.cell _ qj).1; have kD := (hs_.cell _ Bh).1; have kE := (hs_.cell _ Bi).1; go_simp; with_reducible rfl)
     refine ay 7 31 (bA 14 255) aj ?_
     refine ay 8 32 (bA 14 511) aj ?_
     refine jH 9 (some 33) (bA 14 1023) aj (fun K hK => ?_)
     refine jD Try.func92 (by kernel_rfl) rfl #[.agg #[.int .u8 k.f0, .int .i64 k.f1.f0, .int .i64 k.f1.f1, .int .i64 k.f1.f2, .int .i64 k.f1.f3, .int .i64 k.f2, .slice ua k.f3.length uc], .slice A2 is.length c2] (by rfl) rfl rfl (by (try simp only [List.map_toArray, List.map_cons, List.map_nil]); rfl) ?_
     refine (Ju _ _ (fK (S.out.tree _ (.head _))) (Kd.gV HI2.out S.out.below)).mono ?_
     rintro e mO ⟨E8, FM, rfl, h1, hb⟩
     refine ⟨_, rfl, ?_⟩
     replace S := ae.mk (S.out.res h1 hb)
     clear h1 hb
     refine hK.out _ _ S.out.dE (fun hHeld => ?_)
     clear hK K
     refine d_ 33 ?_
     refine ay 10 34 (bA 14 2047) aj ?_
     refine ay 11 35 (bA 14 4095) aj ?_
     refine oP 12 none (bA 14 8191) aj (fun K hK => ?_)
     refine oD 0 rfl 26 (.tmp 4) (.tmp 34) rfl #[.int .u8 z.f0, .int .i64 z.f1.f0, .int .i64 z.f1.f1, .int .i64 z.f1.f2, .int .i64 z.f1.f3, .int .i64 z.f2, .slice E8 z.f3.length FM] (j := 0) (u := .agg #[.int .u8 z.f0, .int .i64 z.f1.f0, .int .i64 z.f1.f1, .int .i64 z.f1.f2, .int .i64 z.f1.f3, .int .i64 z.f2, .slice E8 z.f3.length FM]) (bK := [.int .u8 z.f0, .int .i64 z.f1.f0, .int .i64 z.f1.f1, .int .i64 z.f1.f2, .int .i64 z.f1.f3, .int .i64 z.f2, .slice E8 z.f3.length FM]) S.out (by rfl) rfl rfl rfl rfl (by kernel_rfl) (by simp [Value.oneCell']) (by simp) rfl ?_
     intro Bz S1
     simp only [List.set_cons_zero, List.set_cons_succ] at S1
     replace S := ae.mk S1
     clear S1
     refine hK.out _ _ ?_
     clear hK K
     refine ay 13 5 (bA 14 16383) aj ?_
     refine jJ (gK aj.out (by kernel_rfl)) ?_
     clear hHeld
     go_wp2
     refine bodyPost_ret (fB rfl _ _ b4 26 _ (0, 0) _ rfl (S.out.blk _ (.head _) _ rfl) Try.underlying26 rfl (by kernel_rfl)) rfl ?_
     exact ⟨_, _, rfl, S.out.WS (.head _), S.out.below⟩
section
variable {W : World} {b : Nat} {P : Nat → Prop} {A B : Option Addr} {cc cb : Nat}
theorem yP (c : ai) (path : List Int) (z : ai) (hz : n_ c path = some z) (hV : Kd.V k26 26 W b P (.slice A c.f3.length cc) c.f3) (hi : Kd.C (Kd.int .i64) W B path.length path) (hb : path.length ≤ cb) :
  Calls Try.prog 92 #[.agg #[.int .u8 c.f0, .int .i64 c.f1.f0, .int .i64 c.f1.f1, .int .i64 c.f1.f2, .int .i64 c.f1.f3, .int .i64 c.f2, .slice A c.f3.length cc], .slice B path.length cb] W fun e w' => ∃ A2 c2, e = .returned (.tuple #[.agg #[.int .u8 z.f0, .int .i64 z.f1.f0, .int .i64 z.f1.f1, .int .i64 z.f1.f2, .int .i64 z.f1.f3, .int .i64 z.f2, .slice A2 z.f3.length c2], .bool true]) ∧ Kd.V k26 26 w' W.heap.size (fun k => P k ∨ W.heap.size ≤ k) (.slice A2 z.f3.length c2) z.f3 ∧ Below W.heap.size W w' := by
 have h := agN path c P A cc B cb W (fK hV) hi hb
 rw [hz] at h
 exact h
end
theorem aaD : ∀ (is : List Int) (c kid : ai) (P : Nat → Prop) (A : Option Addr) (cc : Nat) (Ak : Option Addr) (AY : Nat) (B : Option Addr) (cb : Nat) (w : World), sz c ≤ 1000000 → sz kid ≤ 1000000 →
  Kd.V k26 26 w w.heap.size P (.slice A c.f3.length cc) c.f3 → Kd.V k26 26 w w.heap.size P (.slice Ak kid.f3.length AY) kid.f3 → Kd.C (Kd.int .i64) w B is.length is → is.length ≤ cb → xe kid is c ≠ none →
  Calls Try.prog 102 #[.agg #[.int .u8 c.f0, .int .i64 c.f1.f0, .int .i64 c.f1.f1, .int .i64 c.f1.f2, .int .i64 c.f1.f3, .int .i64 c.f2, .slice A c.f3.length cc], .agg #[.int .u8 kid.f0, .int .i64 kid.f1.f0, .int .i64 kid.f1.f1, .int .i64 kid.f1.f2, .int .i64 kid.f1.f3, .int .i64 kid.f2, .slice Ak kid.f3.length AY], .slice B is.length cb] w (Vq w P (xe kid is c)) := by
 intro is
 induction is with
 | nil =>
  intro c kid P A cc Ak AY B cb w hz Ui hv hvk hi hb _
  show Calls Try.prog 102 #[.agg #[.int .u8 c.f0, .int .i64 c.f1.f0, .int .i64 c.f1.f1, .int .i64 c.f1.f2, .int .i64 c.f1.f3, .int .i64 c.f2, .slice A c.f3.length cc], .agg #[.int .u8 kid.f0, .int .i64 kid.f1.f0, .int .i64 kid.f1.f1, .int .i64 kid.f1.f2, .int .i64 kid.f1.f3, .int .i64 kid.f2, .slice Ak kid.f3.length AY], .slice B 0 cb] w (Vq w P (some kid))
  have S := ae.mk (St.start (ts := [(.slice A c.f3.length cc, c.f3), (.slice Ak kid.f3.length AY, kid.f3)]) (b0 := w.heap.size) (w := w) (P := P) (fun t ht => by
   rcases List.mem_cons.1 ht with rfl | ht
   ·exact hv
   ·rw [List.mem_singleton.1 ht]; exact hvk))
  have HZ := ae.mk hz
  have HZK := ae.mk Ui
  clear hz Ui hv hvk hi hb
  obtain ⟨ck, ⟨cx, cy, cw, ch⟩, aU, l⟩ := c
  obtain ⟨kk, ⟨kx, ky, kw, kh⟩, kid, m⟩ := kid
  simp only [] at S ⊢
  go_enter Try.func102, Try.ntmps102
  go_wp2_with (first
   | (refine boxS 3 _ 26 S ?_; clear S; intro b3 dF S)
   | (refine boxS 4 _ 26 S ?_; clear S; intro b4 dV S)
   | (refine boxS 6 _ 26 S ?_; clear S; intro b6 fV S; obtain ⟨rf, nY, nZ, rq, ru, ry, pK⟩ := St.ed S bI)
   | (refine iF (some 15) Try.func151 (FI 1000000 ⟨kk, ⟨kx, ky, kw, kh⟩, kid, m⟩ HZK.out (Nat.le_refl _) _ Ak AY _ (S.out.tree _ bI)) ?_; rintro e iQ ⟨v, rfl, h1, hb⟩; refine ⟨_, rfl, ?_⟩; obtain ⟨agF, agS, ev⟩ := Kd.jw h1; subst ev; replace S := ae.mk (S.out.yC h1 hb); clear h1 hb; clear rf nY nZ rq ru ry pK)
   | (refine gX 26 6 15 #[.int .u8 kk, .int .i64 kx, .int .i64 ky, .int .i64 kw, .int .i64 kh, .int .i64 kid, .slice agF m.length agS] 0 7 S ?_; clear S; intro mO S)
   | fail)
  refine bodyPost_ret (fB rfl _ _ b6 26 _ (0, 0) _ rfl (S.out.blk _ (.head _) _ rfl) Try.underlying26 rfl (by kernel_rfl)) rfl ?_
  exact ⟨_, _, rfl, S.out.yA, S.out.below⟩
 | cons i is ih =>
  intro c kid P A cc Ak AY B cb w hz Ui hv hvk hi hb hne
  have IH := ae.mk ih
  have HI := ae.mk hi
  have LI := ae.mk hb
  have S := ae.mk (St.start (ts := [(.slice A c.f3.length cc, c.f3), (.slice Ak kid.f3.length AY, kid.f3)]) (b0 := w.heap.size) (w := w) (P := P) (fun t ht => by
   rcases List.mem_cons.1 ht with rfl | ht
   ·exact hv
   ·rw [List.mem_singleton.1 ht]; exact hvk))
  obtain ⟨EP, rfl, xi⟩ := Kd.iR hi 0 (by omega) (by simp)
  rw [show ((0 : Int)).toNat = 0 from rfl, Addr.add_zero'] at xi
  have xi : w.cell? EP = some (.int .i64 i) := xi
  replace S := ae.mk (S.out.yU xi)
  have hlen0 : (0 : Int) < ((is.length : Int) + 1) := by omega
  have hl0 : ((is.length + 1 : Nat) : Int) = (is.length : Int) + 1 := by omega
  have HZ := ae.mk hz
  have HZK := ae.mk Ui
  have CX := ae.mk hne
  clear ih hv hvk hi hb hne xi hz Ui
  simp only [xe] at CX ⊢
  obtain ⟨ck, ⟨cx, cy, cw, ch⟩, aU, l⟩ := c
  obtain ⟨kk, ⟨kx, ky, kw, kh⟩, kid, m⟩ := kid
  simp only [] at S CX ⊢
  simp only [List.length_cons] at HI LI ⊢
  have h0 : ¬ i < 0 := fun h => CX.out (if_pos (.inl h))
  by_cases h1 : i ≥ (l.length : Int)
  ·exact absurd (if_pos (.inr h1)) CX.out
  ·rw [if_neg (fun h => h.elim h0 h1)]
   have hne := CX.out
   rw [if_neg (fun h => h.elim h0 h1)] at hne
   have wO : decide (i < 0) = false := decide_eq_false h0
   have h1b : decide (i ≥ (l.length : Int)) = false := decide_eq_false h1
   have h1c : decide ((l.length : Int) ≤ i) = false := decide_eq_false h1
   have h0z : 0 ≤ i := by omega
   have h1z : i < (l.length : Int) := by omega
   obtain ⟨jS, ua, uc, ek, S1⟩ := S.out.elem (.head _) i h0z h1z
   subst ek
   replace S := ae.mk S1
   have kL := ae.mk (show sz (aA l i) ≤ 1000000 by have := uI (Hr l i h0z h1z); have := HZ.out; rw [cO] at this; simp only [] at this; omega)
   clear S1
   generalize aA l i = k at S kL hne ⊢
   obtain ⟨i0, hi0, _, hsz, _⟩ := info_parts info3
   have hcut := MN (P := Try.prog) 41 3 .i64 Try.underlying41 hi0 1 hsz (some EP) (is.length + 1) cb 1 (by omega) (by omega)
   have hdrop := Kd.RF HI.out (m := 1) (by rw [List.length_cons]; omega) LI.out
   obtain ⟨A2, hA2⟩ : ∃ A2, A2 = (if cb = (1 : Int).toNat then (some EP) else ((some EP) : Option Addr).map (·.add ((1 : Int).toNat * 1))) := ⟨_, rfl⟩
   obtain ⟨c2, hc2⟩ : ∃ c2, c2 = cb - (1 : Int).toNat := ⟨_, rfl⟩
   rw [← hA2, ← hc2, show is.length + 1 - (1 : Int).toNat = is.length by simp] at hcut
   have HI2 := ae.mk (show Kd.C (Kd.int .i64) w A2 is.length is by rw [hA2]; exact hdrop)
   have LI2 := ae.mk (show is.length ≤ c2 by have h3 := LI.out; rw [hc2]; simp; omega)
   have Qc := ae.mk hcut
   clear hdrop hA2 hc2 hi0 hsz hcut h0 h1
   have H0Z := ae.mk h0z
   have H1Z := ae.mk h1z
   cases hp : xe ⟨kk, ⟨kx, ky, kw, kh⟩, kid, m⟩ is k with
   | none => rw [hp] at hne; exact absurd rfl hne
   | some z =>
    have Ju := fun Q W h1 h2 h3 => IH.out k ⟨kk, ⟨kx, ky, kw, kh⟩, kid, m⟩ Q ua uc Ak AY A2 c2 W kL.out HZK.out h1 h2 h3 LI2.out (by rw [hp]; simp)
    simp only [hp] at Ju ⊢
    clear hne
    have hcut := Qc.out
    go_enter Try.func102, Try.ntmps102
    go_wp2_with (first
     | (refine boxS 3 _ 26 S ?_; clear S; intro b3 dF S)
     | (refine boxS 4 _ 26 S ?_; clear S; intro b4 dV S)
     | (refine boxS 6 _ 26 S ?_; clear S; intro b6 fV S; have JW := (S.out.cell _ PG).1; have bC := (S.out.at dQ 6).trans rfl)
     | fail)
    clear JW bC
    refine iU (n := 15) (S := fun w' => St w _ _ _ _ _ w') (ds := [13]) (bA 15 0) (by kernel_rfl) rfl rfl (S.out.call (bJ (Below.refl _ _))) (fun hHeld => ?_); refine eU xU.tab6 xU.Gz (fun aj dY => ?_)
    replace S := ae.mk (S.out.call (bJ (Below.refl _ _)))
    generalize fV.drew = wd4 at S hHeld ⊢
    refine ay 0 30 (bA 15 1) aj ?_
    refine dN 1 31 (bA 15 3) aj dY hHeld ?_ (hv := by intro w' hs_; have bC := (hs_.at dQ 6).trans rfl; go_simp; with_reducible rfl)
    refine ay 2 32 (bA 15 7) aj ?_
    refine ay 3 33 (bA 15 15) aj ?_
    refine dN 4 34 (bA 15 31) aj dY hHeld ?_ (hv := by intro w' hs_; have fZ := (hs_.cell _ (.head _)).1; have iw := (hs_.cell _ bI).1; have jf := (hs_.cell _ dQ).1; have iV := (hs_.cell _ kW).1; have iW := (hs_.cell _ qj).1; have kD := (hs_.cell _ Bh).1; have kE := (hs_.cell _ Bi).1; go_simp; with_reducible rfl)
    refine dN 5 35 (bA 15 63) aj dY hHeld ?_ (hv := by intro w' hs_; have rf := (hs_.at bI 0).trans rfl; have nY := (hs_.at bI 1).trans rfl; have nZ := (hs_.at bI 2).trans rfl; have rq := (hs_.at bI 3).trans rfl; have ru := (hs_.at bI 4).trans rfl; have ry := (hs_.at bI 5).trans rfl; have pK := (hs_.at bI 6).trans rfl; go_simp; with_reducible rfl)
    refine ay 6 36 (bA 15 127) aj ?_
    refine ay 7 37 (bA 15 255) aj ?_
    refine zX (σ := Option Addr × Nat × Nat) 2 (bA 15 8191) (fun s_ => [(38, .tuple #[.agg #[.int .u8 z.f0, .int .i64 z.f1.f0, .int .i64 z.f1.f1, .int .i64 z.f1.f2, .int .i64 z.f1.f3, .int .i64 z.f2, .slice s_.1 z.f3.length s_.2.1], .bool true]), (29, .tuple #[.agg #[.int .u8 z.f0, .int .i64 z.f1.f0, .int .i64 z.f1.f1, .int .i64 z.f1.f2, .int .i64 z.f1.f3, .int .i64 z.f2, .slice s_.1 z.f3.length s_.2.1], .bool true]), (39, .agg #[.int .u8 z.f0, .int .i64 z.f1.f0, .int .i64 z.f1.f1, .int .i64 z.f1.f2, .int .i64 z.f1.f3, .int .i64 z.f2, .slice s_.1 z.f3.length s_.2.1]), (40, .bool true), (9, .pointer (some ⟨s_.2.2, 0, none⟩))]) (fun s_ w' => St w P [(some s_.2.2, .cells #[.int .u8 0, .int .i64 0, .int .i64 0, .int .i64 0, .int .i64 0, .int .i64 0, .slice none 0 0] 26 (0, 0)), (some b6, .cells #[.int .u8 0, .int .i64 0, .int .i64 0, .int .i64 0, .int .i64 0, .int .i64 0, .slice none 0 0] 26 (0, 0)), (some b4, .cells #[.int .u8 kk, .int .i64 kx, .int .i64 ky, .int .i64 kw, .int .i64 kh, .int .i64 kid, .slice Ak m.length AY] 26 (0, 0)), (some b3, .cells #[.int .u8 ck, .int .i64 cx, .int .i64 cy, .int .i64 cw, .int .i64 ch, .int .i64 aU, .slice (some jS) l.length cc] 26 (0, 0))] [] [(.slice s_.1 z.f3.length s_.2.1, z.f3), (.slice ua k.f3.length uc, k.f3), (.slice (some jS) l.length cc, l), (.slice Ak m.length AY, m)] [((jS.add (i.toNat * 7)), .int .u8 k.f0), (⟨(jS.add (i.toNat * 7)).block, (jS.add (i.toNat * 7)).off + 1, none⟩, .int .i64 k.f1.f0), (⟨(jS.add (i.toNat * 7)).block, (jS.add (i.toNat * 7)).off + 2, none⟩, .int .i64 k.f1.f1), (⟨(jS.add (i.toNat * 7)).block, (jS.add (i.toNat * 7)).off + 3, none⟩, .int .i64 k.f1.f2), (⟨(jS.add (i.toNat * 7)).block, (jS.add (i.toNat * 7)).off + 4, none⟩, .int .i64 k.f1.f3), (⟨(jS.add (i.toNat * 7)).block, (jS.add (i.toNat * 7)).off + 5, none⟩, .int .i64 k.f2), (⟨(jS.add (i.toNat * 7)).block, (jS.add (i.toNat * 7)).off + 6, none⟩, .slice ua k.f3.length uc), (EP, .int .i64 i)] w') ?_ ?_
    rotate_left
    ·intro kS
     refine Eg (i := 8) (j := 12) (Ni := some 38) (Nj := some 9) (bA 15 511) (bA 15 4351) rfl rfl rfl rfl (yg aj.out (by kernel_rfl)) (by decide) (by decide) (fun K hK => ?_) (fun K hK => ?_)
     ·skip
      refine zW Try.func102 #[.agg #[.int .u8 k.f0, .int .i64 k.f1.f0, .int .i64 k.f1.f1, .int .i64 k.f1.f2, .int .i64 k.f1.f3, .int .i64 k.f2, .slice ua k.f3.length uc], .agg #[.int .u8 kk, .int .i64 kx, .int .i64 ky, .int .i64 kw, .int .i64 kh, .int .i64 kid, .slice Ak m.length AY], .slice A2 is.length c2] ?_
      refine (Ju _ _ (fK (S.out.tree _ (.head _))) (fK (S.out.tree _ dQ)) (Kd.gV HI2.out S.out.below)).mono ?_
      rintro e mO ⟨E_, FN, rfl, h1, hb⟩
      refine ⟨_, rfl, ?_⟩
      replace S := ae.mk (S.out.res (Kd.qL (base' := 0) h1) hb)
      clear h1 hb
      refine hK.out _ _ S.out.dE (fun hHeld => ?_)
      clear hK K
      refine d_ 38 ?_
      refine ay 9 29 (bA 15 1023) aj ?_
      refine ay 10 39 (bA 15 2047) aj ?_
      refine ay 11 40 (bA 15 4095) aj ?_
      refine jH 12 (some 9) (bA 15 8191) aj (fun K hK => ?_)
      refine jF ?hg (N := 9) ?hd (cs := #[.int .u8 0, .int .i64 0, .int .i64 0, .int .i64 0, .int .i64 0, .int .i64 0, .slice none 0 0]) (t := 26) ?hr ?_; (case hd => rfl); (case hg => rfl); (case hr => first | (go_simp; done) | (go_simp; rfl))
      intro b9 hg Bz hbox hb
      replace S := ae.mk (S.out.box hg hbox hb)
      clear hg hbox hb
      refine hK.out _ _ S.out.dP.dE (fun hHeld => ?_)
      clear hK K
      refine d_ 9 ?_
      exact l_ (by simp only [iL, Act.put, List.setIfInBounds_toArray, List.set_cons_zero, List.set_cons_succ] <;> rfl) (kS (E_, FN, b9) _ S.out)
     ·skip
      refine jF ?hg (N := 9) ?hd (cs := #[.int .u8 0, .int .i64 0, .int .i64 0, .int .i64 0, .int .i64 0, .int .i64 0, .slice none 0 0]) (t := 26) ?hr ?_; (case hd => rfl); (case hg => rfl); (case hr => first | (go_simp; done) | (go_simp; rfl))
      intro b9 hg yH hbox hb
      replace S := ae.mk (S.out.box hg hbox hb)
      clear hg hbox hb
      refine hK.out _ _ S.out.dP (fun hHeld => ?_)
      clear hK K
      refine d_ 9 ?_
      refine jH 8 (some 38) (bA 15 4607) aj (fun K hK => ?_)
      refine zW Try.func102 #[.agg #[.int .u8 k.f0, .int .i64 k.f1.f0, .int .i64 k.f1.f1, .int .i64 k.f1.f2, .int .i64 k.f1.f3, .int .i64 k.f2, .slice ua k.f3.length uc], .agg #[.int .u8 kk, .int .i64 kx, .int .i64 ky, .int .i64 kw, .int .i64 kh, .int .i64 kid, .slice Ak m.length AY], .slice A2 is.length c2] ?_
      refine (Ju _ _ (fK (S.out.tree _ (.head _))) (fK (S.out.tree _ dQ)) (Kd.gV HI2.out S.out.below)).mono ?_
      rintro e zL ⟨E_, FN, rfl, h1, hb⟩
      refine ⟨_, rfl, ?_⟩
      replace S := ae.mk (S.out.res (Kd.qL (base' := 0) h1) hb)
      clear h1 hb
      refine hK.out _ _ S.out.dP.dE (fun hHeld => ?_)
      clear hK K
      refine d_ 38 ?_
      refine ay 9 29 (bA 15 5119) aj ?_
      refine ay 10 39 (bA 15 6143) aj ?_
      refine ay 11 40 (bA 15 8191) aj ?_
      exact l_ (by simp only [iL, Act.put, List.setIfInBounds_toArray, List.set_cons_zero, List.set_cons_succ] <;> rfl) (kS (E_, FN, b9) _ S.out)
    rintro ⟨E_, FN, b9⟩ wj9 S1
    simp only [iL, Act.put, List.setIfInBounds_toArray, List.set_cons_zero, List.set_cons_succ]
    replace S := ae.mk S1
    clear S1 hHeld
    have hHeld := S.out.dP.dE
    refine oP 13 none (bA 15 16383) aj (fun K hK => ?_)
    refine oD 0 rfl 26 (.tmp 9) (.tmp 39) rfl #[.int .u8 z.f0, .int .i64 z.f1.f0, .int .i64 z.f1.f1, .int .i64 z.f1.f2, .int .i64 z.f1.f3, .int .i64 z.f2, .slice E_ z.f3.length FN] (j := 0) (u := .agg #[.int .u8 z.f0, .int .i64 z.f1.f0, .int .i64 z.f1.f1, .int .i64 z.f1.f2, .int .i64 z.f1.f3, .int .i64 z.f2, .slice E_ z.f3.length FN]) (bK := [.int .u8 z.f0, .int .i64 z.f1.f0, .int .i64 z.f1.f1, .int .i64 z.f1.f2, .int .i64 z.f1.f3, .int .i64 z.f2, .slice E_ z.f3.length FN]) S.out (by rfl) rfl rfl rfl rfl (by kernel_rfl) (by simp [Value.oneCell']) (by first | decide | simp) rfl ?_
    intro AB S1
    simp only [List.set_cons_zero, List.set_cons_succ] at S1
    replace S := ae.mk S1
    clear S1
    refine hK.out _ _ ?_
    clear hK K
    refine ay 14 10 (bA 15 32767) aj ?_
    refine jJ (gK aj.out (by kernel_rfl)) ?_
    clear hHeld
    obtain ⟨a_, aW, aY, aX, bM, bP, bC⟩ := St.ed S kW
    go_wp2_with (first
     | (refine iF (some 45) Try.func151 (FI 1000000 ⟨ck, ⟨cx, cy, cw, ch⟩, aU, l⟩ HZ.out (Nat.le_refl _) _ (some jS) cc _ (fK (S.out.tree _ dQ))) ?_; rintro e Oq ⟨v, rfl, h1, hb⟩; refine ⟨_, rfl, ?_⟩; obtain ⟨g45, XV, ev, _⟩ := Kd.xJ h1 (by have := H1Z.out; have := H0Z.out; simp only []; omega); subst ev; replace S := ae.mk (S.out.yC h1 hb); clear h1 hb; clear a_ aW aY aX bM bP bC)
     | (refine Xa 26 3 45 #[.int .u8 ck, .int .i64 cx, .int .i64 cy, .int .i64 cw, .int .i64 ch, .int .i64 aU, .slice (some ⟨g45, 0, none⟩) l.length XV] 0 7 S ?_; clear S; intro aev S; obtain ⟨l9, qx, mY, qy, vX, vY, sW⟩ := St.ed S (.head _); have bC := (S.out.at kW 6).trans rfl)
     | ((with_reducible refine lH (.store 26 (.tmp 50) (.tmp 49)) rfl ?_); go_loud (refine aej i z (.tmp 50) (.tmp 49) rfl S.out H0Z.out H1Z.out ?sA ?sX (by kernel_rfl) (.head _) rfl rfl ?_; (case sA => first | rfl | (go_simp; rfl)); (case sX => rfl); intro aew S1; replace S := ae.mk S1; clear S1); clear l9 qx mY qy vX vY sW bC; obtain ⟨a_, aW, aY, aX, bM, bP, bC⟩ := St.ed S kW)
     | (refine Aw 26 6 51 #[.int .u8 ck, .int .i64 cx, .int .i64 cy, .int .i64 cw, .int .i64 ch, .int .i64 aU, .slice (some ⟨g45, 0, none⟩) l.length XV] 0 7 S ?_; clear S; intro aex S; clear a_ aW aY aX bM bP bC)
     | fail)
    refine bodyPost_ret (fB rfl _ _ b6 26 _ (0, 0) _ rfl (S.out.blk _ bI _ rfl) Try.underlying26 rfl (by kernel_rfl)) rfl ?_
    simp only [Vq, List.length_set]
    exact ⟨_, _, rfl, S.out.yA, S.out.below⟩
def aaT.T5 : Bool × List (List Nat × List Nat) := (true, [([], []), ([0], [0]), ([], []), ([2], [2]), ([3], [3]), ([1, 4], [1, 4]), ([5], [5]), ([], []), ([], []), ([8], [8]), ([6, 7, 9], [6, 7, 9]), ([10], [10]), ([11], [11]), ([11], [11]), ([], []), ([14, 12, 10, 0, 1, 2, 3, 4, 5, 6, 7, 8, 9, 10, 11, 12, 14], [12, 14]), ([13, 15, 0, 1, 2, 3, 4, 5, 6, 7, 8, 9, 10, 11, 12, 13, 14, 15], [13])])
def aaT.B5 : List Nat := [0, 1, 0, 4, 12, 31, 63, 0, 0, 256, 1023, 2047, 4095, 4095, 0, 24575, 65535]
def aaU.T9 : Bool × List (List Nat × List Nat) := (true, [([], []), ([], []), ([1], [1]), ([2], [2]), ([], []), ([0, 3, 0, 1, 2, 3, 4], [0, 3]), ([5, 4, 0, 1, 2, 3, 4], [4, 5])])
def aaU.B9 : List Nat := [0, 0, 2, 6, 0, 31, 63]
section
variable {W : World} {b b' : Nat} {P : Nat → Prop} {A A' B : Option Addr} {cc cc' cb : Nat}
theorem Ya (c kid : ai) (path : List Int) (z : ai) (hz : xe kid path c = some z) (hc : sz c ≤ 1000000) (hk : sz kid ≤ 1000000) (hV : Kd.V k26 26 W b P (.slice A c.f3.length cc) c.f3) (hV' : Kd.V k26 26 W b' P (.slice A' kid.f3.length cc') kid.f3) (hi : Kd.C (Kd.int .i64) W B path.length path) (hb : path.length ≤ cb) :
  Calls Try.prog 102 #[.agg #[.int .u8 c.f0, .int .i64 c.f1.f0, .int .i64 c.f1.f1, .int .i64 c.f1.f2, .int .i64 c.f1.f3, .int .i64 c.f2, .slice A c.f3.length cc], .agg #[.int .u8 kid.f0, .int .i64 kid.f1.f0, .int .i64 kid.f1.f1, .int .i64 kid.f1.f2, .int .i64 kid.f1.f3, .int .i64 kid.f2, .slice A' kid.f3.length cc'], .slice B path.length cb] W fun e w' => ∃ A2 c2, e = .returned (.tuple #[.agg #[.int .u8 z.f0, .int .i64 z.f1.f0, .int .i64 z.f1.f1, .int .i64 z.f1.f2, .int .i64 z.f1.f3, .int .i64 z.f2, .slice A2 z.f3.length c2], .bool true]) ∧ Kd.N k26 26 w' W.heap.size (fun k => P k ∨ W.heap.size ≤ k) (.slice A2 z.f3.length c2) z.f3 ∧ Below W.heap.size W w' := by
 have h := aaD path c kid P A cc A' cc' B cb W hc hk (fK hV) (fK hV') hi hb (by rw [hz]; simp)
 rw [hz] at h
 exact h
theorem S_ (id : Int) (c : ai) (r : Option (List Int)) (h : fO id c = r) (hc : sz c ≤ 1000000) (hV : Kd.V k26 26 W b P (.slice A c.f3.length cc) c.f3) :
  Calls Try.prog 89 #[.agg #[.int .u8 c.f0, .int .i64 c.f1.f0, .int .i64 c.f1.f1, .int .i64 c.f1.f2, .int .i64 c.f1.f3, .int .i64 c.f2, .slice A c.f3.length cc], .int .i64 id] W (yL W (r.getD []) r.isSome) := by
 have h2 := Kd.kP hV
 refine (acU id 1000000 c hc (Nat.le_refl _) A cc W h2.2.2 h2.2.1).mono (fun e w' ⟨v, he, hR, hB⟩ => ?_)
 rw [h] at he hR
 obtain ⟨A2, c2, rfl⟩ := Kd.gJ hR
 exact ⟨A2, c2, he, hR, hB⟩
theorem Jz (id : Int) (c : ai) (p : List Int) (h : fO id c = some p) (hc : sz c ≤ 1000000) (hV : Kd.V k26 26 W b P (.slice A c.f3.length cc) c.f3) :
  Calls Try.prog 89 #[.agg #[.int .u8 c.f0, .int .i64 c.f1.f0, .int .i64 c.f1.f1, .int .i64 c.f1.f2, .int .i64 c.f1.f3, .int .i64 c.f2, .slice A c.f3.length cc], .int .i64 id] W (yL W p true) := S_ id c (some p) h hc hV
theorem YS (id : Int) (c : ai) (h : fO id c = none) (hc : sz c ≤ 1000000) (hV : Kd.V k26 26 W b P (.slice A c.f3.length cc) c.f3) :
  Calls Try.prog 89 #[.agg #[.int .u8 c.f0, .int .i64 c.f1.f0, .int .i64 c.f1.f1, .int .i64 c.f1.f2, .int .i64 c.f1.f3, .int .i64 c.f2, .slice A c.f3.length cc], .int .i64 id] W (yL W [] false) := S_ id c none h hc hV
theorem PN (id : Int) (c : ai) (r : Option (List Int)) (h : fO id c = r) (hc : sz c ≤ 1000000) (hV : Kd.V k26 26 W b P (.slice A c.f3.length cc) c.f3) :
  Calls Try.prog 90 #[.agg #[.int .u8 c.f0, .int .i64 c.f1.f0, .int .i64 c.f1.f1, .int .i64 c.f1.f2, .int .i64 c.f1.f3, .int .i64 c.f2, .slice A c.f3.length cc], .int .i64 id] W (yL W (r.getD []) r.isSome) := by
 have h2 := aaJ id 1000000 c hc (Nat.le_refl _) b P A cc W hV
 rwa [h] at h2
theorem Hw (id : Int) (c : ai) (p : List Int) (h : fO id c = some p) (hc : sz c ≤ 1000000) (hV : Kd.V k26 26 W b P (.slice A c.f3.length cc) c.f3) :
  Calls Try.prog 90 #[.agg #[.int .u8 c.f0, .int .i64 c.f1.f0, .int .i64 c.f1.f1, .int .i64 c.f1.f2, .int .i64 c.f1.f3, .int .i64 c.f2, .slice A c.f3.length cc], .int .i64 id] W (yL W p true) := PN id c (some p) h hc hV
theorem Xh (id : Int) (c : ai) (h : fO id c = none) (hc : sz c ≤ 1000000) (hV : Kd.V k26 26 W b P (.slice A c.f3.length cc) c.f3) :
  Calls Try.prog 90 #[.agg #[.int .u8 c.f0, .int .i64 c.f1.f0, .int .i64 c.f1.f1, .int .i64 c.f1.f2, .int .i64 c.f1.f3, .int .i64 c.f2, .slice A c.f3.length cc], .int .i64 id] W (yL W [] false) := PN id c none h hc hV
end
theorem aed {kid x : ai} : ∀ (path : List Int) (c : ai), n_ c path = some x → ∃ z, xe kid path c = some z := by
 intro path
 induction path with
 | nil => intro c _; exact ⟨kid, rfl⟩
 | cons i is ih =>
  intro c h
  simp only [n_] at h
  split at h
  ·cases h
  ·rename_i hi
   obtain ⟨z, hz⟩ := ih _ h
   refine ⟨⟨c.f0, c.f1, c.f2, c.f3.set i.toNat z⟩, ?_⟩
   simp only [xe]
   rw [if_neg hi, hz]
section
variable {Pr : Program} {ops : Array Oper} {rest : List Oper} {op : Oper} {a : Act} {Q : Exit → Act → World → Prop} {w W : World} {P : Nat → Prop} {bs : List (Option Nat × Obj)} {ow : List (Value × List ai)} {ts : List (Value × List ai)} {ro : List (Addr × Value)}
theorem Ey (N : Option Tmp) {f : FuncId} {fn : Func} (hf : Pr.funcs[f]? = some fn) {ar : Array Operand} {Eh : Array TypeId} {args : Array Value} {l : List Int} {F : Option Addr → Nat → Value} (S : ae (St w P bs ow ts ro W))
  (hc : Calls Pr f args W fun e w' => ∃ A c, e = .returned (F A c) ∧ (Kd.int .i64).R 3 w' W.heap.size (fun _ => True) (.slice A l.length c) l ∧ Below W.heap.size W w')
  (h : ∀ A c o w1, ae (St w P (((Value.slice A l.length c).ownBlock, o) :: bs) ow ts ro w1) → ae (IR w.heap.size (.slice A l.length c) l o) → wpList Pr ops Q rest (a.put N (F A c)) w1) (hd : op.dst = N := by rfl) (hg : op.guard = none := by rfl) (hop : op.op = .call { callee := .value (.func f), args := ar, argTypes := Eh } := by rfl)
  (hname : (fn.name == "runtime.NumGoroutine") = false := by kernel_rfl) (hb : fn.body.isSome = true := by rfl) (hargs : ar.map a.eval = args := by ((try simp only [List.map_toArray, List.map_cons, List.map_nil]); first | done | rfl)) : wpList Pr ops Q (op :: rest) a W :=
 mM N hd hg hf hname hb args hop hargs (hc.mono fun e w1 ⟨A, c, he, h1, hb⟩ => by
  obtain ⟨o, S1, HI⟩ := S.out.Xg h1 hb
  exact ⟨_, he, h A c o w1 ⟨S1⟩ ⟨HI⟩⟩)
end
section
variable {base : Nat} {W : World} {A : Option Addr} {c : Nat} {l : List Int} {o : Obj} {w : World} {P : Nat → Prop} {bs : List (Option Nat × Obj)} {ow : List (Value × List ai)} {ts : List (Value × List ai)} {ro : List (Addr × Value)}
theorem Fh (HI : IR base (.slice A l.length c) l o) (S : St w P bs ow ts ro W) (hm : ((Value.slice A l.length c).ownBlock, o) ∈ bs) : Kd.C (Kd.int .i64) W A l.length l ∧ l.length ≤ c :=
 have h := Kd.dO (HI W (S.blk _ hm))
 ⟨h.2.2, h.2.1⟩
theorem eQ {q : List Int} {m : Nat} (HI : IR base (.slice A l.length c) l o) (S : St w P bs ow ts ro W) (hm : ((Value.slice A l.length c).ownBlock, o) ∈ bs) (hq : q = l.take m ∧ m ≤ l.length) : Kd.C (Kd.int .i64) W A q.length q ∧ q.length ≤ c := by
 obtain ⟨h1, h2⟩ := Fh HI S hm
 rw [hq.1]
 exact ⟨Kd.abo h1 hq.2, by rw [List.length_take]; omega⟩
end
section
end
theorem St.join {w W W1 : World} {P : Nat → Prop} {bs : List (Option Nat × Obj)} {ts : List (Value × List ai)} {ro : List (Addr × Value)} {k : Option Nat} {o : Obj} {v : Value} {l : List ai} (S : St w P bs [] ts ro W) (T : St W (Ok w P (keys bs [])) [(k, o)] [(v, l)] [] [] W1) : St w P ((k, o) :: bs) [(v, l)] ts ro W1 := by
 have ke : ∀ x, x ∈ keys ((k, o) :: bs) [(v, l)] ↔ x ∈ keys [(k, o)] [(v, l)] ∨ x ∈ keys bs [] := fun x => by
  unfold keys
  simp only [List.filterMap_cons, List.filterMap_nil, List.flatMap_cons, List.flatMap_nil, List.append_nil]
  cases k <;> cases v.ownBlock <;> simp [or_comm, or_assoc]
 have hb : Below W.heap.size W W1 := T.below
 have hold : ∀ x, x ∈ keys bs [] → x < W.heap.size := fun x hx => S.lt hx
 have hnew : ∀ x, x ∈ keys [(k, o)] [(v, l)] → W.heap.size ≤ x := fun x hx => (T.new x hx).1
 refine ⟨ak S.below hb, fun p hp g hg => ?_, fun x hx => ?_, ?_, fun t ht => ?_, fun r hr => ?_, fun c hc => ?_⟩
 ·rcases List.mem_cons.1 hp with rfl | hp
  ·exact T.blk _ List.mem_cons_self g hg
  ·exact aJ (S.blk p hp g hg) hb
 ·rcases (ke x).1 hx with h | h
  ·exact ⟨Nat.le_trans S.below.size (hnew x h), (T.new x h).2⟩
  ·exact ⟨(S.new x h).1, Nat.lt_of_lt_of_le (S.new x h).2 hb.size⟩
 ·have h1 := T.nd
  have h2 := S.nd
  have e : keys ((k, o) :: bs) [(v, l)] = (k.toList ++ bs.filterMap (·.1)) ++ v.ownBlock.toList := by
   unfold keys
   simp only [List.filterMap_cons, List.flatMap_cons, List.flatMap_nil, List.append_nil]
   cases k <;> cases v.ownBlock <;> rfl
  have e1 : keys [(k, o)] [(v, l)] = k.toList ++ v.ownBlock.toList := by
   unfold keys
   simp only [List.filterMap_cons, List.filterMap_nil, List.flatMap_cons, List.flatMap_nil, List.append_nil]
   cases k <;> cases v.ownBlock <;> rfl
  have e2 : keys bs [] = bs.filterMap (·.1) := by unfold keys; simp
  rw [e1] at h1 hnew
  rw [e2] at h2 hold
  rw [e]
  obtain ⟨a1, a2, a3⟩ := List.nodup_append.1 h1
  refine List.nodup_append.2 ⟨List.nodup_append.2 ⟨a1, h2, fun x hx y hy => ?_⟩, a2, fun x hx y hy => ?_⟩
  ·rintro rfl
   have := hold x hy
   have := hnew x (List.mem_append_left _ hx)
   omega
  ·rcases List.mem_append.1 hx with hx | hx
   ·exact a3 x hx y hy
   ·rintro rfl
    have := hold x hx
    have := hnew x (List.mem_append_right _ hy)
    omega
 ·exact Kd.gu (Kd.ja (Kd.Ep (S.tree t ht)) hb) (fun x h => ⟨h.1.1, fun hk => by
   rcases (ke x).1 hk with h2 | h2
   ·have := hnew x h2; have := h.2; omega
   ·exact h.1.2 h2⟩)
 ·rw [List.mem_singleton] at hr
  subst hr
  refine Kd.iH (Kd.uY (T.own _ (List.mem_singleton.2 rfl)) S.below.size) (fun x h => Or.imp (fun h => ⟨?_, fun hk => ?_⟩) id h)
  ·rcases h.1 with h1 | h1
   ·exact h1.1
   ·exact .inr (Nat.le_trans S.below.size h1)
  ·rcases (ke x).1 hk with h2 | h2
   ·exact h.2 h2
   ·rcases h.1 with h1 | h1
    ·exact h1.2 h2
    ·have := hold x h2; omega
 ·have hlt := World.block_lt_of_cell? W _ (S.cell c hc).1
  exact ⟨(hb.cell hlt).trans (S.cell c hc).1, fun hk => by
   rcases (ke _).1 hk with h2 | h2
   ·have := hnew _ h2; omega
   ·exact (S.cell c hc).2 h2⟩
end Go.Proofs.Ytfdmfgaiblfbhaa.P
namespace Go.Proofs.Ytfdmfgaiblfbhaa.Pure
open Go.RowKit Go.Proofs.Ytfdmfgaiblfbhaa.P Go.Proofs.ag.aK Go.Proofs.ag.bG Go.Proofs.ag.bV
theorem JY : ∀ (a b : List ai), eF (a ++ b) = true → eF b = true := by
 intro a
 induction a with
 | nil => intro b h; exact h
 | cons x xs ih =>
  intro b h
  rw [List.cons_append] at h
  simp only [eF, Bool.and_eq_true] at h
  exact ih b h.2
theorem JZ (a b : List ai) (h : eF (a ++ b) = true) : eF a = true := by
 cases ha : eF a with
 | true => rfl
 | false => rw [yz a b ha] at h; cases h
theorem aay {c x : ai} (h : kU c = true) (hx : x ∈ c.f3) : kU x = true := by
 have hs := ny h
 have hok := oZ h
 have h1 := HY hx
 have h2 := cO c
 have hd : eF (lT c) = true := by
  unfold kU at h
  simp only [Bool.and_eq_true] at h
  exact h.2.2
 unfold kU
 rw [decide_eq_true (by omega), I4 hok hx, Bool.true_and, Bool.true_and]
 obtain ⟨p, q, e⟩ := List.append_of_mem hx
 have e2 : fG c = (c :: allL p) ++ (fG x ++ allL q) := by rw [pV, e, BH, lF]; rfl
 unfold lT at hd ⊢
 rw [e2, List.filter_append, List.filter_append] at hd
 exact JZ _ _ (JY _ _ hd)
theorem yf {c x : ai} (h : di c = true) (hx : x ∈ c.f3) : di x = true := by
 have hm := kH h
 unfold di at h ⊢
 simp only [Bool.and_eq_true] at h
 rw [aay hm hx, AA h.2 hx]
 rfl
theorem iT {ax : Int} (hax : ax = 1 ∨ ax = 2) {c : ai} (h : di c = true) : az ax c = aV ax c.f1 - b_ ax c ∧ 0 ≤ aV ax c.f1 - b_ ax c ∧ 1 ≤ b_ ax c ∧ aV ax c.f1 ≤ 10000 := by
 have hm := kH h
 have hB : kG c = true := by
  unfold di at h
  simp only [Bool.and_eq_true] at h
  exact h.2
 have f := BV hax (sz c) c (Nat.le_refl _) (ny hm) (oZ hm)
 have g := f.2 hB
 have r := nz (tJ (nD (oZ hm))) hax
 unfold az
 rw [if_pos ⟨hax, h⟩, wq (by omega) (by omega)]
 omega
end Go.Proofs.Ytfdmfgaiblfbhaa.Pure
namespace Go.Proofs.Ytfdmfgaiblfbhaa.P
open Go.RowKit Go.Proofs.ag.aK Go.Proofs.ag.bG Go.Proofs.ag.bV
theorem JU {c : ai} (hk : c.f0 = 2 ∨ c.f0 = 3) : je c = c.f3.map (fun k => aV (c.f0 - 1) k.f1) := by
 unfold je
 apply List.map_congr_left
 intro k _
 unfold szK qo aV
 rcases hk with h | h
 ·rw [if_pos h, if_pos (by omega)]
 ·rw [if_neg (by omega), if_neg (by omega), if_pos (by omega)]
theorem PV {a : Int} (ha : a = 2 ∨ a = 3) (r : dD) : tX (a - 1) r.f2 r.f3 = aV (a - 1) r ∧ tX (a - 1) r.f3 r.f2 = aV (4 - a) r := by
 rcases ha with h | h <;> simp [tX, aV, h]
theorem YO (c : ai) (hk : c.f0 = 2 ∨ c.f0 = 3) (hm : jU c.f1 = true) (hl : c.f3.length ≤ 20000) (hne : 0 < c.f3.length) (hs : (c.f3.map (fun k => aV (c.f0 - 1) k.f1)).sum + (c.f3.length : Int) - 1 = aV (c.f0 - 1) c.f1) (hp : ∀ k, k ∈ c.f3 → 1 ≤ aV (c.f0 - 1) k.f1) : (yx c).2.2 = true := by
 have ha : yG c.f0 = c.f0 - 1 := by unfold yG; omega
 have hax : yG c.f0 = 1 ∨ yG c.f0 = 2 := by omega
 have hlen : (je c).length = c.f3.length := by simp [je]
 have hm' : pz c.f1.f0 c.f1.f1 c.f1.f2 c.f1.f3 = true := hm
 have hsz := JU hk
 exact YM hax hm' (fun e => by rw [e] at hlen; simp at hlen; omega) (by rw [hlen, hsz, ha, (PV hk c.f1).1]; omega) (fun m hm => by
  rw [hsz] at hm
  obtain ⟨k, hk2, rfl⟩ := List.mem_map.1 hm
  exact hp k hk2)
theorem UY (a X Y W H : Int) (ha : a = 2 ∨ a = 3) (hX : 0 ≤ X ∧ X ≤ 10000) (hY : 0 ≤ Y ∧ Y ≤ 10000) : ∀ (l : List ai) (off : Int), 0 ≤ off → off + (l.map (fun k => aV (a - 1) k.f1)).sum + (l.length : Int) ≤ 1000000 →
  (∀ k, k ∈ l → 1 ≤ aV (a - 1) k.f1 ∧ aV (4 - a) k.f1 = tX (a - 1) H W) →
  su (fun k r => qG k.f1 r) (jo a l (if a = 2 then X + off else X) (if a = 2 then Y else Y + off)) (yw (a - 1) X Y W H off (l.map (fun k => aV (a - 1) k.f1))) = true := by
 intro l
 induction l with
 | nil => intro off _ _ _; rw [lW]; rfl
 | cons k ks ih =>
  intro off h0 hs hk
  have h1 := hk k (by simp)
  have hp := I8 (ks.map (fun k => aV (a - 1) k.f1)) (fun m hm => by
   obtain ⟨q, hq, rfl⟩ := List.mem_map.1 hm
   exact (hk q (by simp [hq])).1)
  rw [List.length_map] at hp
  rw [List.map_cons, List.sum_cons, List.length_cons] at hs
  have e := ih (off + aV (a - 1) k.f1 + 1) (by omega) (by omega) (fun q hq => hk q (by simp [hq]))
  have hb : off + aV (a - 1) k.f1 ≤ 1000000 := by omega
  rw [nC, List.map_cons]
  simp only [yw, su, Bool.and_eq_true]
  rcases ha with rfl | rfl
  ·have hx : zI 2 k (X + off) = X + (off + aV (2 - 1) k.f1 + 1) := by
    simp only [zI, aV] at h1 hb ⊢
    simp at h1 hb ⊢
    rw [wp (x := k.f1.f2 + 1) (by omega) (by omega), wp (by omega) (by omega)]
    omega
   refine ⟨D7.2 ?_, ?_⟩
   ·rw [lD]
    simp [tX, aV] at h1 ⊢
    exact h1.2
   ·simp only [if_true] at e ⊢
    rw [hx]
    exact e
  ·have hy : zJ 3 k (Y + off) = Y + (off + aV (3 - 1) k.f1 + 1) := by
    simp only [zJ, aV] at h1 hb ⊢
    simp at h1 hb ⊢
    rw [wp (x := k.f1.f3 + 1) (by omega) (by omega), wp (by omega) (by omega)]
    omega
   refine ⟨D7.2 ?_, ?_⟩
   ·rw [lD]
    simp [tX, aV] at h1 ⊢
    exact h1.2
   ·simp only [show ¬ ((3 : Int) = 2) by decide, if_false] at e ⊢
    rw [hy]
    exact e
theorem aek (a : Int) (r : dD) (ha : a = 2 ∨ a = 3) (hr : jU r = true) : ∀ (l : List ai) (off : Int), 0 ≤ off → off + (l.map (fun k => aV (a - 1) k.f1)).sum + (l.length : Int) - 1 ≤ aV (a - 1) r →
  (∀ k, k ∈ l → 1 ≤ aV (a - 1) k.f1 ∧ aV (4 - a) k.f1 = aV (4 - a) r) →
  ∀ z, z ∈ jo a l (if a = 2 then r.f0 + off else r.f0) (if a = 2 then r.f1 else r.f1 + off) → ∃ k, k ∈ l ∧ ∃ x y, z = dA k x y ∧ jU ⟨x, y, k.f1.f2, k.f1.f3⟩ = true := by
 have hm := vz.1 hr
 intro l
 induction l with
 | nil => intro off _ _ _ z hz; rw [lW] at hz; cases hz
 | cons k ks ih =>
  intro off h0 hs hk z hz
  have h1 := hk k (by simp)
  have hp := I8 (ks.map (fun k => aV (a - 1) k.f1)) (fun m hm => by
   obtain ⟨q, hq, rfl⟩ := List.mem_map.1 hm
   exact (hk q (by simp [hq])).1)
  rw [List.length_map] at hp
  rw [List.map_cons, List.sum_cons, List.length_cons] at hs
  have hb : off + aV (a - 1) k.f1 ≤ aV (a - 1) r := by omega
  rw [nC] at hz
  rcases List.mem_cons.1 hz with rfl | hz
  ·refine ⟨k, by simp, _, _, rfl, vz.2 ?_⟩
   rcases ha with rfl | rfl
   ·simp [aV] at h1 hb hm ⊢
    omega
   ·simp [aV] at h1 hb hm ⊢
    omega
  ·have e : ∃ q, q ∈ ks ∧ ∃ x y, z = dA q x y ∧ jU ⟨x, y, q.f1.f2, q.f1.f3⟩ = true := by
    refine ih (off + aV (a - 1) k.f1 + 1) (by omega) (by omega) (fun q hq => hk q (by simp [hq])) z ?_
    rcases ha with rfl | rfl
    ·have hx : zI 2 k (r.f0 + off) = r.f0 + (off + aV (2 - 1) k.f1 + 1) := by
      simp [zI, aV] at h1 hb hm ⊢
      rw [wp (x := k.f1.f2 + 1) (by omega) (by omega), wp (by omega) (by omega)]
      omega
     simp only [if_true] at hz ⊢
     rw [hx] at hz
     exact hz
    ·have hy : zJ 3 k (r.f1 + off) = r.f1 + (off + aV (3 - 1) k.f1 + 1) := by
      simp [zJ, aV] at h1 hb hm ⊢
      rw [wp (x := k.f1.f3 + 1) (by omega) (by omega), wp (by omega) (by omega)]
      omega
     simp only [show ¬ ((3 : Int) = 2) by decide, if_false] at hz ⊢
     rw [hy] at hz
     exact hz
   obtain ⟨q, hq, e⟩ := e
   exact ⟨q, by simp [hq], e⟩
def xn (c : ai) : Prop := (fG c).all mf = true ∧ kG c = true
theorem FP {c : ai} (h1 : mf c = true) (h2 : mF c = true) (hk : ∀ k, k ∈ c.f3 → xn k) : xn c := by
 refine ⟨?_, ?_⟩
 ·rw [pV, List.all_cons, h1, Bool.true_and]
  have : ∀ l : List ai, (∀ k, k ∈ l → xn k) → (allL l).all mf = true := by
   intro l
   induction l with
   | nil => intro _; rw [pg]; rfl
   | cons x xs ih => intro h; rw [lF, List.all_append, (h x (by simp)).1, ih (fun k hk => h k (by simp [hk]))]; rfl
  exact this c.f3 hk
 ·rw [sS, h2, Bool.true_and]
  exact List.all_eq_true.2 fun k hk2 => (hk k hk2).2
theorem JL (a : Int) (r : dD) (l : List ai) (ha : a = 2 ∨ a = 3) (hr : jU r = true) (hl : 2 ≤ l.length) (hl2 : l.length ≤ 20000) (hs : (l.map (fun k => aV (a - 1) k.f1)).sum + (l.length : Int) - 1 = aV (a - 1) r)
  (hk : ∀ k, k ∈ l → 1 ≤ aV (a - 1) k.f1 ∧ aV (4 - a) k.f1 = aV (4 - a) r) (hg : ∀ k, k ∈ l → ∀ x y, jU ⟨x, y, k.f1.f2, k.f1.f3⟩ = true → xn (dA k x y)) : xn ⟨a, r, 0, jo a l r.f0 r.f1⟩ := by
 have hm := vz.1 hr
 have hsz : ∀ (l : List ai) (x y : Int) (f : ai → Int), (∀ k x y, f (dA k x y) = f k) → (jo a l x y).map f = l.map f := by
  intro l
  induction l with
  | nil => intro x y f _; rw [lW]
  | cons k ks ih => intro x y f hf; rw [nC, List.map_cons, List.map_cons, ih _ _ f hf, hf]
 have hin := aek a r ha hr l 0 (by omega) (by omega) hk
 have adS := UY a r.f0 r.f1 r.f2 r.f3 ha (by omega) (by omega) l 0 (by omega) (by have := nz hr (ax := a - 1) (by omega); omega) (fun k h => by rw [(PV ha r).2]; exact hk k h)
 have hxy : (if a = 2 then r.f0 + 0 else r.f0) = r.f0 ∧ (if a = 2 then r.f1 else r.f1 + 0) = r.f1 := by constructor <;> split <;> omega
 rw [hxy.1, hxy.2] at hin adS
 have hmap : ∀ l x y, (jo a l x y).map (fun k => aV (a - 1) k.f1) = l.map (fun k => aV (a - 1) k.f1) := fun l x y => hsz l x y _ (fun k x y => by rw [lD]; rfl)
 refine FP ?_ ?_ (fun z hz => ?_)
 ·unfold mf
  simp only [hr, sO, Bool.true_and]
  rw [decide_eq_true (show 1 ≤ a ∧ a ≤ 3 by omega), decide_eq_true (show a = 1 → l.length = 0 ∧ (0 : Int) ≤ 0 ∧ (0 : Int) ≤ 2147483647 from fun h => by omega), decide_eq_true (show a > 1 → 2 ≤ l.length ∧ True from fun _ => ⟨hl, trivial⟩)]
  rfl
 ·have ht : (yx ⟨a, r, 0, jo a l r.f0 r.f1⟩).2.2 = true := YO _ ha hr (by rw [sO]; exact hl2) (by rw [sO]; omega) (by simp only []; rw [hmap, sO]; exact hs) (fun k hk2 => by
   obtain ⟨q, hq, x, y, rfl, _⟩ := hin k hk2
   rw [lD]
   exact (hk q hq).1)
  obtain ⟨_, gp, _, _⟩ := Dk ht
  rw [JU (c := ⟨a, r, 0, jo a l r.f0 r.f1⟩) ha] at gp
  simp only [] at gp
  rw [hmap, show yG a = a - 1 by unfold yG; omega] at gp
  unfold mF B_
  rw [ht, gp, adS]
  simp only [Bool.true_and, Bool.and_true, Bool.or_eq_true]
  right
  have : ∀ (ns : List Int) (off : Int), (yw (a - 1) r.f0 r.f1 r.f2 r.f3 off ns).length = ns.length := fun ns off => MK _ _ _ _ _ ns off
  rw [this, List.length_map, sO]
  simp
 ·obtain ⟨q, hq, x, y, rfl, hm2⟩ := hin z hz
  exact hg q hq x y hm2
theorem Ef (l : List Int) : total l = l.sum := by
 induction l with
 | nil => rfl
 | cons x xs ih => simp only [total, List.sum_cons, ih]
theorem aem {b : Int} {gs : List Int} (hl : gs.length ≤ 100000) (h0 : -2147483647 ≤ b) (h1 : b ≤ 2147483647) (hg : ∀ g, g ∈ gs → 0 ≤ g ∧ g ≤ 2147483647) (hne : gs ≠ []) (hb : -gs.sum ≤ b) :
  (qP b gs).2 = true ∧ (qP b gs).1.length = gs.length ∧ (qP b gs).1.sum = b ∧ ∀ p, p ∈ gs.zip (qP b gs).1 → -p.1 ≤ p.2 := by
 rcases (Ea b gs hl h0 h1).1 with ⟨e, h⟩ | ⟨e, _, _, hb0⟩ | ⟨qs, e, _, _, hq, hgd, _, ho, _⟩
 ·exfalso
  rw [Ef] at h
  rcases h with h | h | h
  ·exact hne h
  ·exact h hg
  ·omega
 ·rw [e]
  refine ⟨rfl, sG _ _, ?_, ?_⟩
  ·rw [← Ef]
   exact OE b gs.length hb0 (List.length_pos_iff.2 hne)
  ·intro p hp
   obtain ⟨a1, a2⟩ := List.of_mem_zip hp
   have h2 := hg _ a1
   simp only [moreL, List.mem_map, List.mem_range] at a2
   obtain ⟨i, _, e2⟩ := a2
   have hn : (0 : Int) < (gs.length : Int) := by have := List.length_pos_iff.2 hne; omega
   have hd : 0 ≤ b / (gs.length : Int) := Int.ediv_nonneg hb0 (by omega)
   unfold qN at e2
   split at e2 <;> omega
 ·rw [e]
  refine ⟨rfl, by rw [← hq]; simp, by rw [← Ef, ← QV]; exact ho, fun p hp => ?_⟩
  simp only [] at hp
  rw [← hq, List.zip_map'] at hp
  obtain ⟨q, hq2, rfl⟩ := List.mem_map.1 hp
  exact (hgd q hq2).2.2.1
theorem LP (ax : Int) : ∀ (l : List ai) (ss : List Int) (ns : Nat → Int) (i : Nat), ss.length = l.length → (∀ j, j < l.length → ns (i + j) = ss.getD j 0) → kQ ax l ns i = (l.zip ss).map fun p => fE ax p.1 p.2 := by
 intro l
 induction l with
 | nil => intro ss ns i _ _; rw [rV]; rfl
 | cons k ks ih =>
  intro ss ns i hl hn
  cases ss with
  | nil => simp at hl
  | cons s ss =>
   have h0 := hn 0 (by simp)
   rw [Nat.add_zero] at h0
   rw [uZ, List.zip_cons_cons, List.map_cons, h0, ih ss ns (i + 1) (by simpa using hl) (fun j hj => by
    have := hn (j + 1) (by simpa using hj)
    rw [show i + 1 + j = i + (j + 1) by omega, this]
    rfl)]
   rfl
theorem P7 (f : ai → Int) : ∀ (l : List ai) (ss : List Int), ss.length = l.length → ((l.zip ss).map fun p => f p.1 + p.2).sum = (l.map f).sum + ss.sum := by
 intro l
 induction l with
 | nil => intro ss h; cases ss with
  | nil => rfl
  | cons s ss => simp at h
 | cons k ks ih =>
  intro ss h
  cases ss with
  | nil => simp at h
  | cons s ss =>
   rw [List.zip_cons_cons, List.map_cons, List.map_cons, List.sum_cons, List.sum_cons, List.sum_cons, ih ss (by simpa using h)]
   show f k + s + _ = _
   omega
theorem zip_fst (f : ai → Int) : ∀ (l : List ai) (ss : List Int), ss.length = l.length → ((l.zip ss).map fun p => f p.1) = l.map f := by
 intro l
 induction l with
 | nil => intro ss h; rfl
 | cons k ks ih =>
  intro ss h
  cases ss with
  | nil => simp at h
  | cons s ss => rw [List.zip_cons_cons, List.map_cons, List.map_cons, ih ss (by simpa using h)]
theorem Dq {ax : Int} (hax : ax = 1 ∨ ax = 2) {r : dD} {b : Int} (h0 : 0 ≤ aV ax r + b) (h1 : aV ax r + b ≤ 100000) : aV ax (grow ax b r) = aV ax r + b ∧ aV (3 - ax) (grow ax b r) = aV (3 - ax) r := by
 rcases hax with rfl | rfl
 ·simp [aV, grow] at h0 h1 ⊢
  exact wp (by omega) (by omega)
 ·simp [aV, grow] at h0 h1 ⊢
  exact wp (by omega) (by omega)
theorem Gh {c : ai} (h : di c = true) : kG c = true := by
 unfold di at h
 simp only [Bool.and_eq_true] at h
 exact h.2
theorem X_ {c : ai} (h : mf c = true) (hk : c.f0 = 2 ∨ c.f0 = 3) : c.f2 = 0 := by
 unfold mf at h
 simp only [Bool.and_eq_true, decide_eq_true_eq] at h
 exact (h.2 (by omega)).2
theorem Un {ax : Int} (hax : ax = 1 ∨ ax = 2) : ∀ (N : Nat) (c : ai), sz c ≤ N → di c = true → ∀ b, b_ ax c ≤ aV ax c.f1 + b → aV ax c.f1 + b ≤ 10000 → ∀ x y, jU ⟨x, y, (grow ax b c.f1).f2, (grow ax b c.f1).f3⟩ = true → xn (dA (fE ax c b) x y) := by
 intro N
 induction N with
 | zero => intro c h; rw [cO] at h; omega
 | succ N ih =>
  intro c hc ht b hb1 hb2 x y hr
  have hm := kH ht
  have hok := nD (oZ hm)
  have hsm := ny hm
  have hB := Gh ht
  have hsz := cO c
  have hlen := ik c.f3
  rw [yV, lD]
  simp only []
  rcases w_ hok with ⟨h1, h2⟩ | ⟨h1, h2⟩
  ·rw [List.eq_nil_of_length_eq_zero h2, rV, lW]
   refine FP ?_ ?_ (fun k hk => by cases hk)
   ·unfold mf at hok ⊢
    simp only [Bool.and_eq_true, decide_eq_true_eq, h1] at hok ⊢
    exact ⟨⟨⟨hr, by omega⟩, fun _ => ⟨rfl, (hok.1.2 trivial).2⟩⟩, fun h => by omega⟩
   ·unfold mF B_
    simp [h1]
  ·have Tm : mF c = true := by rw [sS, Bool.and_eq_true] at hB; exact hB.1
   obtain ⟨g1, g2⟩ := BU Tm h1 (by omega)
   have FU : ∀ k, k ∈ c.f3 → sz k ≤ N ∧ di k = true ∧ az ax k = aV ax k.f1 - b_ ax k ∧ 0 ≤ aV ax k.f1 - b_ ax k ∧ 1 ≤ b_ ax k ∧ aV ax k.f1 ≤ 10000 ∧ ∀ a, a = 1 ∨ a = 2 → 1 ≤ aV a k.f1 := fun k hk => by
    have q := Pure.yf ht hk
    have q2 := Pure.iT hax q
    have q3 := HY hk
    exact ⟨by omega, q, q2.1, q2.2.1, q2.2.2.1, q2.2.2.2, fun a ha => (nz (tJ (nD (oZ (kH q)))) ha).1⟩
   rw [X_ hok h1]
   have hw1 : 0 ≤ aV ax c.f1 + b := by
    have := (Pure.iT hax ht).2.2.1
    omega
   have hgr := Dq hax (r := c.f1) (b := b) hw1 (by omega)
   have fin : ∀ ss : List Int, ss.length = c.f3.length → kQ ax c.f3 (JM ax c.f0 c.f3 b) 0 = (c.f3.zip ss).map (fun p => fE ax p.1 p.2) → (∀ p, p ∈ c.f3.zip ss → b_ ax p.1 ≤ aV ax p.1.f1 + p.2 ∧ aV ax p.1.f1 + p.2 ≤ 10000) →
     (c.f0 - 1 = ax → ss.sum = b) → (4 - c.f0 = ax → ∀ p, p ∈ c.f3.zip ss → p.2 = b) → xn ⟨c.f0, ⟨x, y, (grow ax b c.f1).f2, (grow ax b c.f1).f3⟩, 0, jo c.f0 (kQ ax c.f3 (JM ax c.f0 c.f3 b) 0) x y⟩ := by
    intro ss hss Nh hp hal hcr
    have hf1 : ∀ p : ai × Int, (fE ax p.1 p.2).f1 = grow ax p.2 p.1.f1 := fun p => by rw [yV]
    have hpk : ∀ p, p ∈ c.f3.zip ss → p.1 ∈ c.f3 := fun p hq => (List.of_mem_zip hq).1
    have hps : ∀ p, p ∈ c.f3.zip ss → aV ax (fE ax p.1 p.2).f1 = aV ax p.1.f1 + p.2 ∧ aV (3 - ax) (fE ax p.1 p.2).f1 = aV (3 - ax) p.1.f1 := fun p hq => by
     rw [hf1]
     have := (FU _ (hpk p hq)).2.2.2.2.1
     have := hp p hq
     exact Dq hax (by omega) (by omega)
    rw [Nh]
    refine JL c.f0 ⟨x, y, (grow ax b c.f1).f2, (grow ax b c.f1).f3⟩ _ h1 hr (by simp [hss]; omega) (by simp [hss]; omega) ?_ ?_ ?_
    ·have e0 : ∀ a, aV a ⟨x, y, (grow ax b c.f1).f2, (grow ax b c.f1).f3⟩ = aV a (grow ax b c.f1) := fun a => rfl
     rw [e0, List.map_map, List.length_map, List.length_zip, hss, Nat.min_self]
     by_cases e : c.f0 - 1 = ax
     ·rw [e] at g1 ⊢
      have e2 : List.map ((fun k => aV ax k.f1) ∘ fun p : ai × Int => fE ax p.1 p.2) (c.f3.zip ss) = List.map (fun p => aV ax p.1.f1 + p.2) (c.f3.zip ss) := List.map_congr_left (fun p hq => (hps p hq).1)
      rw [hgr.1, e2, P7 (fun k => aV ax k.f1) _ _ hss, hal e]
      omega
     ·have e2 : c.f0 - 1 = 3 - ax := by omega
      rw [e2] at g1 ⊢
      have e3 : List.map ((fun k => aV (3 - ax) k.f1) ∘ fun p : ai × Int => fE ax p.1 p.2) (c.f3.zip ss) = List.map (fun p => aV (3 - ax) p.1.f1) (c.f3.zip ss) := List.map_congr_left (fun p hq => (hps p hq).2)
      rw [hgr.2, e3, zip_fst (fun k => aV (3 - ax) k.f1) _ _ hss]
      exact g1
    ·intro k hk
     obtain ⟨p, hq, rfl⟩ := List.mem_map.1 hk
     have q1 := hps p hq
     have q2 := FU _ (hpk p hq)
     have q3 := hp p hq
     have q4 := g2 _ (hpk p hq)
     have e0 : ∀ a, aV a ⟨x, y, (grow ax b c.f1).f2, (grow ax b c.f1).f3⟩ = aV a (grow ax b c.f1) := fun a => rfl
     rw [e0]
     by_cases e : c.f0 - 1 = ax
     ·rw [show 4 - c.f0 = 3 - ax by omega, e, hgr.2, q1.1, q1.2]
      rw [show 3 - (c.f0 - 1) = 3 - ax by omega] at q4
      exact ⟨by omega, q4⟩
     ·have e2 : c.f0 - 1 = 3 - ax := by omega
      have e3 : 4 - c.f0 = ax := by omega
      rw [e2, e3, hgr.1, q1.1, q1.2]
      rw [show 3 - (c.f0 - 1) = ax by omega] at q4
      exact ⟨q2.2.2.2.2.2.2 _ (by omega), by rw [q4, hcr e3 p hq]⟩
    ·intro k hk x' y' hm2
     obtain ⟨p, hq, rfl⟩ := List.mem_map.1 hk
     have q2 := FU _ (hpk p hq)
     have q3 := hp p hq
     rw [hf1] at hm2
     exact ih p.1 q2.1 q2.2.1 p.2 q3.1 q3.2 x' y' hm2
   have hrs := nz hr hax
   rw [show aV ax ⟨x, y, (grow ax b c.f1).f2, (grow ax b c.f1).f3⟩ = aV ax (grow ax b c.f1) from rfl, hgr.1] at hrs
   by_cases e : c.f0 - 1 = ax
   ·have ha : fC ax c.f0 = true := by
     unfold fC
     simp
     omega
    have hgs : c.f3.map (az ax) = c.f3.map (fun k => aV ax k.f1 - b_ ax k) := List.map_congr_left (fun k hk => (FU k hk).2.2.1)
    have hsub : ∀ l : List ai, (l.map (fun k => aV ax k.f1 - b_ ax k)).sum = (l.map (fun k => aV ax k.f1)).sum - lX ax l := by
     intro l
     induction l with
     | nil => rw [sQ]; rfl
     | cons k ks ihk => rw [List.map_cons, List.map_cons, List.sum_cons, List.sum_cons, o8, ihk]; omega
    rw [oQ, if_neg (by omega), ha, if_pos rfl] at hb1
    rw [e] at g1
    obtain ⟨s1, s2, s3, s4⟩ := aem (b := b) (gs := c.f3.map (az ax)) (by simp; omega) (by have := nz (tJ hok) hax; omega) (by have := nz (tJ hok) hax; omega) (fun g hg => by
     obtain ⟨k, hk, rfl⟩ := List.mem_map.1 hg
     have := FU k hk
     omega) (fun h => by rw [List.map_eq_nil_iff] at h; rw [h] at h2; simp at h2) (by rw [hgs, hsub]; omega)
    rw [List.length_map] at s2
    have hz : ∀ p, p ∈ c.f3.zip (qP b (c.f3.map (az ax))).1 → -(az ax p.1) ≤ p.2 := fun p hp => s4 (az ax p.1, p.2) (by
     rw [List.zip_map_left]
     exact List.mem_map.2 ⟨p, hp, rfl⟩)
    have hle : ∀ p, p ∈ c.f3.zip (qP b (c.f3.map (az ax))).1 → b_ ax p.1 ≤ aV ax p.1.f1 + p.2 := fun p hp => by
     have q1 := hz p hp
     have q2 := FU p.1 (List.of_mem_zip hp).1
     omega
    refine fin (qP b (c.f3.map (az ax))).1 s2 (LP ax _ _ _ _ s2 (fun j hj => ?_)) (fun p hp => ⟨hle p hp, ?_⟩) (fun _ => s3) (fun h => by omega)
    ·rw [Nat.zero_add]
     unfold JM
     rw [if_pos ⟨s1, ha⟩]
     rfl
    ·
     have q := P7 (fun k => aV ax k.f1) c.f3 (qP b (c.f3.map (az ax))).1 s2
     rw [s3] at q
     obtain ⟨u, v, huv⟩ := List.append_of_mem hp
     have hpos : ∀ z : List (ai × Int), (∀ p, p ∈ z → p ∈ c.f3.zip (qP b (c.f3.map (az ax))).1) → 0 ≤ (z.map fun p => aV ax p.1.f1 + p.2).sum := by
      intro z
      induction z with
      | nil => intro _; simp
      | cons w ws ihw =>
       intro hw
       have a1 := ihw (fun p hp => hw p (by simp [hp]))
       have a2 := hle w (hw w (by simp))
       have a3 := (FU w.1 (List.of_mem_zip (hw w (by simp))).1).2.2.2.2.1
       rw [List.map_cons, List.sum_cons]
       omega
     have p1 := hpos u (fun p hp => by rw [huv]; simp [hp])
     have p2 := hpos v (fun p hp => by rw [huv]; simp [hp])
     rw [huv, List.map_append, List.map_cons, List.sum_append, List.sum_cons] at q
     omega
   ·have ha : fC ax c.f0 = false := by
     unfold fC
     simp
     omega
    have e3 : 4 - c.f0 = ax := by omega
    rw [oQ, if_neg (by omega), ha, if_neg (by simp)] at hb1
    have afw : ∀ k, k ∈ c.f3 → b_ ax k ≤ lJ ax 0 c.f3 := fun k hk => by
     obtain ⟨u, v, huv⟩ := List.append_of_mem hk
     rw [huv, UB, kC]
     exact Int.le_trans (Ur _ _) NU
    have hrep : ∀ p, p ∈ c.f3.zip (List.replicate c.f3.length b) → p.2 = b := fun p hp => (List.mem_replicate.1 (List.of_mem_zip hp).2).2
    refine fin (List.replicate c.f3.length b) (by simp) (LP ax _ _ _ _ (by simp) (fun j hj => ?_)) (fun p hp => ?_) (fun h => absurd h e) (fun _ => hrep)
    ·unfold JM
     rw [if_neg (by rw [ha]; simp)]
     simp [List.getD_eq_getElem?_getD, hj]
    ·have q := (List.of_mem_zip hp).1
     rw [hrep p hp]
     have q1 := afw p.1 q
     have q2 := g2 p.1 q
     rw [show 3 - (c.f0 - 1) = ax by omega] at q2
     omega
mutual
inductive nX : ai → ai → Prop
 | node (a : Int) (r r' : dD) (d : Int) (l l' : List ai) : sU l l' → nX ⟨a, r, d, l⟩ ⟨a, r', d, l'⟩
inductive sU : List ai → List ai → Prop
 | nil : sU [] []
 | cons {k k' : ai} {l l' : List ai} : nX k k' → sU l l' → sU (k :: l) (k' :: l')
end
def tag (d : ai) : Int × Int := (d.f0, d.f2)
mutual
theorem DW : ∀ {c d : ai}, nX c d → (fG c).map tag = (fG d).map tag
 | _, _, .node a r r' d l l' h => by
  rw [pV, pV, List.map_cons, List.map_cons]
  exact congr (congrArg List.cons rfl) (JJ h)
theorem JJ : ∀ {l l' : List ai}, sU l l' → (allL l).map tag = (allL l').map tag
 | _, _, .nil => rfl
 | _, _, .cons h hs => by rw [lF, lF, List.map_append, List.map_append, DW h, JJ hs]
end
theorem JH : ∀ {l l' : List ai}, sU l l' → l.length = l'.length
 | _, _, .nil => rfl
 | _, _, .cons _ hs => by rw [List.length_cons, List.length_cons, JH hs]
mutual
theorem xw {ax : Int} : ∀ {c d : ai}, nX c d → b_ ax c = b_ ax d
 | _, _, .node a r r' d l l' h => by
  rw [oQ, oQ]
  simp only []
  rw [JH h, JI h, G6 h]
theorem JI {ax : Int} : ∀ {l l' : List ai}, sU l l' → lX ax l = lX ax l'
 | _, _, .nil => rfl
 | _, _, .cons h hs => by rw [o8, o8, xw h, JI hs]
theorem G6 {ax : Int} : ∀ {l l' : List ai} {m : Int}, sU l l' → lJ ax m l = lJ ax m l'
 | _, _, _, .nil => rfl
 | _, _, _, .cons h hs => by rw [kC, kC, xw h, G6 hs]
end
theorem FX {c d : ai} (h : nX c d) : sz c = sz d := by
 have := congrArg List.length (DW h)
 rwa [List.length_map, List.length_map] at this
theorem QT : ∀ (N : Nat), (∀ c : ai, sz c ≤ N → ∀ d e, nX c d → nX d e → nX c e) ∧ (∀ l : List ai, dI l ≤ N → ∀ m n, sU l m → sU m n → sU l n) := by
 intro N
 induction N with
 | zero =>
  refine ⟨fun c h => by rw [cO] at h; omega, fun l h m n h1 h2 => ?_⟩
  cases h1 with
  | nil => exact h2
  | cons a b => rw [bY, cO] at h; omega
 | succ N ih =>
  have hC : ∀ c : ai, sz c ≤ N + 1 → ∀ d e, nX c d → nX d e → nX c e := by
   intro c h d e h1 h2
   cases h1 with
   | node a r r' i l l' h3 =>
    cases h2 with
    | node _ _ r2 _ _ l2 h4 => exact .node _ _ _ _ _ _ (ih.2 l (by rw [cO] at h; simp only [] at h; omega) _ _ h3 h4)
  refine ⟨hC, fun l => ?_⟩
  induction l with
  | nil => intro _ m n h1 h2; cases h1; exact h2
  | cons x xs ihl =>
   intro h m n h1 h2
   rw [bY] at h
   cases h1 with
   | cons a b =>
    cases h2 with
    | cons a2 b2 => exact .cons (hC x (by omega) _ _ a a2) (ihl (by omega) _ _ b b2)
theorem Vt (ax : Int) : ∀ (N : Nat), (∀ c : ai, sz c ≤ N → ∀ b, nX c (fE ax c b)) ∧ (∀ l : List ai, dI l ≤ N → ∀ ns i, sU l (kQ ax l ns i)) := by
 intro N
 induction N with
 | zero =>
  refine ⟨fun c h => by rw [cO] at h; omega, fun l h ns i => ?_⟩
  cases l with
  | nil => rw [rV]; exact .nil
  | cons x xs => rw [bY, cO] at h; omega
 | succ N ih =>
  have hC : ∀ c : ai, sz c ≤ N + 1 → ∀ b, nX c (fE ax c b) := by
   intro c h b
   rw [yV]
   obtain ⟨a, r, d, l⟩ := c
   exact .node _ _ _ _ _ _ (ih.2 l (by rw [cO] at h; simp only [] at h; omega) _ _)
  refine ⟨hC, fun l => ?_⟩
  induction l with
  | nil => intro _ ns i; rw [rV]; exact .nil
  | cons x xs ihl =>
   intro h ns i
   rw [bY] at h
   rw [uZ]
   exact .cons (hC x (by omega) _) (ihl (by omega) _ _)
theorem F_ : ∀ (N : Nat), (∀ c : ai, sz c ≤ N → ∀ x y, nX c (dA c x y)) ∧ (∀ l : List ai, dI l ≤ N → ∀ a x y, sU l (jo a l x y)) := by
 intro N
 induction N with
 | zero =>
  refine ⟨fun c h => by rw [cO] at h; omega, fun l h a x y => ?_⟩
  cases l with
  | nil => rw [lW]; exact .nil
  | cons x xs => rw [bY, cO] at h; omega
 | succ N ih =>
  have hC : ∀ c : ai, sz c ≤ N + 1 → ∀ x y, nX c (dA c x y) := by
   intro c h x y
   rw [lD]
   obtain ⟨a, r, d, l⟩ := c
   exact .node _ _ _ _ _ _ (ih.2 l (by rw [cO] at h; simp only [] at h; omega) _ _ _)
  refine ⟨hC, fun l => ?_⟩
  induction l with
  | nil => intro _ a x y; rw [lW]; exact .nil
  | cons z zs ihl =>
   intro h a x y
   rw [bY] at h
   rw [nC]
   exact .cons (hC z (by omega) _ _) (ihl (by omega) _ _ _)
theorem MO : ∀ {a b : List ai}, a.map (·.f2) = b.map (·.f2) → eF a = eF b := by
 intro a
 induction a with
 | nil => intro b h; cases b with
  | nil => rfl
  | cons y ys => cases h
 | cons x xs ih =>
  intro b h
  cases b with
  | nil => cases h
  | cons y ys =>
   simp only [List.map_cons, List.cons.injEq] at h
   unfold eF
   rw [ih h.2, h.1]
   congr 1
   have e : ∀ l : List ai, (l.all fun z => decide (z.f2 ≠ y.f2)) = (l.map (·.f2)).all fun i => decide (i ≠ y.f2) := fun l => by rw [List.all_map]; rfl
   rw [e, e, h.2]
theorem WG {c d : ai} (h : nX c d) : (lT c).map (·.f2) = (lT d).map (·.f2) := by
 have e : ∀ l : List ai, (l.filter fun x => decide (x.f0 = 1)).map (·.f2) = ((l.map tag).filter fun p => decide (p.1 = 1)).map (·.2) := by
  intro l
  induction l with
  | nil => rfl
  | cons x xs ih =>
   rw [List.map_cons, List.filter_cons, List.filter_cons]
   have ht : (decide ((tag x).1 = 1)) = decide (x.f0 = 1) := rfl
   rw [ht]
   cases decide (x.f0 = 1) with
   | true => simp only [if_true, List.map_cons, ih]; rfl
   | false => simp only [Bool.false_eq_true, if_false, ih]
 unfold lT
 rw [e, e, DW h]
theorem G_ {c d : ai} (h : nX c d) (hc : di c = true) (hd : xn d) : di d = true := by
 have hm := kH hc
 unfold kU at hm
 simp only [Bool.and_eq_true, decide_eq_true_eq] at hm
 unfold di kU
 rw [hd.1, hd.2, decide_eq_true (by rw [← FX h]; exact hm.1), ← MO (WG h), hm.2.2]
 rfl
theorem Xm : ∀ (N : Nat) (c : ai), sz c ≤ N → di c = true → ∀ x y, jU ⟨x, y, c.f1.f2, c.f1.f3⟩ = true → xn (dA c x y) := by
 intro N
 induction N with
 | zero => intro c h; rw [cO] at h; omega
 | succ N ih =>
  intro c hc ht x y hr
  have hm := kH ht
  have hok := nD (oZ hm)
  have hsm := ny hm
  have hB := Gh ht
  have hsz := cO c
  have hlen := ik c.f3
  rw [lD]
  rcases w_ hok with ⟨h1, h2⟩ | ⟨h1, h2⟩
  ·rw [List.eq_nil_of_length_eq_zero h2, lW]
   refine FP ?_ ?_ (fun k hk => by cases hk)
   ·unfold mf at hok ⊢
    simp only [Bool.and_eq_true, decide_eq_true_eq, h1] at hok ⊢
    exact ⟨⟨⟨hr, by omega⟩, fun _ => ⟨rfl, (hok.1.2 trivial).2⟩⟩, fun h => by omega⟩
   ·unfold mF B_
    simp [h1]
  ·have Tm : mF c = true := by rw [sS, Bool.and_eq_true] at hB; exact hB.1
   obtain ⟨g1, g2⟩ := BU Tm h1 (by omega)
   rw [X_ hok h1]
   refine JL c.f0 ⟨x, y, c.f1.f2, c.f1.f3⟩ c.f3 h1 hr h2 (by omega) g1 (fun k hk => ?_) (fun k hk x' y' hm2 => ?_)
   ·have q := Pure.yf ht hk
    have r := tJ (nD (oZ (kH q)))
    refine ⟨(nz r (by omega)).1, ?_⟩
    have := g2 k hk
    rwa [show 3 - (c.f0 - 1) = 4 - c.f0 by omega] at this
   ·exact ih k (by have := HY hk; omega) (Pure.yf ht hk) x' y' hm2
theorem U0 {c : ai} (h : di c = true) {x y : Int} (hr : jU ⟨x, y, c.f1.f2, c.f1.f3⟩ = true) : di (dA c x y) = true :=
 G_ ((F_ (sz c)).1 c (Nat.le_refl _) x y) h (Xm _ c (Nat.le_refl _) h x y hr)
noncomputable def yu (ax n : Int) (k : ai) : ai := aZ ax (dA k 0 0) n
theorem SA {ax n : Int} {k : ai} (hax : ax = 1 ∨ ax = 2) (ht : di k = true) (h0 : -(az ax k) ≤ n) (h1 : aV ax k.f1 + n ≤ 10000) :
  di (yu ax n k) = true ∧ aV ax (yu ax n k).f1 = aV ax k.f1 + n ∧ az ax (yu ax n k) = az ax k + n ∧ sz (yu ax n k) = sz k := by
 have hm := kH ht
 have hr := vz.1 (show pz k.f1.f0 k.f1.f1 k.f1.f2 k.f1.f3 = true from tJ (nD (oZ hm)))
 have g := Pure.iT hax ht
 have hz : jU ⟨0, 0, k.f1.f2, k.f1.f3⟩ = true := show pz 0 0 k.f1.f2 k.f1.f3 = true from vz.2 (by omega)
 have ht0 := U0 ht hz
 have e0 : (dA k 0 0).f1 = ⟨0, 0, k.f1.f2, k.f1.f3⟩ := by rw [lD]
 have es : ∀ a, aV a (dA k 0 0).f1 = aV a k.f1 := fun a => by rw [e0]; rfl
 have hl0 := (F_ (sz k)).1 k (Nat.le_refl _) 0 0
 have g0 := Pure.iT hax ht0
 have el : b_ ax (dA k 0 0) = b_ ax k := (xw hl0).symm
 rw [es, el] at g0
 have hsz : aV ax k.f1 = k.f1.f2 ∨ aV ax k.f1 = k.f1.f3 := by unfold aV; rcases hax with h | h <;> simp [h]
 have hbad : yl ax (dA k 0 0) = false := by
  unfold yl
  rw [ht0]
  rcases hax with h | h <;> simp [h]
 have hout : yt ax (dA k 0 0) n = false := by
  unfold yt
  rw [g0.1, e0]
  simp only []
  have hw : wrap64 (-(aV ax k.f1 - b_ ax k)) = -(aV ax k.f1 - b_ ax k) := by unfold wrap64; omega
  have hs : aV ax ⟨0, 0, wrap64 (0 + k.f1.f2), wrap64 (0 + k.f1.f3)⟩ = aV ax k.f1 := by
   rw [show wrap64 (0 + k.f1.f2) = k.f1.f2 by unfold wrap64; omega, show wrap64 (0 + k.f1.f3) = k.f1.f3 by unfold wrap64; omega]
   rfl
  rw [hs, show wrap64 (10000 - aV ax k.f1) = 10000 - aV ax k.f1 by unfold wrap64; omega, hw]
  rw [decide_eq_false (by omega), decide_eq_false (by omega)]
  rfl
 have Nh : yu ax n k = dA (fE ax (dA k 0 0) n) 0 0 := by
  unfold yu aZ
  rw [hbad, hout, e0]
  simp
 have hgr := Dq hax (r := (dA k 0 0).f1) (b := n) (by rw [es]; omega) (by rw [es]; omega)
 have ef1 : (fE ax (dA k 0 0) n).f1 = grow ax n (dA k 0 0).f1 := by rw [yV]
 have eg : (yu ax n k).f1 = ⟨0, 0, (grow ax n (dA k 0 0).f1).f2, (grow ax n (dA k 0 0).f1).f3⟩ := by rw [Nh, lD, ef1]
 have hsize : aV ax (yu ax n k).f1 = aV ax k.f1 + n := by rw [eg]; rw [es] at hgr; exact hgr.1
 have hmay : jU ⟨0, 0, (grow ax n (dA k 0 0).f1).f2, (grow ax n (dA k 0 0).f1).f3⟩ = true := by
  show pz 0 0 (grow ax n (dA k 0 0).f1).f2 (grow ax n (dA k 0 0).f1).f3 = true
  refine vz.2 ?_
  have h3 := hgr.1
  have h4 := hgr.2
  rw [es] at h3 h4
  generalize grow ax n (dA k 0 0).f1 = G at h3 h4 ⊢
  have h5 : 1 ≤ aV ax k.f1 + n := by omega
  unfold aV at h3 h4 h1 h5
  rcases hax with rfl | rfl
  ·simp at h3 h4 h1 h5; omega
  ·simp at h3 h4 h1 h5; omega
 have aft : xn (yu ax n k) := by
  rw [Nh]
  exact Un hax _ (dA k 0 0) (Nat.le_refl _) ht0 n (by rw [es, el]; omega) (by rw [es]; omega) 0 0 hmay
 have hl1 : nX (dA k 0 0) (yu ax n k) := by
  rw [Nh]
  exact (QT _).1 _ (Nat.le_refl _) _ _ ((Vt ax _).1 _ (Nat.le_refl _) n) ((F_ _).1 _ (Nat.le_refl _) 0 0)
 have htt := G_ hl1 ht0 aft
 have g1 := Pure.iT hax htt
 refine ⟨htt, hsize, ?_, by rw [← FX hl1, ← FX hl0]⟩
 rw [g1.1, hsize, ← xw hl1, el, g.1]
 omega
def kd (L : List ai) (i : Nat) : ai := L.getD i z26
theorem lL {L : List ai} {i : Nat} (h : i < L.length) : kd L i ∈ L := by
 unfold kd
 rw [List.getD_eq_getElem?_getD, List.getElem?_eq_getElem h, Option.getD_some]
 exact List.getElem_mem _
theorem Kt (L : List ai) (i : Nat) : aA L (i : Int) = kd L i := by unfold kd aA; rw [Int.toNat_natCast]
theorem NL {L : List ai} {i j : Nat} {k : ai} (h : i < L.length) : kd (L.set i k) j = if j = i then k else kd L j := by
 unfold kd
 rw [List.getD_eq_getElem?_getD, List.getD_eq_getElem?_getD, List.getElem?_set]
 by_cases e : i = j
 ·subst e; rw [if_pos rfl, if_pos rfl, if_pos h]; rfl
 ·rw [if_neg e, if_neg (fun x => e x.symm)]
theorem aaR (f : ai → Int) : ∀ {L : List ai} {i : Nat} {k : ai}, i < L.length → ((L.set i k).map f).sum = (L.map f).sum - f (kd L i) + f k := by
 intro L
 induction L with
 | nil => intro i k h; simp at h
 | cons x xs ih =>
  intro i k h
  cases i with
  | zero => simp only [List.set_cons_zero, List.map_cons, List.sum_cons]; show _ = f x + _ - f x + f k; omega
  | succ i =>
   simp only [List.set_cons_succ, List.map_cons, List.sum_cons]
   rw [ih (by simpa using h)]
   show _ = f x + _ - f (kd xs i) + f k
   omega
theorem Xr : ∀ {L : List ai} {i : Nat} {k : ai}, i < L.length → sz k = sz (kd L i) → dI (L.set i k) = dI L := by
 intro L
 induction L with
 | nil => intro i k h; simp at h
 | cons x xs ih =>
  intro i k h hs
  cases i with
  | zero => rw [List.set_cons_zero, bY, bY, hs]; rfl
  | succ i => rw [List.set_cons_succ, bY, bY, ih (by simpa using h) hs]
theorem ad3 {f : ai → Int} : ∀ {L : List ai}, (∀ k, k ∈ L → 0 ≤ f k) → ∀ k, k ∈ L → f k ≤ (L.map f).sum := by
 intro L
 induction L with
 | nil => intro _ k h; cases h
 | cons x xs ih =>
  intro h k hk
  have h0 : ∀ l : List ai, (∀ k, k ∈ l → 0 ≤ f k) → 0 ≤ (l.map f).sum := by
   intro l
   induction l with
   | nil => intro _; exact Int.le_refl _
   | cons y ys ihl =>
    intro h
    have := h y (by simp)
    have := ihl (fun k hk => h k (by simp [hk]))
    rw [List.map_cons, List.sum_cons]
    omega
  rw [List.map_cons, List.sum_cons]
  have h1 := h x (by simp)
  have h2 := h0 xs (fun k hk => h k (by simp [hk]))
  rcases List.mem_cons.1 hk with rfl | hk
  ·omega
  ·have := ih (fun k hk => h k (by simp [hk])) k hk; omega
noncomputable def dK (ax : Int) (i : Nat) (n : Int) (L : List ai) : List ai := L.set i (yu ax n (kd L i))
structure qw (ax s : Int) (L : List ai) : Prop where
 jQ : ∀ k, k ∈ L → di k = true
 sum : (L.map (fun k => aV ax k.f1)).sum = s
 small : s ≤ 10000
theorem qw.size {ax s : Int} {L : List ai} (hax : ax = 1 ∨ ax = 2) (h : qw ax s L) {k : ai} (hk : k ∈ L) : aV ax k.f1 ≤ s := by
 have := ad3 (f := fun k => aV ax k.f1) (fun k hk => by have := Pure.iT hax (h.jQ k hk); omega) k hk
 rw [h.sum] at this
 exact this
theorem qw.move {ax s : Int} {L : List ai} (hax : ax = 1 ∨ ax = 2) (h : qw ax s L) {i : Nat} {n : Int} (hi : i < L.length) (h0 : -(az ax (kd L i)) ≤ n) (h1 : s + n ≤ 10000) :
  qw ax (s + n) (dK ax i n L) ∧ az ax (kd (dK ax i n L) i) = az ax (kd L i) + n ∧ (∀ j, j ≠ i → kd (dK ax i n L) j = kd L j) ∧ (dK ax i n L).length = L.length ∧ dI (dK ax i n L) = dI L ∧ aV ax (kd (dK ax i n L) i).f1 = aV ax (kd L i).f1 + n := by
 have hm := lL hi
 have hs := h.size hax hm
 obtain ⟨k1, k2, k3, k4⟩ := SA hax (h.jQ _ hm) h0 (by omega)
 unfold dK
 refine ⟨⟨fun k hk => ?_, ?_, h1⟩, ?_, fun j hj => by rw [NL hi, if_neg hj], by rw [List.length_set], Xr hi k4, ?_⟩
 ·rcases List.mem_or_eq_of_mem_set hk with hk | rfl
  ·exact h.jQ k hk
  ·exact k1
 ·rw [aaR _ hi, h.sum, k2]
  omega
 ·rw [NL hi, if_pos rfl, k3]
 ·rw [NL hi, if_pos rfl, k2]
structure rU (ax s : Int) (p N : Nat) (L0 L : List ai) (d : Int) : Prop where
 good : qw ax s L
 Hg : p < L.length
 d0 : 0 ≤ d
 dg : az ax (kd L p) = az ax (kd L0 p) + d
 ds : aV ax (kd L p).f1 = aV ax (kd L0 p).f1 + d
 z : dI L = N
 len : L.length = L0.length
theorem rU.start {ax s : Int} {p : Nat} {L : List ai} (h : qw ax s L) (hp : p < L.length) : rU ax s p (dI L) L L 0 := ⟨h, hp, Int.le_refl _, by omega, by omega, rfl, rfl⟩
theorem rU.small {ax s : Int} {p N : Nat} {L0 L : List ai} {d : Int} (hax : ax = 1 ∨ ax = 2) (h : rU ax s p N L0 L d) (h0 : 0 ≤ az ax (kd L0 p)) : d ≤ 9999 := by
 have := Pure.iT hax (h.good.jQ _ (lL h.Hg))
 have := h.dg
 omega
theorem rU.step {ax s : Int} {p N : Nat} {L0 L : List ai} {d n : Int} {i : Nat} (hax : ax = 1 ∨ ax = 2) (h : rU ax s p N L0 L d) (hi : i < L.length) (hne : i ≠ p) (hn0 : 0 ≤ n) (hn : n ≤ az ax (kd L i)) :
  rU ax s p N L0 (dK ax p n (dK ax i (-n) L)) (d + n) := by
 obtain ⟨a1, a2, a3, a4, a5, a6⟩ := h.good.move hax hi (n := -n) (by omega) (by have := h.good.small; omega)
 have hp : p < (dK ax i (-n) L).length := by rw [a4]; exact h.Hg
 have e := a3 p (fun e => hne e.symm)
 have hg := Pure.iT hax (h.good.jQ _ (lL h.Hg))
 obtain ⟨b1, b2, b3, b4, b5, b6⟩ := a1.move hax hp (n := n) (by rw [e]; omega) (by have := h.good.small; omega)
 have hd := h.dg
 have hs := h.ds
 have h0 := h.d0
 refine ⟨?_, by rw [b4]; exact hp, by omega, by rw [b2, e]; omega, by rw [b6, e]; omega, by rw [b5, a5]; exact h.z, by rw [b4, a4]; exact h.len⟩
 have e2 : s + -n + n = s := by omega
 rw [e2] at b1
 exact b1
def Dp (p : Nat → Bool) : Nat → Nat → Option Nat
 | 0, _ => none
 | f + 1, i => if p i = true then some i else Dp p f (i + 1)
def nN (p : Nat → Bool) : Nat → Option Nat
 | 0 => none
 | n + 1 => if p n = true then some n else nN p n
noncomputable def oh (ax : Int) (L : List ai) (i : Nat) : Bool := decide (0 < az ax (kd L i))
noncomputable def jT (ax : Int) (q : Nat) (m : Bool) (L : List ai) : Option Nat :=
 match (if m = true then Dp (oh ax L) (L.length - (q + 1)) (q + 1) else none) with
 | some i => some i
 | none => nN (oh ax L) (if m = true then q else q + 1)
theorem V6 {p : Nat → Bool} : ∀ {f i j : Nat}, Dp p f i = some j → i ≤ j ∧ j < i + f ∧ p j = true := by
 intro f
 induction f with
 | zero => intro i j h; cases h
 | succ f ih =>
  intro i j h
  unfold Dp at h
  split at h
  ·rename_i hp; injection h with h; subst h; exact ⟨Nat.le_refl _, by omega, hp⟩
  ·obtain ⟨a, b, c⟩ := ih h; exact ⟨by omega, by omega, c⟩
theorem V5 {p : Nat → Bool} : ∀ {f i : Nat}, Dp p f i = none → ∀ j, i ≤ j → j < i + f → p j = false := by
 intro f
 induction f with
 | zero => intro i _ j h1 h2; omega
 | succ f ih =>
  intro i h j h1 h2
  unfold Dp at h
  split at h
  ·cases h
  ·rename_i hp
   by_cases e : j = i
   ·rw [e]; simpa using hp
   ·exact ih h j (by omega) (by omega)
theorem BO {p : Nat → Bool} : ∀ {n j : Nat}, nN p n = some j → j < n ∧ p j = true := by
 intro n
 induction n with
 | zero => intro j h; cases h
 | succ n ih =>
  intro j h
  unfold nN at h
  split at h
  ·rename_i hp; injection h with h; subst h; exact ⟨by omega, hp⟩
  ·obtain ⟨a, b⟩ := ih h; exact ⟨by omega, b⟩
theorem MX {p : Nat → Bool} : ∀ {n : Nat}, nN p n = none → ∀ j, j < n → p j = false := by
 intro n
 induction n with
 | zero => intro _ j h; omega
 | succ n ih =>
  intro h j hj
  unfold nN at h
  split at h
  ·cases h
  ·rename_i hp
   by_cases e : j = n
   ·rw [e]; simpa using hp
   ·exact ih h j (by omega)
def place (q : Nat) (m : Bool) : Nat := if m = true then q else q + 1
theorem wo {ax : Int} {q : Nat} {m : Bool} {L : List ai} {i : Nat} (h : jT ax q m L = some i) (hq : q + 1 < L.length) : i < L.length ∧ i ≠ place q m ∧ 0 < az ax (kd L i) := by
 unfold jT at h
 unfold place
 cases m with
 | true =>
  simp only [if_true] at h ⊢
  cases hu : Dp (oh ax L) (L.length - (q + 1)) (q + 1) with
  | some j =>
   rw [hu] at h
   injection h with h
   subst h
   obtain ⟨a, b, c⟩ := V6 hu
   exact ⟨by omega, by omega, by simpa [oh] using c⟩
  | none =>
   rw [hu] at h
   obtain ⟨a, b⟩ := BO h
   exact ⟨by omega, by omega, by simpa [oh] using b⟩
 | false =>
  simp only [Bool.false_eq_true, if_false] at h ⊢
  obtain ⟨a, b⟩ := BO h
  exact ⟨by omega, by omega, by simpa [oh] using b⟩
noncomputable def gG (ax : Int) (q : Nat) (m : Bool) (left : Int) : Nat → List ai → Int → List ai × Int
 | 0, L, d => (L, d)
 | f + 1, L, d => if left ≤ d then (L, d) else match jT ax q m L with
  | none => (L, d)
  | some i => gG ax q m left f (dK ax (place q m) (mn (left - d) (az ax (kd L i))) (dK ax i (-(mn (left - d) (az ax (kd L i)))) L)) (d + mn (left - d) (az ax (kd L i)))
theorem xA {ax : Int} {q : Nat} {m : Bool} {left : Int} {f : Nat} {L : List ai} {d : Int} (h : left ≤ d) : gG ax q m left f L d = (L, d) := by
 cases f with
 | zero => rfl
 | succ f => unfold gG; rw [if_pos h]
theorem xy {ax : Int} {q : Nat} {m : Bool} {left : Int} {f : Nat} {L : List ai} {d : Int} (h : jT ax q m L = none) : gG ax q m left f L d = (L, d) := by
 cases f with
 | zero => rfl
 | succ f => unfold gG; rw [h]; split <;> rfl
theorem uH {ax : Int} {q : Nat} {m : Bool} {left : Int} {f : Nat} {L : List ai} {d : Int} {i : Nat} (hl : ¬ left ≤ d) (h : jT ax q m L = some i) :
  gG ax q m left (f + 1) L d = gG ax q m left f (dK ax (place q m) (mn (left - d) (az ax (kd L i))) (dK ax i (-(mn (left - d) (az ax (kd L i)))) L)) (d + mn (left - d) (az ax (kd L i))) := by
 rw [gG, if_neg hl, h]
theorem ad7 (a b : Int) : mn a b ≤ a := by unfold mn; split <;> omega
theorem Uy (a b : Int) : mn a b ≤ b := by unfold mn; split <;> omega
theorem Uz {a b : Int} (h : 0 < a) (k : 0 < b) : 0 < mn a b := by unfold mn; split <;> omega
theorem Q3 {ax s : Int} (hax : ax = 1 ∨ ax = 2) {q : Nat} {m : Bool} {left : Int} {N : Nat} {L0 : List ai} : ∀ (f : Nat) (L : List ai) (d : Int), rU ax s (place q m) N L0 L d → q + 1 < L.length →
  rU ax s (place q m) N L0 (gG ax q m left f L d).1 (gG ax q m left f L d).2 ∧ d ≤ (gG ax q m left f L d).2 ∧ (d ≤ left → (gG ax q m left f L d).2 ≤ left) := by
 intro f
 induction f with
 | zero => intro L d h _; exact ⟨h, Int.le_refl _, fun h => h⟩
 | succ f ih =>
  intro L d h hq
  by_cases hl : left ≤ d
  ·rw [xA hl]; exact ⟨h, Int.le_refl _, fun h => h⟩
  ·cases hg : jT ax q m L with
   | none => rw [xy hg]; exact ⟨h, Int.le_refl _, fun h => h⟩
   | some i =>
    rw [uH hl hg]
    obtain ⟨g1, g2, g3⟩ := wo hg hq
    have n0 := Uz (a := left - d) (b := az ax (kd L i)) (by omega) g3
    have n1 := ad7 (left - d) (az ax (kd L i))
    have h2 := h.step hax g1 g2 (Int.le_of_lt n0) (Uy _ _)
    obtain ⟨a, b, c⟩ := ih _ _ h2 (by rw [h2.len, ← h.len]; exact hq)
    exact ⟨a, by omega, fun _ => c (by omega)⟩
def qW (ax : Int) (c : ai) (p : List Int) (d : Nat) : Bool := match n_ c (p.take d) with
 | some z => fC ax z.f0
 | none => false
def Dl (ax : Int) (c : ai) (p : List Int) : Option Nat := nN (qW ax c p) p.length
theorem Dc : ∀ (p : List Int) (c x : ai), n_ c p = some x → ∀ d, d < p.length → ∃ z, n_ c (p.take d) = some z ∧ 0 ≤ rd p (d : Int) ∧ rd p (d : Int) < (z.f3.length : Int) := by
 intro p
 induction p with
 | nil => intro c x _ d h; simp at h
 | cons i is ih =>
  intro c x h d hd
  simp only [n_] at h
  split at h
  ·cases h
  ·rename_i hi
   cases d with
   | zero =>
    refine ⟨c, rfl, ?_⟩
    have e : rd (i :: is) ((0 : Nat) : Int) = i := rfl
    rw [e]
    omega
   | succ d =>
    obtain ⟨z, h1, h2⟩ := ih _ x h d (by simpa using hd)
    refine ⟨z, ?_, ?_⟩
    ·rw [List.take_succ_cons]
     simp only [n_]
     rw [if_neg hi]
     exact h1
    ·have e : rd (i :: is) ((d + 1 : Nat) : Int) = rd is (d : Int) := by unfold rd; rw [Int.toNat_natCast, Int.toNat_natCast]; rfl
     rw [e]
     exact h2
theorem Vz : ∀ (p : List Int) (c z : ai), di c = true → n_ c p = some z → di z = true := by
 intro p
 induction p with
 | nil => intro c z h e; simp only [n_] at e; injection e with e; rwa [← e]
 | cons i is ih =>
  intro c z h e
  simp only [n_] at e
  split at e
  ·cases e
  ·rename_i hi
   exact ih _ z (Pure.yf h (Hr c.f3 i (by omega) (by omega))) e
structure yT (ax : Int) (c : ai) (p : List Int) (d : Nat) (z : ai) (q : Nat) : Prop where
 hd : d < p.length
 at' : n_ c (p.take d) = some z
 al : fC ax z.f0 = true
 i0 : 0 ≤ rd p (d : Int)
 i1 : rd p (d : Int) < (z.f3.length : Int)
 len : 2 ≤ z.f3.length
 hq : (q : Int) = mn (rd p (d : Int)) ((z.f3.length : Int) - 2)
theorem yT.next {ax : Int} {c : ai} {p : List Int} {d : Nat} {z : ai} {q : Nat} (h : yT ax c p d z q) : q + 1 < z.f3.length := by
 have h1 := h.hq
 have h2 := h.len
 unfold mn at h1
 split at h1 <;> omega
theorem Qz {ax : Int} {c : ai} {p : List Int} {x : ai} {d : Nat} (hc : di c = true) (hx : n_ c p = some x) (h : Dl ax c p = some d) : ∃ z q, yT ax c p d z q ∧ di z = true := by
 obtain ⟨h1, h2⟩ := BO h
 obtain ⟨z, e, i0, i1⟩ := Dc p c x hx d h1
 unfold qW at h2
 rw [e] at h2
 simp only [] at h2
 have ht := Vz _ c z hc e
 have hk := w_ (nD (oZ (kH ht)))
 have hl : 2 ≤ z.f3.length := by
  rcases hk with ⟨a, _⟩ | ⟨_, b⟩
  ·unfold fC at h2; simp [a] at h2
  ·exact b
 refine ⟨z, (mn (rd p (d : Int)) ((z.f3.length : Int) - 2)).toNat, ⟨h1, e, h2, i0, i1, hl, ?_⟩, ht⟩
 have : 0 ≤ mn (rd p (d : Int)) ((z.f3.length : Int) - 2) := by unfold mn; split <;> omega
 omega
theorem Qy {ax : Int} {z : ai} (hax : ax = 1 ∨ ax = 2) (ht : di z = true) (ha : fC ax z.f0 = true) : qw ax (aV ax z.f1 - ((z.f3.length : Int) - 1)) z.f3 := by
 have hm := kH ht
 have hB := Gh ht
 have Tm : mF z = true := by rw [sS, Bool.and_eq_true] at hB; exact hB.1
 have hs := ny hm
 have hz := cO z
 have hl := ik z.f3
 have e : z.f0 - 1 = ax ∧ (z.f0 = 2 ∨ z.f0 = 3) := by
  unfold fC at ha
  simp at ha
  omega
 obtain ⟨g1, _⟩ := BU Tm e.2 (by omega)
 rw [e.1] at g1
 have hg := Pure.iT hax ht
 have hk : 2 ≤ z.f3.length := by
  rcases w_ (nD (oZ hm)) with ⟨a, _⟩ | ⟨_, b⟩
  ·omega
  ·exact b
 exact ⟨fun k hk => Pure.yf ht hk, by omega, by omega⟩
noncomputable def uF (ax id : Int) (c : ai) : Int := if di c = true ∧ (ax = 1 ∨ ax = 2) then (match fO id c with
 | none => 6
 | some p => match Dl ax c p with
  | none => 10
  | some _ => 0) else 1
end Go.Proofs.Ytfdmfgaiblfbhaa.P
namespace Go.Proofs.Ytfdmfgaiblfbhaa.P
open Go.RowKit Go.Proofs.ag.aK Go.Proofs.ag.bG Go.Proofs.ag.bV
attribute [local go_sem] jm jR jB kF
def qQ.T9 : Bool × List (List Nat × List Nat) := (true, [([], []), ([], []), ([], []), ([1, 2], [1, 2]), ([0, 3], [0, 3]), ([4], [4]), ([5], [5]), ([5], [5]), ([], []), ([8, 6, 4, 0, 1, 2, 3, 4, 5, 6, 8], [6, 8]), ([7, 9, 0, 1, 2, 3, 4, 5, 6, 7, 8, 9], [7])])
def qQ.B9 : List Nat := [0, 0, 0, 6, 15, 31, 63, 63, 0, 383, 1023]
theorem qQ.zK : g_ .any (opsOf Try.f157 9) = qQ.T9 := by kernel_rfl
theorem qQ.vU : iO qQ.T9.2 qQ.B9 = true := by kernel_rfl
def vF.T11 : Bool × List (List Nat × List Nat) := (true, [([], []), ([], []), ([], []), ([1, 2], [1, 2]), ([], []), ([], []), ([4, 5], [4, 5]), ([6], [6]), ([], []), ([8], [8]), ([9], [9]), ([10], [10]), ([7, 11], [7, 11]), ([], []), ([0, 3, 12, 13], [0, 3, 12, 13]), ([14, 0, 1, 2, 3, 4, 5, 6, 7, 8, 9, 10, 11, 12, 13, 14], [14]), ([15, 0, 1, 2, 3, 4, 5, 6, 7, 8, 9, 10, 11, 12, 13, 14, 15], [])])
def vF.B11 : List Nat := [0, 0, 0, 6, 0, 0, 48, 112, 0, 256, 768, 1792, 4080, 0, 16383, 32767, 65535]
theorem vF.afO : g_ .any (opsOf Try.f157 11) = vF.T11 := by kernel_rfl
theorem vF.acf : iO vF.T11.2 vF.B11 = true := by kernel_rfl
abbrev YA (w : World) (n : Int) (e : Ending) (w' : World) : Prop := e = .returned (.tuple #[.agg #[.int .u8 0, .int .i64 0, .int .i64 0, .int .i64 0, .int .i64 0, .int .i64 0, .slice none 0 0, .slice none 0 0, .int .i64 0, .int .u8 0], .int .i64 n]) ∧ Below w.heap.size w w'
abbrev abt (w : World) (P : Nat → Prop) (ax : Int) (p : List Int) (d : Nat) (z : ai) (q : Nat) (e : Ending) (w' : World) : Prop := ∃ Az cz Ap cp op, e = .returned (.tuple #[.agg #[.int .u8 z.f0, .int .i64 z.f1.f0, .int .i64 z.f1.f1, .int .i64 z.f1.f2, .int .i64 z.f1.f3, .int .i64 z.f2, .slice Az z.f3.length cz, .slice Ap (p.take d).length cp, .int .i64 (q : Int), .int .u8 ax], .int .i64 0]) ∧ IR w.heap.size (.slice Ap p.length cp) p op ∧ St w P [((Value.slice Ap p.length cp).ownBlock, op)] [(.slice Az z.f3.length cz, z.f3)] [] [] w'
theorem Io (c : ai) (hz : sz c ≤ 1000000) (id ax : Int) (b : Nat) (P : Nat → Prop) (A : Option Addr) (cc : Nat) (w : World) (hv : Kd.V k26 26 w b P (.slice A c.f3.length cc) c.f3) :
  (∀ n, uF ax id c = n → n ≠ 0 → Calls Try.prog 157 #[.agg #[.int .u8 c.f0, .int .i64 c.f1.f0, .int .i64 c.f1.f1, .int .i64 c.f1.f2, .int .i64 c.f1.f3, .int .i64 c.f2, .slice A c.f3.length cc], .int .i64 id, .int .u8 ax] w (YA w n)) ∧
  (∀ p d z q, di c = true → (ax = 1 ∨ ax = 2) → fO id c = some p → Dl ax c p = some d → yT ax c p d z q → Calls Try.prog 157 #[.agg #[.int .u8 c.f0, .int .i64 c.f1.f0, .int .i64 c.f1.f1, .int .i64 c.f1.f2, .int .i64 c.f1.f3, .int .i64 c.f2, .slice A c.f3.length cc], .int .i64 id, .int .u8 ax] w (abt w P ax p d z q)) := by
 have S := ae.mk (St.start (ts := [(.slice A c.f3.length cc, c.f3)]) (b0 := w.heap.size) (w := w) (P := P) (fun t ht => by rw [List.mem_singleton.1 ht]; exact fK hv))
 have CE := ae.mk (show sz c ≤ 1048576 by omega)
 have HZ := ae.mk hz
 have hpl := fun p (h : fO id c = some p) => (BN id (sz c)).1 c (Nat.le_refl _) p h
 clear hz hv
 obtain ⟨ck, ⟨cx, cy, cw, ch⟩, aU, l⟩ := c
 simp only [] at S ⊢
 constructor
 ·intro n hn hn0
  unfold uF at hn
  cases ht : di ⟨ck, ⟨cx, cy, cw, ch⟩, aU, l⟩ with
  | false =>
   rw [if_neg (fun h => by rw [ht] at h; cases h.1)] at hn
   subst hn
   have HT := ae.mk ht
   clear ht hn0 hpl
   go_enter Try.func157, Try.ntmps157
   go_wp2_with (first | (refine boxS 3 _ 26 S ?_; clear S; intro b3 dF S) | (refine boxS 6 _ 147 S ?_; clear S; intro b6 dV S; obtain ⟨a_, aW, aY, aX, bM, bP, bC⟩ := St.ed S bI) | ((with_reducible refine aG (N := 14) rfl ?_); refine tH (N := 14) rfl rfl ⟨ck, ⟨cx, cy, cw, ch⟩, aU, l⟩ S.out (S.out.tree _ (.head _)) ?hr ?_; (case hr => (go_simp; rfl)); intro P8 Qu fV S1 h1 h2; replace S := ae.mk S1; have rO := ae.mk h1; have vI := ae.mk h2; clear S1 h1 h2; clear a_ aW aY aX bM bP bC) | (refine bH (some 15) Try.func148 S (nH HT.out (tN ⟨ck, ⟨cx, cy, cw, ch⟩, aU, l⟩ CE.out vI.out rO.out)) ?_; clear S; intro iQ S) | (refine gX 147 6 25 #[.int .u8 0, .int .i64 0, .int .i64 0, .int .i64 0, .int .i64 0, .int .i64 0, .slice none 0 0, .slice none 0 0, .int .i64 0, .int .u8 0] 0 10 S ?_; clear S; intro mO S))
   refine bodyPost_ret (fB rfl _ _ b6 147 _ (0, 0) _ rfl (S.out.blk _ (.head _) _ rfl) Try.underlying147 rfl (by kernel_rfl)) rfl ?_
   exact ⟨rfl, S.out.below⟩
  | true =>
   have HT := ae.mk ht
   by_cases h1 : ax = 1 ∨ ax = 2
   case neg =>
    rw [if_neg (fun h => h1 h.2)] at hn
    subst hn
    obtain ⟨hxa, hxb, hxd⟩ := eqF (a := ax) (b := 1) (by omega)
    obtain ⟨hya, hyb, hyd⟩ := eqF (a := ax) (b := 2) (by omega)
    clear ht hn0 hpl h1
    go_enter Try.func157, Try.ntmps157
    go_wp2_with (first | (refine boxS 3 _ 26 S ?_; clear S; intro b3 dF S) | (refine boxS 6 _ 147 S ?_; clear S; intro b6 dV S; obtain ⟨a_, aW, aY, aX, bM, bP, bC⟩ := St.ed S bI) | ((with_reducible refine aG (N := 14) rfl ?_); refine tH (N := 14) rfl rfl ⟨ck, ⟨cx, cy, cw, ch⟩, aU, l⟩ S.out (S.out.tree _ (.head _)) ?hr ?_; (case hr => (go_simp; rfl)); intro P8 Qu fV S1 h1 h2; replace S := ae.mk S1; have rO := ae.mk h1; have vI := ae.mk h2; clear S1 h1 h2; clear a_ aW aY aX bM bP bC) | (refine bH (some 15) Try.func148 S (nH HT.out (tN ⟨ck, ⟨cx, cy, cw, ch⟩, aU, l⟩ CE.out vI.out rO.out)) ?_; clear S; intro iQ S) | (refine gX 147 6 25 #[.int .u8 0, .int .i64 0, .int .i64 0, .int .i64 0, .int .i64 0, .int .i64 0, .slice none 0 0, .slice none 0 0, .int .i64 0, .int .u8 0] 0 10 S ?_; clear S; intro mO S))
    refine bodyPost_ret (fB rfl _ _ b6 147 _ (0, 0) _ rfl (S.out.blk _ (.head _) _ rfl) Try.underlying147 rfl (by kernel_rfl)) rfl ?_
    exact ⟨rfl, S.out.below⟩
   rw [if_pos ⟨ht, h1⟩] at hn
   cases hf : fO id ⟨ck, ⟨cx, cy, cw, ch⟩, aU, l⟩ with
   | none =>
    rw [hf] at hn
    simp only [] at hn
    subst hn
    have CV := ae.mk hf
    clear ht hn0 hpl hf
    have hw : ((ax != 1) = false ∧ decide (ax = 1) = true ∧ (ax == 1) = true) ∨ ((ax != 1) = true ∧ decide (ax = 1) = false ∧ (ax == 1) = false ∧ (ax != 2) = false ∧ decide (ax = 2) = true ∧ (ax == 2) = true) := by rcases h1 with h | h <;> subst h <;> simp
    rcases hw with ⟨hxa, hxb, Uh⟩ | ⟨hxa, hxb, Uh, hxd, hxe, hxf⟩
    all_goals
     clear h1
     go_enter Try.func157, Try.ntmps157
     go_wp2_with (first | (refine boxS 3 _ 26 S ?_; clear S; intro b3 dF S) | (refine boxS 6 _ 147 S ?_; clear S; intro b6 dV S; obtain ⟨a_, aW, aY, aX, bM, bP, bC⟩ := St.ed S bI) | ((with_reducible refine aG (N := 14) rfl ?_); refine tH (N := 14) rfl rfl ⟨ck, ⟨cx, cy, cw, ch⟩, aU, l⟩ S.out (S.out.tree _ (.head _)) ?hr ?_; (case hr => (go_simp; rfl)); intro P8 Qu fV S1 h1 h2; replace S := ae.mk S1; have rO := ae.mk h1; have vI := ae.mk h2; clear S1 h1 h2; clear a_ aW aY aX bM bP bC) | (refine bH (some 15) Try.func148 S (nH HT.out (tN ⟨ck, ⟨cx, cy, cw, ch⟩, aU, l⟩ CE.out vI.out rO.out)) ?_; clear S; intro iQ S; obtain ⟨a_, aW, aY, aX, bM, bP, bC⟩ := St.ed S bI) | (refine Ey (some 29) Try.func89 S (YS id ⟨ck, ⟨cx, cy, cw, ch⟩, aU, l⟩ CV.out HZ.out (S.out.tree _ (.head _))) ?_; clear S; intro Ap cp op mO S iG; clear a_ aW aY aX bM bP bC) | (refine Aw 147 6 34 #[.int .u8 0, .int .i64 0, .int .i64 0, .int .i64 0, .int .i64 0, .int .i64 0, .slice none 0 0, .slice none 0 0, .int .i64 0, .int .u8 0] 0 10 S ?_; clear S; intro Bz S))
     refine bodyPost_ret (fB rfl _ _ b6 147 _ (0, 0) _ rfl (S.out.blk _ bI _ rfl) Try.underlying147 rfl (by kernel_rfl)) rfl ?_
     exact ⟨rfl, S.out.below⟩
   | some p =>
    rw [hf] at hn
    simp only [] at hn
    have uV := ae.mk (show p.length ≤ 1000000 by have := hpl p hf; have := HZ.out; omega)
    have CV := ae.mk hf
    obtain ⟨x, hx, _⟩ := (A_ id _).1 _ (Nat.le_refl _) p hf
    have HX := ae.mk hx
    cases hfr : Dl ax ⟨ck, ⟨cx, cy, cw, ch⟩, aU, l⟩ p with
    | some d => rw [hfr] at hn; exact absurd hn.symm hn0
    | none =>
     rw [hfr] at hn
     simp only [] at hn
     subst hn
     have HR := ae.mk (show nN (qW ax ⟨ck, ⟨cx, cy, cw, ch⟩, aU, l⟩ p) p.length = none from hfr)
     clear ht hn0 hpl hf hx hfr
     have hw : ((ax != 1) = false ∧ decide (ax = 1) = true ∧ (ax == 1) = true) ∨ ((ax != 1) = true ∧ decide (ax = 1) = false ∧ (ax == 1) = false ∧ (ax != 2) = false ∧ decide (ax = 2) = true ∧ (ax == 2) = true) := by rcases h1 with h | h <;> subst h <;> simp
     rcases hw with ⟨hxa, hxb, Uh⟩ | ⟨hxa, hxb, Uh, hxd, hxe, hxf⟩
     all_goals
      clear h1
      go_enter Try.func157, Try.ntmps157
      go_wp2_with (first | (refine boxS 3 _ 26 S ?_; clear S; intro b3 dF S) | (refine boxS 6 _ 147 S ?_; clear S; intro b6 dV S; obtain ⟨a_, aW, aY, aX, bM, bP, bC⟩ := St.ed S bI) | ((with_reducible refine aG (N := 14) rfl ?_); refine tH (N := 14) rfl rfl ⟨ck, ⟨cx, cy, cw, ch⟩, aU, l⟩ S.out (S.out.tree _ (.head _)) ?hr ?_; (case hr => (go_simp; rfl)); intro P8 Qu fV S1 h1 h2; replace S := ae.mk S1; have rO := ae.mk h1; have vI := ae.mk h2; clear S1 h1 h2; clear a_ aW aY aX bM bP bC) | (refine bH (some 15) Try.func148 S (nH HT.out (tN ⟨ck, ⟨cx, cy, cw, ch⟩, aU, l⟩ CE.out vI.out rO.out)) ?_; clear S; intro iQ S; obtain ⟨a_, aW, aY, aX, bM, bP, bC⟩ := St.ed S bI) | (refine Ey (some 29) Try.func89 S (Jz id ⟨ck, ⟨cx, cy, cw, ch⟩, aU, l⟩ p CV.out HZ.out (S.out.tree _ (.head _))) ?_; clear S; intro Ap cp op mO S iG; clear a_ aW aY aX bM bP bC))
      go_loopg [10] (p.length + 1) (fun gg v10 wr => ∃ n : Nat, v10 = .int .i64 ((n : Int) - 1) ∧ ae (n ≤ p.length) ∧ n ≤ gg ∧ ae (nN (qW ax ⟨ck, ⟨cx, cy, cw, ch⟩, aU, l⟩ p) n = none) ∧ ae (St w P [((Value.slice Ap p.length cp).ownBlock, op), (some b6, .cells #[.int .u8 0, .int .i64 0, .int .i64 0, .int .i64 0, .int .i64 0, .int .i64 0, .slice none 0 0, .slice none 0 0, .int .i64 0, .int .u8 0] 147 (0, 0)), (some b3, .cells #[.int .u8 ck, .int .i64 cx, .int .i64 cy, .int .i64 cw, .int .i64 ch, .int .i64 aU, .slice A l.length cc] 26 (0, 0))] [] [(.slice A l.length cc, l)] [] wr))
      case atStart => exact ⟨p.length, (by have := uV.out; congr 1; unfold wrap64; omega), ⟨Nat.le_refl _⟩, Nat.le_succ _, HR, S⟩
      case round =>
       clear S HR
       obtain ⟨n, rfl, HN, hgg, HR, S⟩ := hrel
       cases n with
       | zero =>
        go_wp2_with ((refine Aw 147 6 68 #[.int .u8 0, .int .i64 0, .int .i64 0, .int .i64 0, .int .i64 0, .int .i64 0, .slice none 0 0, .slice none 0 0, .int .i64 0, .int .u8 0] 0 10 S ?_; clear S; intro dF S))
        refine bodyPost_ret (fB rfl _ _ b6 147 _ (0, 0) _ rfl (S.out.blk _ bI _ rfl) Try.underlying147 rfl (by kernel_rfl)) rfl ?_
        exact ⟨rfl, S.out.below⟩
       | succ n =>
        have e1 : (((n + 1 : Nat) : Int) - 1) = (n : Int) := by omega
        rw [e1]
        have lK := ae.mk (show n < p.length from HN.out)
        have fF := ae.mk hgg
        have hw : wrap64 ((n : Int) - 1) = (n : Int) - 1 := by have := HN.out; have := uV.out; unfold wrap64; omega
        have HW := ae.mk hw
        have h0 : decide ((n : Int) ≥ 0) = true := decide_eq_true (Int.natCast_nonneg _)
        have wO : (0 : Int) ≤ (n : Int) := Int.natCast_nonneg _
        obtain ⟨z, qC, hi0, hi1⟩ := Dc p ⟨ck, ⟨cx, cy, cw, ch⟩, aU, l⟩ _ HX.out n lK.out
        obtain ⟨pq, hpq⟩ : ∃ pq, pq = p.take n := ⟨_, rfl⟩
        have hal : qW ax ⟨ck, ⟨cx, cy, cw, ch⟩, aU, l⟩ p n = fC ax z.f0 := by unfold qW; rw [qC]
        rw [← hpq] at qC
        have HAT := ae.mk qC
        have jl := ae.mk (And.intro hpq (Nat.le_of_lt lK.out))
        have Ff := ae.mk (show pq.length ≤ 1048576 by rw [hpq, List.length_take]; have := uV.out; omega)
        have hcut : ∀ W : World, (Instr.slice 41 (.slice Ap p.length cp) none (some (.int .i64 (n : Int))) none).run Try.prog W = .ok (.slice Ap pq.length cp) W := by
         intro W
         obtain ⟨i0, hi0, _, hsz, _⟩ := info_parts info3
         have h := GN (P := Try.prog) 41 3 .i64 Try.underlying41 hi0 Ap p.length cp (n : Int) (Int.natCast_nonneg _) (by have := lK.out; omega) (Fh iG.out S.out (.head _)).2 W
         rw [Int.toNat_natCast, show n = pq.length by rw [hpq, List.length_take]; have := lK.out; omega] at h
         rw [show n = pq.length by rw [hpq, List.length_take]; have := lK.out; omega]
         exact h
        have hr := HR.out
        rw [nN, hal] at hr
        clear hw hgg e1 hal hpq qC hi0 hi1
        cases ha : fC ax z.f0 with
        | false =>
         rw [ha, if_neg (by simp)] at hr
         replace HR := ae.mk hr
         have HA := ae.mk ha
         clear hr ha
         go_wp2
         refine iU (n := 11) (S := fun w' => St w _ _ _ _ _ w') (ds := [9]) (bA 11 0) (by kernel_rfl) rfl rfl (S.out.call (bJ (Below.refl _ _))) (fun hHeld => ?_); refine eU qQ.zK qQ.vU (fun aj dY => ?_)
         replace S := ae.mk (S.out.call (bJ (Below.refl _ _)))
         generalize wr.drew = CS at S hHeld ⊢
         refine dN 0 43 (bA 11 1) aj dY hHeld ?_ (hv := by intro w' hs_; have a_ := (hs_.at dQ 0).trans rfl; have aW := (hs_.at dQ 1).trans rfl; have aY := (hs_.at dQ 2).trans rfl; have aX := (hs_.at dQ 3).trans rfl; have bM := (hs_.at dQ 4).trans rfl; have bP := (hs_.at dQ 5).trans rfl; have bC := (hs_.at dQ 6).trans rfl; go_simp; with_reducible rfl)
         refine ay 1 44 (bA 11 3) aj ?_
         refine ay 2 45 (bA 11 7) aj ?_
         refine ay 3 46 (bA 11 15) aj ?_
         refine zX (σ := Option Addr × Nat × Nat) 2 (bA 11 511) (fun s_ => [(47, .tuple #[.agg #[.int .u8 z.f0, .int .i64 z.f1.f0, .int .i64 z.f1.f1, .int .i64 z.f1.f2, .int .i64 z.f1.f3, .int .i64 z.f2, .slice s_.1 z.f3.length s_.2.1], .bool true]), (42, .tuple #[.agg #[.int .u8 z.f0, .int .i64 z.f1.f0, .int .i64 z.f1.f1, .int .i64 z.f1.f2, .int .i64 z.f1.f3, .int .i64 z.f2, .slice s_.1 z.f3.length s_.2.1], .bool true]), (48, .agg #[.int .u8 z.f0, .int .i64 z.f1.f0, .int .i64 z.f1.f1, .int .i64 z.f1.f2, .int .i64 z.f1.f3, .int .i64 z.f2, .slice s_.1 z.f3.length s_.2.1]), (49, .bool true), (11, .pointer (some ⟨s_.2.2, 0, none⟩))]) (fun s_ w' => St w P [(some s_.2.2, .cells #[.int .u8 0, .int .i64 0, .int .i64 0, .int .i64 0, .int .i64 0, .int .i64 0, .slice none 0 0] 26 (0, 0)), ((Value.slice Ap p.length cp).ownBlock, op), (some b6, .cells #[.int .u8 0, .int .i64 0, .int .i64 0, .int .i64 0, .int .i64 0, .int .i64 0, .slice none 0 0, .slice none 0 0, .int .i64 0, .int .u8 0] 147 (0, 0)), (some b3, .cells #[.int .u8 ck, .int .i64 cx, .int .i64 cy, .int .i64 cw, .int .i64 ch, .int .i64 aU, .slice A l.length cc] 26 (0, 0))] [(.slice s_.1 z.f3.length s_.2.1, z.f3)] [(.slice A l.length cc, l)] [] w') ?_ ?_
         rotate_left
         ·intro kS
          refine Eg (i := 4) (j := 8) (Ni := some 47) (Nj := some 11) (bA 11 31) (bA 11 271) rfl rfl rfl rfl (yg aj.out (by kernel_rfl)) (by decide) (by decide) (fun K hK => ?_) (fun K hK => ?_)
          ·skip
           refine jD Try.func91 (by kernel_rfl) rfl #[.agg #[.int .u8 ck, .int .i64 cx, .int .i64 cy, .int .i64 cw, .int .i64 ch, .int .i64 aU, .slice A l.length cc], .slice Ap pq.length cp] (by rfl) rfl rfl (by (try simp only [List.map_toArray, List.map_cons, List.map_nil]); rfl) ?_
           refine (Ib ⟨ck, ⟨cx, cy, cw, ch⟩, aU, l⟩ pq z HAT.out Ff.out HZ.out (S.out.tree _ (.head _)) (eQ iG.out S.out (.head _) jl.out).1 (eQ iG.out S.out (.head _) jl.out).2).mono ?_
           rintro e dV ⟨Az, cz, rfl, h1, hb⟩
           refine ⟨_, rfl, ?_⟩
           replace S := ae.mk (S.out.yC h1 hb)
           clear h1 hb
           refine hK.out _ _ S.out.free.dE (fun hHeld => ?_)
           clear hK K
           refine d_ 47 ?_
           refine ay 5 42 (bA 11 63) aj ?_
           refine ay 6 48 (bA 11 127) aj ?_
           refine ay 7 49 (bA 11 255) aj ?_
           refine jH 8 (some 11) (bA 11 511) aj (fun K hK => ?_)
           refine jF ?hg (N := 11) ?hd (cs := #[.int .u8 0, .int .i64 0, .int .i64 0, .int .i64 0, .int .i64 0, .int .i64 0, .slice none 0 0]) (t := 26) ?hr ?_; (case hd => rfl); (case hg => rfl); (case hr => (go_simp; done))
           intro b11 hg fV hbox hb
           replace S := ae.mk (S.out.box hg hbox hb)
           clear hg hbox hb
           refine hK.out _ _ S.out.dP.free.dE (fun hHeld => ?_)
           clear hK K
           refine d_ 11 ?_
           exact l_ (by simp only [iL, Act.put, List.setIfInBounds_toArray, List.set_cons_zero, List.set_cons_succ] <;> rfl) (kS (Az, cz, b11) _ S.out)
          ·skip
           refine jF ?hg (N := 11) ?hd (cs := #[.int .u8 0, .int .i64 0, .int .i64 0, .int .i64 0, .int .i64 0, .int .i64 0, .slice none 0 0]) (t := 26) ?hr ?_; (case hd => rfl); (case hg => rfl); (case hr => (go_simp; done))
           intro b11 hg iQ hbox hb
           replace S := ae.mk (S.out.box hg hbox hb)
           clear hg hbox hb
           refine hK.out _ _ S.out.dP (fun hHeld => ?_)
           clear hK K
           refine d_ 11 ?_
           refine jH 4 (some 47) (bA 11 287) aj (fun K hK => ?_)
           refine jD Try.func91 (by kernel_rfl) rfl #[.agg #[.int .u8 ck, .int .i64 cx, .int .i64 cy, .int .i64 cw, .int .i64 ch, .int .i64 aU, .slice A l.length cc], .slice Ap pq.length cp] (by rfl) rfl rfl (by (try simp only [List.map_toArray, List.map_cons, List.map_nil]); rfl) ?_
           refine (Ib ⟨ck, ⟨cx, cy, cw, ch⟩, aU, l⟩ pq z HAT.out Ff.out HZ.out (S.out.tree _ (.head _)) (eQ iG.out S.out bI jl.out).1 (eQ iG.out S.out bI jl.out).2).mono ?_
           rintro e mO ⟨Az, cz, rfl, h1, hb⟩
           refine ⟨_, rfl, ?_⟩
           replace S := ae.mk (S.out.yC h1 hb)
           clear h1 hb
           refine hK.out _ _ S.out.dP.free.dE (fun hHeld => ?_)
           clear hK K
           refine d_ 47 ?_
           refine ay 5 42 (bA 11 319) aj ?_
           refine ay 6 48 (bA 11 383) aj ?_
           refine ay 7 49 (bA 11 511) aj ?_
           exact l_ (by simp only [iL, Act.put, List.setIfInBounds_toArray, List.set_cons_zero, List.set_cons_succ] <;> rfl) (kS (Az, cz, b11) _ S.out)
         rintro ⟨Az, cz, b11⟩ PX S1
         simp only [iL, Act.put, List.setIfInBounds_toArray, List.set_cons_zero, List.set_cons_succ]
         replace S := ae.mk S1
         clear S1 hHeld
         have hHeld := S.out.dP.free.dE
         refine oP 9 none (bA 11 1023) aj (fun K hK => ?_)
         refine oD 0 rfl 26 (.tmp 11) (.tmp 48) rfl #[.int .u8 z.f0, .int .i64 z.f1.f0, .int .i64 z.f1.f1, .int .i64 z.f1.f2, .int .i64 z.f1.f3, .int .i64 z.f2, .slice Az z.f3.length cz] (j := 0) (u := .agg #[.int .u8 z.f0, .int .i64 z.f1.f0, .int .i64 z.f1.f1, .int .i64 z.f1.f2, .int .i64 z.f1.f3, .int .i64 z.f2, .slice Az z.f3.length cz]) (bK := [.int .u8 z.f0, .int .i64 z.f1.f0, .int .i64 z.f1.f1, .int .i64 z.f1.f2, .int .i64 z.f1.f3, .int .i64 z.f2, .slice Az z.f3.length cz]) S.out (by rfl) rfl rfl rfl rfl (by kernel_rfl) (by simp [Value.oneCell']) (by simp) rfl ?_
         intro yH S1
         simp only [List.set_cons_zero, List.set_cons_succ] at S1
         replace S := ae.mk S1
         clear S1
         refine hK.out _ _ ?_
         clear hK K
         refine ay 10 12 (bA 11 2047) aj ?_
         refine jJ (gK aj.out (by kernel_rfl)) ?_
         clear hHeld
         obtain ⟨uu, uw, uy, uz, uA, uB, rY⟩ := St.ed S (.head _)
         go_wp2_with ((refine bH (some 52) Try.func99 S (AX (c := z) HA.out (Kd.qL (base' := 0) (S.out.own _ (.head _)))) ?_; clear S; intro zL S; clear uu uw uy uz uA uB rY))
         have hw := HW.out
         go_wp2
         go_roundg n
         case measure => exact Nat.lt_of_lt_of_le (Nat.lt_succ_self _) fF.out
         case rel => exact ⟨n, (by rw [hw]), ⟨by have := HN.out; omega⟩, Nat.le_refl _, HR, ⟨S.out.free.dE.dP.vk.vk.vk⟩⟩
        | true =>
         rw [ha, if_pos rfl] at hr
         cases hr
 ·intro p d z q ht h1 hf hfr hF
  have uV := ae.mk (show p.length ≤ 1000000 by have := hpl p hf; have := HZ.out; omega)
  have CV := ae.mk hf
  obtain ⟨x, hx, _⟩ := (A_ id _).1 _ (Nat.le_refl _) p hf
  have HX := ae.mk hx
  have HT := ae.mk ht
  have wK := ae.mk hF
  have wL := ae.mk (show z.f3.length ≤ 1000000 by have h2 := Ic _ _ _ hF.at'; have h3 := cO z; have h4 := ik z.f3; have := HZ.out; omega)
  have HR := ae.mk (show nN (qW ax ⟨ck, ⟨cx, cy, cw, ch⟩, aU, l⟩ p) p.length = some d from hfr)
  clear ht hpl hf hx hfr hF
  have hw : ((ax != 1) = false ∧ decide (ax = 1) = true ∧ (ax == 1) = true) ∨ ((ax != 1) = true ∧ decide (ax = 1) = false ∧ (ax == 1) = false ∧ (ax != 2) = false ∧ decide (ax = 2) = true ∧ (ax == 2) = true) := by rcases h1 with h | h <;> subst h <;> simp
  rcases hw with ⟨hxa, hxb, Uh⟩ | ⟨hxa, hxb, Uh, hxd, hxe, hxf⟩
  all_goals
   clear h1
   go_enter Try.func157, Try.ntmps157
   go_wp2_with (first | (refine boxS 3 _ 26 S ?_; clear S; intro b3 dF S) | (refine boxS 6 _ 147 S ?_; clear S; intro b6 dV S; obtain ⟨a_, aW, aY, aX, bM, bP, bC⟩ := St.ed S bI) | ((with_reducible refine aG (N := 14) rfl ?_); refine tH (N := 14) rfl rfl ⟨ck, ⟨cx, cy, cw, ch⟩, aU, l⟩ S.out (S.out.tree _ (.head _)) ?hr ?_; (case hr => (go_simp; rfl)); intro P8 Qu fV S1 h1 h2; replace S := ae.mk S1; have rO := ae.mk h1; have vI := ae.mk h2; clear S1 h1 h2; clear a_ aW aY aX bM bP bC) | (refine bH (some 15) Try.func148 S (nH HT.out (tN ⟨ck, ⟨cx, cy, cw, ch⟩, aU, l⟩ CE.out vI.out rO.out)) ?_; clear S; intro iQ S; obtain ⟨a_, aW, aY, aX, bM, bP, bC⟩ := St.ed S bI) | (refine Ey (some 29) Try.func89 S (Jz id ⟨ck, ⟨cx, cy, cw, ch⟩, aU, l⟩ p CV.out HZ.out (S.out.tree _ (.head _))) ?_; clear S; intro Ap cp op mO S iG; clear a_ aW aY aX bM bP bC))
   go_loopg [10] (p.length + 1) (fun gg v10 wr => ∃ n : Nat, v10 = .int .i64 ((n : Int) - 1) ∧ ae (n ≤ p.length) ∧ n ≤ gg ∧ ae (nN (qW ax ⟨ck, ⟨cx, cy, cw, ch⟩, aU, l⟩ p) n = some d) ∧ ae (St w P [((Value.slice Ap p.length cp).ownBlock, op), (some b6, .cells #[.int .u8 0, .int .i64 0, .int .i64 0, .int .i64 0, .int .i64 0, .int .i64 0, .slice none 0 0, .slice none 0 0, .int .i64 0, .int .u8 0] 147 (0, 0)), (some b3, .cells #[.int .u8 ck, .int .i64 cx, .int .i64 cy, .int .i64 cw, .int .i64 ch, .int .i64 aU, .slice A l.length cc] 26 (0, 0))] [] [(.slice A l.length cc, l)] [] wr))
   case atStart => exact ⟨p.length, (by have := uV.out; congr 1; unfold wrap64; omega), ⟨Nat.le_refl _⟩, Nat.le_succ _, HR, S⟩
   case round =>
    clear S HR
    obtain ⟨n, rfl, HN, hgg, HR, S⟩ := hrel
    cases n with
    | zero =>
     have h := HR.out
     cases h
    | succ n =>
     have e1 : (((n + 1 : Nat) : Int) - 1) = (n : Int) := by omega
     rw [e1]
     have lK := ae.mk (show n < p.length from HN.out)
     have fF := ae.mk hgg
     have hw : wrap64 ((n : Int) - 1) = (n : Int) - 1 := by have := HN.out; have := uV.out; unfold wrap64; omega
     have HW := ae.mk hw
     have h0 : decide ((n : Int) ≥ 0) = true := decide_eq_true (Int.natCast_nonneg _)
     have wO : (0 : Int) ≤ (n : Int) := Int.natCast_nonneg _
     obtain ⟨z, qC, hi0, hi1⟩ := Dc p ⟨ck, ⟨cx, cy, cw, ch⟩, aU, l⟩ _ HX.out n lK.out
     obtain ⟨pq, hpq⟩ : ∃ pq, pq = p.take n := ⟨_, rfl⟩
     have hal : qW ax ⟨ck, ⟨cx, cy, cw, ch⟩, aU, l⟩ p n = fC ax z.f0 := by unfold qW; rw [qC]
     rw [← hpq] at qC
     have HAT := ae.mk qC
     have jl := ae.mk (And.intro hpq (Nat.le_of_lt lK.out))
     have Ff := ae.mk (show pq.length ≤ 1048576 by rw [hpq, List.length_take]; have := uV.out; omega)
     have hcut : ∀ W : World, (Instr.slice 41 (.slice Ap p.length cp) none (some (.int .i64 (n : Int))) none).run Try.prog W = .ok (.slice Ap pq.length cp) W := by
      intro W
      obtain ⟨i0, hi0, _, hsz, _⟩ := info_parts info3
      have h := GN (P := Try.prog) 41 3 .i64 Try.underlying41 hi0 Ap p.length cp (n : Int) (Int.natCast_nonneg _) (by have := lK.out; omega) (Fh iG.out S.out (.head _)).2 W
      rw [Int.toNat_natCast, show n = pq.length by rw [hpq, List.length_take]; have := lK.out; omega] at h
      rw [show n = pq.length by rw [hpq, List.length_take]; have := lK.out; omega]
      exact h
     have hr := HR.out
     rw [nN, hal] at hr
     clear hw hgg e1 hal hpq qC hi0 hi1
     cases ha : fC ax z.f0 with
     | false =>
      rw [ha, if_neg (by simp)] at hr
      replace HR := ae.mk hr
      have HA := ae.mk ha
      clear hr ha
      go_wp2
      refine iU (n := 11) (S := fun w' => St w _ _ _ _ _ w') (ds := [9]) (bA 11 0) (by kernel_rfl) rfl rfl (S.out.call (bJ (Below.refl _ _))) (fun hHeld => ?_); refine eU qQ.zK qQ.vU (fun aj dY => ?_)
      replace S := ae.mk (S.out.call (bJ (Below.refl _ _)))
      generalize wr.drew = CS at S hHeld ⊢
      refine dN 0 43 (bA 11 1) aj dY hHeld ?_ (hv := by intro w' hs_; have a_ := (hs_.at dQ 0).trans rfl; have aW := (hs_.at dQ 1).trans rfl; have aY := (hs_.at dQ 2).trans rfl; have aX := (hs_.at dQ 3).trans rfl; have bM := (hs_.at dQ 4).trans rfl; have bP := (hs_.at dQ 5).trans rfl; have bC := (hs_.at dQ 6).trans rfl; go_simp; with_reducible rfl)
      refine ay 1 44 (bA 11 3) aj ?_
      refine ay 2 45 (bA 11 7) aj ?_
      refine ay 3 46 (bA 11 15) aj ?_
      refine zX (σ := Option Addr × Nat × Nat) 2 (bA 11 511) (fun s_ => [(47, .tuple #[.agg #[.int .u8 z.f0, .int .i64 z.f1.f0, .int .i64 z.f1.f1, .int .i64 z.f1.f2, .int .i64 z.f1.f3, .int .i64 z.f2, .slice s_.1 z.f3.length s_.2.1], .bool true]), (42, .tuple #[.agg #[.int .u8 z.f0, .int .i64 z.f1.f0, .int .i64 z.f1.f1, .int .i64 z.f1.f2, .int .i64 z.f1.f3, .int .i64 z.f2, .slice s_.1 z.f3.length s_.2.1], .bool true]), (48, .agg #[.int .u8 z.f0, .int .i64 z.f1.f0, .int .i64 z.f1.f1, .int .i64 z.f1.f2, .int .i64 z.f1.f3, .int .i64 z.f2, .slice s_.1 z.f3.length s_.2.1]), (49, .bool true), (11, .pointer (some ⟨s_.2.2, 0, none⟩))]) (fun s_ w' => St w P [(some s_.2.2, .cells #[.int .u8 0, .int .i64 0, .int .i64 0, .int .i64 0, .int .i64 0, .int .i64 0, .slice none 0 0] 26 (0, 0)), ((Value.slice Ap p.length cp).ownBlock, op), (some b6, .cells #[.int .u8 0, .int .i64 0, .int .i64 0, .int .i64 0, .int .i64 0, .int .i64 0, .slice none 0 0, .slice none 0 0, .int .i64 0, .int .u8 0] 147 (0, 0)), (some b3, .cells #[.int .u8 ck, .int .i64 cx, .int .i64 cy, .int .i64 cw, .int .i64 ch, .int .i64 aU, .slice A l.length cc] 26 (0, 0))] [(.slice s_.1 z.f3.length s_.2.1, z.f3)] [(.slice A l.length cc, l)] [] w') ?_ ?_
      rotate_left
      ·intro kS
       refine Eg (i := 4) (j := 8) (Ni := some 47) (Nj := some 11) (bA 11 31) (bA 11 271) rfl rfl rfl rfl (yg aj.out (by kernel_rfl)) (by decide) (by decide) (fun K hK => ?_) (fun K hK => ?_)
       ·skip
        refine jD Try.func91 (by kernel_rfl) rfl #[.agg #[.int .u8 ck, .int .i64 cx, .int .i64 cy, .int .i64 cw, .int .i64 ch, .int .i64 aU, .slice A l.length cc], .slice Ap pq.length cp] (by rfl) rfl rfl (by (try simp only [List.map_toArray, List.map_cons, List.map_nil]); rfl) ?_
        refine (Ib ⟨ck, ⟨cx, cy, cw, ch⟩, aU, l⟩ pq z HAT.out Ff.out HZ.out (S.out.tree _ (.head _)) (eQ iG.out S.out (.head _) jl.out).1 (eQ iG.out S.out (.head _) jl.out).2).mono ?_
        rintro e dV ⟨Az, cz, rfl, h1, hb⟩
        refine ⟨_, rfl, ?_⟩
        replace S := ae.mk (S.out.yC h1 hb)
        clear h1 hb
        refine hK.out _ _ S.out.free.dE (fun hHeld => ?_)
        clear hK K
        refine d_ 47 ?_
        refine ay 5 42 (bA 11 63) aj ?_
        refine ay 6 48 (bA 11 127) aj ?_
        refine ay 7 49 (bA 11 255) aj ?_
        refine jH 8 (some 11) (bA 11 511) aj (fun K hK => ?_)
        refine jF ?hg (N := 11) ?hd (cs := #[.int .u8 0, .int .i64 0, .int .i64 0, .int .i64 0, .int .i64 0, .int .i64 0, .slice none 0 0]) (t := 26) ?hr ?_; (case hd => rfl); (case hg => rfl); (case hr => (go_simp; done))
        intro b11 hg fV hbox hb
        replace S := ae.mk (S.out.box hg hbox hb)
        clear hg hbox hb
        refine hK.out _ _ S.out.dP.free.dE (fun hHeld => ?_)
        clear hK K
        refine d_ 11 ?_
        exact l_ (by simp only [iL, Act.put, List.setIfInBounds_toArray, List.set_cons_zero, List.set_cons_succ] <;> rfl) (kS (Az, cz, b11) _ S.out)
       ·skip
        refine jF ?hg (N := 11) ?hd (cs := #[.int .u8 0, .int .i64 0, .int .i64 0, .int .i64 0, .int .i64 0, .int .i64 0, .slice none 0 0]) (t := 26) ?hr ?_; (case hd => rfl); (case hg => rfl); (case hr => (go_simp; done))
        intro b11 hg iQ hbox hb
        replace S := ae.mk (S.out.box hg hbox hb)
        clear hg hbox hb
        refine hK.out _ _ S.out.dP (fun hHeld => ?_)
        clear hK K
        refine d_ 11 ?_
        refine jH 4 (some 47) (bA 11 287) aj (fun K hK => ?_)
        refine jD Try.func91 (by kernel_rfl) rfl #[.agg #[.int .u8 ck, .int .i64 cx, .int .i64 cy, .int .i64 cw, .int .i64 ch, .int .i64 aU, .slice A l.length cc], .slice Ap pq.length cp] (by rfl) rfl rfl (by (try simp only [List.map_toArray, List.map_cons, List.map_nil]); rfl) ?_
        refine (Ib ⟨ck, ⟨cx, cy, cw, ch⟩, aU, l⟩ pq z HAT.out Ff.out HZ.out (S.out.tree _ (.head _)) (eQ iG.out S.out bI jl.out).1 (eQ iG.out S.out bI jl.out).2).mono ?_
        rintro e mO ⟨Az, cz, rfl, h1, hb⟩
        refine ⟨_, rfl, ?_⟩
        replace S := ae.mk (S.out.yC h1 hb)
        clear h1 hb
        refine hK.out _ _ S.out.dP.free.dE (fun hHeld => ?_)
        clear hK K
        refine d_ 47 ?_
        refine ay 5 42 (bA 11 319) aj ?_
        refine ay 6 48 (bA 11 383) aj ?_
        refine ay 7 49 (bA 11 511) aj ?_
        exact l_ (by simp only [iL, Act.put, List.setIfInBounds_toArray, List.set_cons_zero, List.set_cons_succ] <;> rfl) (kS (Az, cz, b11) _ S.out)
      rintro ⟨Az, cz, b11⟩ PX S1
      simp only [iL, Act.put, List.setIfInBounds_toArray, List.set_cons_zero, List.set_cons_succ]
      replace S := ae.mk S1
      clear S1 hHeld
      have hHeld := S.out.dP.free.dE
      refine oP 9 none (bA 11 1023) aj (fun K hK => ?_)
      refine oD 0 rfl 26 (.tmp 11) (.tmp 48) rfl #[.int .u8 z.f0, .int .i64 z.f1.f0, .int .i64 z.f1.f1, .int .i64 z.f1.f2, .int .i64 z.f1.f3, .int .i64 z.f2, .slice Az z.f3.length cz] (j := 0) (u := .agg #[.int .u8 z.f0, .int .i64 z.f1.f0, .int .i64 z.f1.f1, .int .i64 z.f1.f2, .int .i64 z.f1.f3, .int .i64 z.f2, .slice Az z.f3.length cz]) (bK := [.int .u8 z.f0, .int .i64 z.f1.f0, .int .i64 z.f1.f1, .int .i64 z.f1.f2, .int .i64 z.f1.f3, .int .i64 z.f2, .slice Az z.f3.length cz]) S.out (by rfl) rfl rfl rfl rfl (by kernel_rfl) (by simp [Value.oneCell']) (by simp) rfl ?_
      intro yH S1
      simp only [List.set_cons_zero, List.set_cons_succ] at S1
      replace S := ae.mk S1
      clear S1
      refine hK.out _ _ ?_
      clear hK K
      refine ay 10 12 (bA 11 2047) aj ?_
      refine jJ (gK aj.out (by kernel_rfl)) ?_
      clear hHeld
      obtain ⟨uu, uw, uy, uz, uA, uB, rY⟩ := St.ed S (.head _)
      go_wp2_with ((refine bH (some 52) Try.func99 S (AX (c := z) HA.out (Kd.qL (base' := 0) (S.out.own _ (.head _)))) ?_; clear S; intro zL S; clear uu uw uy uz uA uB rY))
      have hw := HW.out
      go_wp2
      go_roundg n
      case measure => exact Nat.lt_of_lt_of_le (Nat.lt_succ_self _) fF.out
      case rel => exact ⟨n, (by rw [hw]), ⟨by have := HN.out; omega⟩, Nat.le_refl _, HR, ⟨S.out.free.dE.dP.vk.vk.vk⟩⟩
     | true =>
      rw [ha, if_pos rfl] at hr
      injection hr with hr
      subst hr
      have hzz := HAT.out
      rw [jl.out.1, wK.out.at'] at hzz
      injection hzz with hzz
      subst hzz
      have HA := ae.mk ha
      clear ha
      obtain ⟨yF, ek, _⟩ := Kd.iR (Fh iG.out S.out (.head _)).1 (n : Int) (Int.natCast_nonneg _) (by have := lK.out; omega)
      subst ek
      have HW2 := ae.mk (show wrap64 ((z.f3.length : Int) - 2) = (z.f3.length : Int) - 2 by have := wK.out.len; have := wL.out; unfold wrap64; omega)
      have Qe := ae.mk (show (n : Int) < (p.length : Int) by have := lK.out; omega)
      have hnn : n < p.length := lK.out
      go_wp2
      refine iU (n := 11) (S := fun w' => St w _ _ _ _ _ w') (ds := [9]) (bA 11 0) (by kernel_rfl) rfl rfl (S.out.call (bJ (Below.refl _ _))) (fun hHeld => ?_); refine eU qQ.zK qQ.vU (fun aj dY => ?_)
      replace S := ae.mk (S.out.call (bJ (Below.refl _ _)))
      generalize wr.drew = CS at S hHeld ⊢
      refine dN 0 43 (bA 11 1) aj dY hHeld ?_ (hv := by intro w' hs_; have a_ := (hs_.at dQ 0).trans rfl; have aW := (hs_.at dQ 1).trans rfl; have aY := (hs_.at dQ 2).trans rfl; have aX := (hs_.at dQ 3).trans rfl; have bM := (hs_.at dQ 4).trans rfl; have bP := (hs_.at dQ 5).trans rfl; have bC := (hs_.at dQ 6).trans rfl; go_simp; with_reducible rfl)
      refine ay 1 44 (bA 11 3) aj ?_
      refine ay 2 45 (bA 11 7) aj ?_
      refine ay 3 46 (bA 11 15) aj ?_
      refine zX (σ := Option Addr × Nat × Nat) 2 (bA 11 511) (fun s_ => [(47, .tuple #[.agg #[.int .u8 z.f0, .int .i64 z.f1.f0, .int .i64 z.f1.f1, .int .i64 z.f1.f2, .int .i64 z.f1.f3, .int .i64 z.f2, .slice s_.1 z.f3.length s_.2.1], .bool true]), (42, .tuple #[.agg #[.int .u8 z.f0, .int .i64 z.f1.f0, .int .i64 z.f1.f1, .int .i64 z.f1.f2, .int .i64 z.f1.f3, .int .i64 z.f2, .slice s_.1 z.f3.length s_.2.1], .bool true]), (48, .agg #[.int .u8 z.f0, .int .i64 z.f1.f0, .int .i64 z.f1.f1, .int .i64 z.f1.f2, .int .i64 z.f1.f3, .int .i64 z.f2, .slice s_.1 z.f3.length s_.2.1]), (49, .bool true), (11, .pointer (some ⟨s_.2.2, 0, none⟩))]) (fun s_ w' => St w P [(some s_.2.2, .cells #[.int .u8 0, .int .i64 0, .int .i64 0, .int .i64 0, .int .i64 0, .int .i64 0, .slice none 0 0] 26 (0, 0)), ((Value.slice (some yF) p.length cp).ownBlock, op), (some b6, .cells #[.int .u8 0, .int .i64 0, .int .i64 0, .int .i64 0, .int .i64 0, .int .i64 0, .slice none 0 0, .slice none 0 0, .int .i64 0, .int .u8 0] 147 (0, 0)), (some b3, .cells #[.int .u8 ck, .int .i64 cx, .int .i64 cy, .int .i64 cw, .int .i64 ch, .int .i64 aU, .slice A l.length cc] 26 (0, 0))] [(.slice s_.1 z.f3.length s_.2.1, z.f3)] [(.slice A l.length cc, l)] [] w') ?_ ?_
      rotate_left
      ·intro kS
       refine Eg (i := 4) (j := 8) (Ni := some 47) (Nj := some 11) (bA 11 31) (bA 11 271) rfl rfl rfl rfl (yg aj.out (by kernel_rfl)) (by decide) (by decide) (fun K hK => ?_) (fun K hK => ?_)
       ·skip
        refine jD Try.func91 (by kernel_rfl) rfl #[.agg #[.int .u8 ck, .int .i64 cx, .int .i64 cy, .int .i64 cw, .int .i64 ch, .int .i64 aU, .slice A l.length cc], .slice (some yF) pq.length cp] (by rfl) rfl rfl (by (try simp only [List.map_toArray, List.map_cons, List.map_nil]); rfl) ?_
        refine (Ib ⟨ck, ⟨cx, cy, cw, ch⟩, aU, l⟩ pq z HAT.out Ff.out HZ.out (S.out.tree _ (.head _)) (eQ iG.out S.out (.head _) jl.out).1 (eQ iG.out S.out (.head _) jl.out).2).mono ?_
        rintro e dV ⟨Az, cz, rfl, h1, hb⟩
        refine ⟨_, rfl, ?_⟩
        replace S := ae.mk (S.out.yC h1 hb)
        clear h1 hb
        refine hK.out _ _ S.out.free.dE (fun hHeld => ?_)
        clear hK K
        refine d_ 47 ?_
        refine ay 5 42 (bA 11 63) aj ?_
        refine ay 6 48 (bA 11 127) aj ?_
        refine ay 7 49 (bA 11 255) aj ?_
        refine jH 8 (some 11) (bA 11 511) aj (fun K hK => ?_)
        refine jF ?hg (N := 11) ?hd (cs := #[.int .u8 0, .int .i64 0, .int .i64 0, .int .i64 0, .int .i64 0, .int .i64 0, .slice none 0 0]) (t := 26) ?hr ?_; (case hd => rfl); (case hg => rfl); (case hr => (go_simp; done))
        intro b11 hg fV hbox hb
        replace S := ae.mk (S.out.box hg hbox hb)
        clear hg hbox hb
        refine hK.out _ _ S.out.dP.free.dE (fun hHeld => ?_)
        clear hK K
        refine d_ 11 ?_
        exact l_ (by simp only [iL, Act.put, List.setIfInBounds_toArray, List.set_cons_zero, List.set_cons_succ] <;> rfl) (kS (Az, cz, b11) _ S.out)
       ·skip
        refine jF ?hg (N := 11) ?hd (cs := #[.int .u8 0, .int .i64 0, .int .i64 0, .int .i64 0, .int .i64 0, .int .i64 0, .slice none 0 0]) (t := 26) ?hr ?_; (case hd => rfl); (case hg => rfl); (case hr => (go_simp; done))
        intro b11 hg iQ hbox hb
        replace S := ae.mk (S.out.box hg hbox hb)
        clear hg hbox hb
        refine hK.out _ _ S.out.dP (fun hHeld => ?_)
        clear hK K
        refine d_ 11 ?_
        refine jH 4 (some 47) (bA 11 287) aj (fun K hK => ?_)
        refine jD Try.func91 (by kernel_rfl) rfl #[.agg #[.int .u8 ck, .int .i64 cx, .int .i64 cy, .int .i64 cw, .int .i64 ch, .int .i64 aU, .slice A l.length cc], .slice (some yF) pq.length cp] (by rfl) rfl rfl (by (try simp only [List.map_toArray, List.map_cons, List.map_nil]); rfl) ?_
        refine (Ib ⟨ck, ⟨cx, cy, cw, ch⟩, aU, l⟩ pq z HAT.out Ff.out HZ.out (S.out.tree _ (.head _)) (eQ iG.out S.out bI jl.out).1 (eQ iG.out S.out bI jl.out).2).mono ?_
        rintro e mO ⟨Az, cz, rfl, h1, hb⟩
        refine ⟨_, rfl, ?_⟩
        replace S := ae.mk (S.out.yC h1 hb)
        clear h1 hb
        refine hK.out _ _ S.out.dP.free.dE (fun hHeld => ?_)
        clear hK K
        refine d_ 47 ?_
        refine ay 5 42 (bA 11 319) aj ?_
        refine ay 6 48 (bA 11 383) aj ?_
        refine ay 7 49 (bA 11 511) aj ?_
        exact l_ (by simp only [iL, Act.put, List.setIfInBounds_toArray, List.set_cons_zero, List.set_cons_succ] <;> rfl) (kS (Az, cz, b11) _ S.out)
      rintro ⟨Az, cz, b11⟩ PX S1
      simp only [iL, Act.put, List.setIfInBounds_toArray, List.set_cons_zero, List.set_cons_succ]
      replace S := ae.mk S1
      clear S1 hHeld
      have hHeld := S.out.dP.free.dE
      refine oP 9 none (bA 11 1023) aj (fun K hK => ?_)
      refine oD 0 rfl 26 (.tmp 11) (.tmp 48) rfl #[.int .u8 z.f0, .int .i64 z.f1.f0, .int .i64 z.f1.f1, .int .i64 z.f1.f2, .int .i64 z.f1.f3, .int .i64 z.f2, .slice Az z.f3.length cz] (j := 0) (u := .agg #[.int .u8 z.f0, .int .i64 z.f1.f0, .int .i64 z.f1.f1, .int .i64 z.f1.f2, .int .i64 z.f1.f3, .int .i64 z.f2, .slice Az z.f3.length cz]) (bK := [.int .u8 z.f0, .int .i64 z.f1.f0, .int .i64 z.f1.f1, .int .i64 z.f1.f2, .int .i64 z.f1.f3, .int .i64 z.f2, .slice Az z.f3.length cz]) S.out (by rfl) rfl rfl rfl rfl (by kernel_rfl) (by simp [Value.oneCell']) (by simp) rfl ?_
      intro yH S1
      simp only [List.set_cons_zero, List.set_cons_succ] at S1
      replace S := ae.mk S1
      clear S1
      refine hK.out _ _ ?_
      clear hK K
      refine ay 10 12 (bA 11 2047) aj ?_
      refine jJ (gK aj.out (by kernel_rfl)) ?_
      clear hHeld
      obtain ⟨uu, uw, uy, uz, uA, uB, rY⟩ := St.ed S (.head _)
      go_wp2_with ((refine bH (some 52) Try.func99 S (AX (c := z) HA.out (Kd.qL (base' := 0) (S.out.own _ (.head _)))) ?_; clear S; intro zL S; clear uu uw uy uz uA uB rY))
      refine iU (n := 17) (S := fun w' => St w _ _ _ _ _ w') (ds := [15]) (bA 17 0) (by kernel_rfl) rfl rfl (S.out.call (bJ (Below.refl _ _))) (fun hHeld => ?_); refine eU vF.afO vF.acf (fun aj dY => ?_)
      replace S := ae.mk (S.out.call (bJ (Below.refl _ _)))
      generalize zL.drew = wd9 at S hHeld ⊢
      refine dN 0 53 (bA 17 1) aj dY hHeld ?_ (hv := by intro w' hs_; have uu := (hs_.at (.head _) 0).trans rfl; have uw := (hs_.at (.head _) 1).trans rfl; have uy := (hs_.at (.head _) 2).trans rfl; have uz := (hs_.at (.head _) 3).trans rfl; have uA := (hs_.at (.head _) 4).trans rfl; have uB := (hs_.at (.head _) 5).trans rfl; have rY := (hs_.at (.head _) 6).trans rfl; go_simp; with_reducible rfl)
      refine ay 1 54 (bA 17 3) aj ?_
      refine ay 2 55 (bA 17 7) aj ?_
      refine ay 3 56 (bA 17 15) aj ?_
      refine ay 4 57 (bA 17 31) aj ?_
      refine ay 5 58 (bA 17 63) aj ?_
      refine ay 6 59 (bA 17 127) aj ?_
      refine dN 7 60 (bA 17 255) aj dY hHeld ?_ (hv := by intro w' hs_; have xp := BA iG.out (hs_.blk _ bI) n Qe.out; go_simp; with_reducible rfl)
      refine ay 8 61 (bA 17 511) aj ?_
      refine dN 9 62 (bA 17 1023) aj dY hHeld ?_ (hv := by intro w' hs_; have rY := (hs_.at (.head _) 6).trans rfl; go_simp; with_reducible rfl)
      refine ay 10 63 (bA 17 2047) aj ?_
      refine ay 11 64 (bA 17 4095) aj ?_
      refine ay 12 65 (bA 17 8191) aj ?_
      refine ay 13 66 (bA 17 16383) aj ?_
      refine ay 14 67 (bA 17 32767) aj ?_
      refine oP 15 none (bA 17 65535) aj (fun K hK => ?_)
      refine oD 2 rfl 147 (.tmp 6) (.tmp 67) rfl #[.int .u8 z.f0, .int .i64 z.f1.f0, .int .i64 z.f1.f1, .int .i64 z.f1.f2, .int .i64 z.f1.f3, .int .i64 z.f2, .slice Az z.f3.length cz, .slice (some yF) pq.length cp, .int .i64 (mn (rd p (n : Int)) (wrap64 ((z.f3.length : Int) - 2))), .int .u8 ax] (j := 0) (u := .agg #[.int .u8 z.f0, .int .i64 z.f1.f0, .int .i64 z.f1.f1, .int .i64 z.f1.f2, .int .i64 z.f1.f3, .int .i64 z.f2, .slice Az z.f3.length cz, .slice (some yF) pq.length cp, .int .i64 (mn (rd p (n : Int)) (wrap64 ((z.f3.length : Int) - 2))), .int .u8 ax]) (bK := [.int .u8 z.f0, .int .i64 z.f1.f0, .int .i64 z.f1.f1, .int .i64 z.f1.f2, .int .i64 z.f1.f3, .int .i64 z.f2, .slice Az z.f3.length cz, .slice (some yF) pq.length cp, .int .i64 (mn (rd p (n : Int)) (wrap64 ((z.f3.length : Int) - 2))), .int .u8 ax]) S.out (by rfl) rfl rfl rfl rfl (by kernel_rfl) (by simp [Value.oneCell']) (by simp) rfl ?_
      intro AB S1
      simp only [List.set_cons_zero, List.set_cons_succ] at S1
      replace S := ae.mk S1
      clear S1
      refine hK.out _ _ ?_
      clear hK K
      refine ay 16 7 (bA 17 131071) aj ?_
      refine jJ (gK aj.out (by kernel_rfl)) ?_
      clear hHeld
      go_wp2
      all_goals
       refine bodyPost_ret (fB rfl _ _ b6 147 _ (0, 0) _ rfl (S.out.blk _ dQ _ rfl) Try.underlying147 rfl (by kernel_rfl)) rfl ?_
       rw [jl.out.1]
       exact ⟨_, _, _, _, _, (by rw [wK.out.hq, HW2.out]; rfl), iG.out, S.out.dP.t_.dP.t_.dP.dE⟩
end Go.Proofs.Ytfdmfgaiblfbhaa.P
namespace Go.Proofs.Ytfdmfgaiblfbhaa.P
open Go.RowKit Go.Proofs.ag.aK Go.Proofs.ag.bG Go.Proofs.ag.bV
def xX.T1 : Bool × List (List Nat × List Nat) := (true, [([], []), ([0], [0]), ([1], [1]), ([2], [2]), ([3], [3]), ([], []), ([4, 5], [4, 5]), ([6], [6]), ([], []), ([8], [8]), ([9], [9]), ([10], [10]), ([7, 11], [7, 11]), ([12, 12, 0, 1, 2, 3, 4, 5, 6, 7, 8, 9, 10, 11, 12], [12])])
def xX.B1 : List Nat := [0, 1, 3, 7, 15, 0, 63, 127, 0, 256, 768, 1792, 4095, 8191]
theorem xX.Xt : g_ .any (opsOf Try.f164 1) = xX.T1 := by kernel_rfl
theorem xX.Qn : iO xX.T1.2 xX.B1 = true := by kernel_rfl
theorem jG {g : Nat} {fk fx fy fw fh zV ax : Int} {VP : Value} {q : Nat} {A : Option Addr} {cap : Nat} {L : List ai} {b : Nat} {P : Nat → Prop} {w : World} (i : Nat) (hi : i < L.length) (hz : dI L ≤ 1000000) (hF : w.heap[g]? = some (.cells #[.int .u8 fk, .int .i64 fx, .int .i64 fy, .int .i64 fw, .int .i64 fh, .int .i64 zV, .slice A L.length cap, VP, .int .i64 (q : Int), .int .u8 ax] 147 (0, 0))) (hv : Kd.V k26 26 w b P (.slice A L.length cap) L) :
  Calls Try.prog 164 #[.pointer (some ⟨g, 0, none⟩), .int .i64 (i : Int)] w fun e w' => e = .returned (.int .i64 (az ax (kd L i))) ∧ Below w.heap.size w w' := by
 have S := ae.mk (St.start (ts := [(.slice A L.length cap, L)]) (b0 := w.heap.size) (w := w) (P := P) (fun t ht => by rw [List.mem_singleton.1 ht]; exact fK hv))
 replace S := ae.mk (S.out.yU (show w.cell? ⟨g, 6, none⟩ = some (.slice A L.length cap) from (af hF 6).trans rfl))
 replace S := ae.mk (S.out.yU (show w.cell? ⟨g, 9, none⟩ = some (.int .u8 ax) from (af hF 9).trans rfl))
 have hi0 : (0 : Int) ≤ (i : Int) := Int.natCast_nonneg _
 have hi1 : (i : Int) < (L.length : Int) := by omega
 obtain ⟨jS, ua, uc, ek, S1⟩ := S.out.elem (.head _) (i : Int) hi0 hi1
 subst ek
 rw [Kt] at S1
 simp only [Int.toNat_natCast] at S1
 have kL := ae.mk (show sz (kd L i) ≤ 1048576 by have := uI (lL hi); omega)
 generalize kd L i = k at S1 kL ⊢
 replace S := ae.mk S1
 clear S1 hF hv hz
 go_enter Try.func164, Try.ntmps164
 go_wp2
 refine iU (n := 14) (S := fun w' => St w _ _ _ _ _ w') (ds := []) (bA 14 0) (by kernel_rfl) rfl rfl (S.out.call (bJ (Below.refl _ _))) (fun hHeld => ?_); refine eU xX.Xt xX.Qn (fun aj dY => ?_)
 replace S := ae.mk (S.out.call (bJ (Below.refl _ _)))
 generalize w.drew = CS at S hHeld ⊢
 refine ay 0 5 (bA 14 1) aj ?_
 refine ay 1 6 (bA 14 3) aj ?_
 refine ay 2 7 (bA 14 7) aj ?_
 refine ay 3 8 (bA 14 15) aj ?_
 refine dN 4 9 (bA 14 31) aj dY hHeld ?_ (hv := by intro w' hs_; have y8_ := (hs_.cell _ mm8).1; go_simp; with_reducible rfl)
 refine ay 5 10 (bA 14 63) aj ?_
 refine ay 6 11 (bA 14 127) aj ?_
 refine dN 7 12 (bA 14 255) aj dY hHeld ?_ (hv := by intro w' hs_; have fZ := (hs_.cell _ (.head _)).1; have iw := (hs_.cell _ bI).1; have jf := (hs_.cell _ dQ).1; have iV := (hs_.cell _ kW).1; have iW := (hs_.cell _ qj).1; have kD := (hs_.cell _ Bh).1; have kE := (hs_.cell _ Bi).1; go_simp; with_reducible rfl)
 refine ay 8 13 (bA 14 511) aj ?_
 refine ay 9 14 (bA 14 1023) aj ?_
 refine ay 10 15 (bA 14 2047) aj ?_
 refine dN 11 16 (bA 14 4095) aj dY hHeld ?_ (hv := by intro w' hs_; have JW := (hs_.cell _ PG).1; go_simp; with_reducible rfl)
 refine jH 12 (some 17) (bA 14 8191) aj (fun K hK => ?_)
 refine zW Try.func86 #[.agg #[.int .u8 k.f0, .int .i64 k.f1.f0, .int .i64 k.f1.f1, .int .i64 k.f1.f2, .int .i64 k.f1.f3, .int .i64 k.f2, .slice ua k.f3.length uc], .int .u8 ax] ?_
 refine (Bc k ax kL.out (S.out.tree _ (.head _))).mono ?_
 rintro e dV ⟨rfl, hb⟩
 refine ⟨_, rfl, ?_⟩
 replace S := ae.mk (S.out.call hb)
 clear hb
 refine hK.out _ _ S.out (fun hHeld => ?_)
 clear hK K
 refine d_ 17 ?_
 refine ay 13 4 (bA 14 16383) aj ?_
 refine jJ (gK aj.out (by kernel_rfl)) ?_
 clear hHeld
 go_wp2
 go_ret
 exact ⟨rfl, S.out.below⟩
def Wu : Option Nat → Int
 | some i => i
 | none => -1
theorem wW {g : Nat} {fk fx fy fw fh zV ax : Int} {VP : Value} {q : Nat} {A : Option Addr} {cap : Nat} {L : List ai} {b : Nat} {P : Nat → Prop} {w : World} (m : Bool) (hq : q + 1 < L.length) (hl : L.length ≤ 1000000) (hz : dI L ≤ 1000000) (hF : w.heap[g]? = some (.cells #[.int .u8 fk, .int .i64 fx, .int .i64 fy, .int .i64 fw, .int .i64 fh, .int .i64 zV, .slice A L.length cap, VP, .int .i64 (q : Int), .int .u8 ax] 147 (0, 0))) (hv : Kd.V k26 26 w b P (.slice A L.length cap) L) :
  Calls Try.prog 185 #[.pointer (some ⟨g, 0, none⟩), .bool m] w fun e w' => e = .returned (.int .i64 (Wu (jT ax q m L))) ∧ Below w.heap.size w w' := by
 have S := ae.mk (St.start (ts := [(.slice A L.length cap, L)]) (b0 := w.heap.size) (w := w) (P := P) (fun t ht => by rw [List.mem_singleton.1 ht]; exact fK hv))
 replace S := ae.mk (S.out.yU (show w.cell? ⟨g, 6, none⟩ = some (.slice A L.length cap) from (af hF 6).trans rfl))
 replace S := ae.mk (S.out.yU (show w.cell? ⟨g, 8, none⟩ = some (.int .i64 (q : Int)) from (af hF 8).trans rfl))
 have HF := ae.mk hF
 have HZ := ae.mk hz
 have gW := ae.mk hl
 have HQ := ae.mk hq
 have XD := ae.mk (show wrap64 ((q : Int) + 1) = ((q + 1 : Nat) : Int) by unfold wrap64; omega)
 generalize hR : jT ax q m L = R
 unfold jT at hR
 clear hF hz hl hq hv
 cases m with
 | true =>
  simp only [if_true] at hR
  have HR := ae.mk hR
  clear hR
  go_enter Try.func185, Try.ntmps185
  have fZ := (S.out.cell _ (.head _)).1
  go_wp2
  clear fZ
  go_loopg [5] L.length (fun gg v5 wr => ∃ i : Nat, v5 = .int .i64 (i : Int) ∧ ae (i ≤ L.length) ∧ L.length - i ≤ gg ∧ ae ((match Dp (oh ax L) (L.length - i) i with | some i => some i | none => nN (oh ax L) q) = R) ∧ ae (St w P [] [] [(.slice A L.length cap, L)] [(⟨g, 8, none⟩, .int .i64 (q : Int)), (⟨g, 6, none⟩, .slice A L.length cap)] wr))
  case atStart => exact ⟨q + 1, (by rw [XD.out]), ⟨by have := HQ.out; omega⟩, by omega, HR, S⟩
  case round =>
   clear S HR
   obtain ⟨i, rfl, HI, hgg, HR, S⟩ := hrel
   by_cases hlt : i < L.length
   case pos =>
    have iy := ae.mk hlt
    have hlz : (i : Int) < (L.length : Int) := by omega
    have fF := ae.mk hgg
    have hw : wrap64 ((i : Int) + 1) = ((i + 1 : Nat) : Int) := by have := gW.out; unfold wrap64; omega
    have HW := ae.mk hw
    have hr := HR.out
    rw [show L.length - i = (L.length - (i + 1)) + 1 by omega, Dp] at hr
    clear hw hgg
    by_cases hp : 0 < az ax (kd L i)
    case pos =>
     rw [if_pos (by unfold oh; simp; omega)] at hr
     replace HR := ae.mk hr
     obtain ⟨hga, hgb⟩ := mr (a := 0) (b := az ax (kd L i)) (by omega)
     clear hr hp
     have iw := (S.out.cell _ bI).1
     go_wp2_with ((refine bH (some 27) Try.func164 S (jG i iy.out HZ.out (aJ HF.out S.out.below) (S.out.tree _ (.head _))) ?_; clear S; intro dF S; clear iw))
     go_ret
     rw [← HR.out]
     exact ⟨rfl, S.out.below⟩
    case neg =>
     rw [if_neg (by unfold oh; simp; omega)] at hr
     replace HR := ae.mk hr
     obtain ⟨hga, hgb⟩ := lG (a := 0) (b := az ax (kd L i)) (by omega)
     clear hr hp
     have iw := (S.out.cell _ bI).1
     go_wp2_with ((refine bH (some 27) Try.func164 S (jG i iy.out HZ.out (aJ HF.out S.out.below) (S.out.tree _ (.head _))) ?_; clear S; intro dF S; clear iw))
     have hw := HW.out
     go_wp2
     go_roundg (L.length - (i + 1))
     case measure => have := fF.out; have := iy.out; omega
     case rel => exact ⟨i + 1, (by rw [hw]), ⟨by have := iy.out; omega⟩, Nat.le_refl _, HR, S⟩
   case neg =>
    have hlz : ¬ ((i : Int) < (L.length : Int)) := by omega
    have hr := HR.out
    rw [show L.length - i = 0 by omega, Dp] at hr
    simp only [] at hr
    replace HR := ae.mk hr
    clear hr hgg
    have iw := (S.out.cell _ bI).1
    have fZ := (S.out.cell _ (.head _)).1
    go_wp2
    clear iw fZ
    clear hlt hlz
    go_loopg [6] (q + 1) (fun gg v6 wr => ∃ n : Nat, v6 = .int .i64 ((n : Int) - 1) ∧ ae (n ≤ q + 1) ∧ n ≤ gg ∧ ae (nN (oh ax L) (Nat.min n q) = R) ∧ ae (St w P [] [] [(.slice A L.length cap, L)] [(⟨g, 8, none⟩, .int .i64 (q : Int)), (⟨g, 6, none⟩, .slice A L.length cap)] wr))
    case atStart => exact ⟨q + 1, (by congr 1; omega), ⟨Nat.le_refl _⟩, Nat.le_refl _, ⟨by rw [show Nat.min (q + 1) q = q from Nat.min_eq_right (by omega)]; exact HR.out⟩, S⟩
    case round =>
     clear S HR
     obtain ⟨n, rfl, HN, hgg, HR, S⟩ := hrel
     cases n with
     | zero =>
      have hr := HR.out
      rw [show Nat.min 0 q = 0 from Nat.min_eq_left (Nat.zero_le _), nN] at hr
      replace HR := ae.mk hr
      clear hr
      go_wp2
      go_ret
      rw [← HR.out]
      exact ⟨rfl, S.out.below⟩
     | succ n =>
      have e1 : (((n + 1 : Nat) : Int) - 1) = (n : Int) := by omega
      rw [e1]
      have iy := ae.mk (show n < L.length by have := HN.out; have := HQ.out; omega)
      have fF := ae.mk hgg
      have hw : wrap64 ((n : Int) - 1) = (n : Int) - 1 := by have := HN.out; have := HQ.out; have := gW.out; unfold wrap64; omega
      have HW := ae.mk hw
      have h0 : decide ((n : Int) ≥ 0) = true := decide_eq_true (Int.natCast_nonneg _)
      have wO : (0 : Int) ≤ (n : Int) := Int.natCast_nonneg _
      have hr := HR.out
      clear hw hgg e1
      by_cases hp : 0 < az ax (kd L n)
      case pos =>
       by_cases hnq : n < q
       case pos =>
        rw [show Nat.min (n + 1) q = n + 1 from Nat.min_eq_left (by omega), nN, if_pos (by unfold oh; simp; omega)] at hr
        replace HR := ae.mk hr
        obtain ⟨hga, hgb⟩ := mr (a := 0) (b := az ax (kd L n)) (by omega)
        obtain ⟨hsa, hsb⟩ := mr (a := (n : Int)) (b := (q : Int)) (by omega)
        have hsc : decide (n < q) = true := decide_eq_true (by omega)
        have hse : n < q := by omega
        clear hr hp
        go_wp2_with ((refine bH (some 40) Try.func164 S (jG n iy.out HZ.out (aJ HF.out S.out.below) (S.out.tree _ (.head _))) ?_; clear S; intro dF S; have fZ := (S.out.cell _ (.head _)).1))
        clear fZ
        go_ret
        rw [← HR.out]
        exact ⟨rfl, S.out.below⟩
       case neg =>
        rw [show Nat.min (n + 1) q = Nat.min n q by rw [show Nat.min (n + 1) q = q from Nat.min_eq_right (by omega), show Nat.min n q = q from Nat.min_eq_right (by omega)]] at hr
        replace HR := ae.mk hr
        obtain ⟨hga, hgb⟩ := mr (a := 0) (b := az ax (kd L n)) (by omega)
        obtain ⟨hsa, hsb⟩ := lG (a := (n : Int)) (b := (q : Int)) (by omega)
        have hsc : decide (n < q) = false := decide_eq_false (by omega)
        have hse : ¬ (n < q) := by omega
        clear hr hp
        go_wp2_with ((refine bH (some 40) Try.func164 S (jG n iy.out HZ.out (aJ HF.out S.out.below) (S.out.tree _ (.head _))) ?_; clear S; intro dF S; have fZ := (S.out.cell _ (.head _)).1))
        clear fZ
        have hw := HW.out
        go_wp2
        go_roundg n
        case measure => exact Nat.lt_of_lt_of_le (Nat.lt_succ_self _) fF.out
        case rel => exact ⟨n, (by rw [hw]), ⟨by have := HN.out; omega⟩, Nat.le_refl _, HR, S⟩
      case neg =>
       have hmn : nN (oh ax L) (Nat.min (n + 1) q) = nN (oh ax L) (Nat.min n q) := by
        by_cases hnq : n < q
        ·rw [show Nat.min (n + 1) q = n + 1 from Nat.min_eq_left (by omega), show Nat.min n q = n from Nat.min_eq_left (by omega), nN, if_neg (by unfold oh; simp; omega)]
        ·rw [show Nat.min (n + 1) q = q from Nat.min_eq_right (by omega), show Nat.min n q = q from Nat.min_eq_right (by omega)]
       rw [hmn] at hr; clear hmn
       replace HR := ae.mk hr
       obtain ⟨hga, hgb⟩ := lG (a := 0) (b := az ax (kd L n)) (by omega)
       clear hr hp
       go_wp2_with ((refine bH (some 40) Try.func164 S (jG n iy.out HZ.out (aJ HF.out S.out.below) (S.out.tree _ (.head _))) ?_; clear S; intro dF S))
       have hw := HW.out
       go_wp2
       go_roundg n
       case measure => exact Nat.lt_of_lt_of_le (Nat.lt_succ_self _) fF.out
       case rel => exact ⟨n, (by rw [hw]), ⟨by have := HN.out; omega⟩, Nat.le_refl _, HR, S⟩
 | false =>
  simp only [Bool.false_eq_true, if_false] at hR
  have HR := ae.mk hR
  clear hR
  go_enter Try.func185, Try.ntmps185
  have fZ := (S.out.cell _ (.head _)).1
  go_wp2
  clear fZ
  go_loopg [5] 0 (fun gg v5 wr => ∃ i : Nat, v5 = .int .i64 (i : Int) ∧ ae (St w P [] [] [(.slice A L.length cap, L)] [(⟨g, 8, none⟩, .int .i64 (q : Int)), (⟨g, 6, none⟩, .slice A L.length cap)] wr))
  case atStart => exact ⟨q + 1, (by rw [XD.out]), S⟩
  case round =>
   clear S
   obtain ⟨i, rfl, S⟩ := hrel
   have fZ := (S.out.cell _ (.head _)).1
   go_wp2
   clear fZ
   go_loopg [6] (q + 1) (fun gg v6 wr => ∃ n : Nat, v6 = .int .i64 ((n : Int) - 1) ∧ ae (n ≤ q + 1) ∧ n ≤ gg ∧ ae (nN (oh ax L) n = R) ∧ ae (St w P [] [] [(.slice A L.length cap, L)] [(⟨g, 8, none⟩, .int .i64 (q : Int)), (⟨g, 6, none⟩, .slice A L.length cap)] wr))
   case atStart => exact ⟨q + 1, (by congr 1; omega), ⟨Nat.le_refl _⟩, Nat.le_refl _, HR, S⟩
   case round =>
    clear S HR
    obtain ⟨n, rfl, HN, hgg, HR, S⟩ := hrel
    cases n with
    | zero =>
     have hr := HR.out
     rw [nN] at hr
     replace HR := ae.mk hr
     clear hr
     go_wp2
     go_ret
     rw [← HR.out]
     exact ⟨rfl, S.out.below⟩
    | succ n =>
     have e1 : (((n + 1 : Nat) : Int) - 1) = (n : Int) := by omega
     rw [e1]
     have iy := ae.mk (show n < L.length by have := HN.out; have := HQ.out; omega)
     have fF := ae.mk hgg
     have hw : wrap64 ((n : Int) - 1) = (n : Int) - 1 := by have := HN.out; have := HQ.out; have := gW.out; unfold wrap64; omega
     have HW := ae.mk hw
     have h0 : decide ((n : Int) ≥ 0) = true := decide_eq_true (Int.natCast_nonneg _)
     have wO : (0 : Int) ≤ (n : Int) := Int.natCast_nonneg _
     have hr := HR.out
     clear hw hgg e1
     by_cases hp : 0 < az ax (kd L n)
     case pos =>
      by_cases hnq : n < q
      case pos =>
       rw [nN, if_pos (by unfold oh; simp; omega)] at hr
       replace HR := ae.mk hr
       obtain ⟨hga, hgb⟩ := mr (a := 0) (b := az ax (kd L n)) (by omega)
       obtain ⟨hsa, hsb⟩ := mr (a := (n : Int)) (b := (q : Int)) (by omega)
       have hsc : decide (n < q) = true := decide_eq_true (by omega)
       have hse : n < q := by omega
       clear hr hp
       go_wp2_with ((refine bH (some 40) Try.func164 S (jG n iy.out HZ.out (aJ HF.out S.out.below) (S.out.tree _ (.head _))) ?_; clear S; intro dF S; have fZ := (S.out.cell _ (.head _)).1))
       clear fZ
       go_ret
       rw [← HR.out]
       exact ⟨rfl, S.out.below⟩
      case neg =>
       rw [nN, if_pos (by unfold oh; simp; omega)] at hr
       replace HR := ae.mk hr
       obtain ⟨hga, hgb⟩ := mr (a := 0) (b := az ax (kd L n)) (by omega)
       obtain ⟨hsa, hsb⟩ := lG (a := (n : Int)) (b := (q : Int)) (by omega)
       have hsc : decide (n < q) = false := decide_eq_false (by omega)
       have hse : ¬ (n < q) := by omega
       clear hr hp
       go_wp2_with ((refine bH (some 40) Try.func164 S (jG n iy.out HZ.out (aJ HF.out S.out.below) (S.out.tree _ (.head _))) ?_; clear S; intro dF S; have fZ := (S.out.cell _ (.head _)).1))
       clear fZ
       go_ret
       rw [← HR.out]
       exact ⟨rfl, S.out.below⟩
     case neg =>
      rw [nN, if_neg (by unfold oh; simp; omega)] at hr
      replace HR := ae.mk hr
      obtain ⟨hga, hgb⟩ := lG (a := 0) (b := az ax (kd L n)) (by omega)
      clear hr hp
      go_wp2_with ((refine bH (some 40) Try.func164 S (jG n iy.out HZ.out (aJ HF.out S.out.below) (S.out.tree _ (.head _))) ?_; clear S; intro dF S))
      have hw := HW.out
      go_wp2
      go_roundg n
      case measure => exact Nat.lt_of_lt_of_le (Nat.lt_succ_self _) fF.out
      case rel => exact ⟨n, (by rw [hw]), ⟨by have := HN.out; omega⟩, Nat.le_refl _, HR, S⟩
end Go.Proofs.Ytfdmfgaiblfbhaa.P
