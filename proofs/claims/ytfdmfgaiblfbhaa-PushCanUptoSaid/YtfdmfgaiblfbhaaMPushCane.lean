/- PushCan: part 5 of 6 of this claim's texts, one behind the other, made small by a program: the words of the kit's printer cut down to those that are used, the claim's own names made short. -/
import Derived.Test.YtfdmfgaiblfbhaaMPushCand
import Derived.Test.YtfdmfgaiblfbhaaMPushCanc
import Derived.WalkSpells
set_option maxHeartbeats 8000000
set_option maxRecDepth 100000
set_option linter.unusedVariables false
set_option linter.unusedSimpArgs false
namespace Go.Proofs.Ytfdmfgaiblfbhaa.P
open Go.RowKit Go.Proofs.ag.aK Go.Proofs.ag.bG Go.Proofs.ag.bU
theorem Oe {x : ByteArray} {w : World} {A : Option Addr} (h : Kd.C Kd.string w A 1 [x]) : ∃ ad, A = some ad := by
 obtain ⟨ad, h1, _⟩ := h.2.2 (by omega)
 exact ⟨ad, h1⟩
theorem VI (c : ai) (hz : sz c ≤ 1048576) (A : Option Addr) (cc : Nat) (w : World) (hr : Kd.C k26 w A c.f3.length c.f3) (hc : c.f3.length ≤ cc) :
  Calls Try.prog 180 #[.agg #[.int .u8 c.f0, .int .i64 c.f1.f0, .int .i64 c.f1.f1, .int .i64 c.f1.f2, .int .i64 c.f1.f3, .int .i64 c.f2, .slice A c.f3.length cc]] w fun e w' => (if di c = true then e = .returned .nilIface else ∃ t u, e = .returned (.iface t u)) ∧ Below w.heap.size w w' := by
 have hM : r_.f [c] = some (kV c) := by
  unfold r_.f
  rw [if_pos (by simp [hz])]
  simp
 have hW : kV c = true → ∀ (gw : Nat) (W : World), w.heap.size ≤ gw → pK w gw 0 W → Calls Try.prog 197 #[.pointer (some ⟨gw, 0, none⟩), .agg #[.int .u8 c.f0, .int .i64 c.f1.f0, .int .i64 c.f1.f1, .int .i64 c.f1.f2, .int .i64 c.f1.f3, .int .i64 c.f2, .slice A c.f3.length cc]] W fun e w' => e = .returned (.bool (kH c)) ∧ pK w gw (0 + dJ c.f3) w' ∧ Fr gw W w' := fun hm gw W hg hI => aaW w gw hg (sz c) c (Nat.le_refl _) (nC hm) A cc hr hc 0 W (by have := nC hm; have := cO c; omega) hI
 unfold di
 have HR := ae.mk hr
 have HC := ae.mk hc
 have HM := ae.mk hM
 have HW := ae.mk hW
 have HB := ae.mk (Below.refl w.heap.size w)
 clear hr hc hM hW hz
 obtain ⟨ck, ⟨cx, cy, cw, ch⟩, aU, l⟩ := c
 simp only [] at HR HC HW ⊢
 generalize kH ⟨ck, ⟨cx, cy, cw, ch⟩, aU, l⟩ = q at HW ⊢
 cases hm : kV (⟨ck, ⟨cx, cy, cw, ch⟩, aU, l⟩ : ai) with
 | false =>
  rw [hm] at HM
  have HM := HM
  simp only [Bool.false_and, Bool.false_eq_true, if_false]
  clear hm HW
  go_enter Try.func180, Try.ntmps180
  go_wp2_with (first
   | ((with_reducible refine aG (N := 1) rfl ?_); refine aT ?hg (N := 1) ?hd (cs := #[.int .u8 ck, .int .i64 cx, .int .i64 cy, .int .i64 cw, .int .i64 ch, .int .i64 aU, .slice A l.length cc]) (t := 26) ?hr ?_; (case hd => rfl); (case hg => rfl); (case hr => first | (go_simp; done) | (go_simp; rfl)); intro b1 hg Yj hbox hb; have dN := ae.mk hbox; have dh := ae.mk (ak HB.out hb); clear HB; have HB := dh; clear dh; clear hb hbox hg)
   | ((with_reducible refine aG (N := 5) rfl ?_); refine aT ?hg (N := 5) ?hd (cs := #[.int .i64 0, .slice none 0 0]) (t := 182) ?hr ?_; (case hd => rfl); (case hg => rfl); (case hr => first | (go_simp; done) | (go_simp; rfl)); intro gw hg wgw hbox hb; have pI := ae.mk hbox; have GG := ae.mk (show w.heap.size ≤ gw by rw [hg]; exact HB.out.size); have dh := ae.mk (ak HB.out hb); have fQ := ae.mk (aJ dN.out hb); clear HB dN; have HB := dh; have dN := fQ; clear dh fQ; have c0 := (af dN.out 0).trans rfl; have c1 := (af dN.out 1).trans rfl; have c2 := (af dN.out 2).trans rfl; have c3 := (af dN.out 3).trans rfl; have c4 := (af dN.out 4).trans rfl; have c5 := (af dN.out 5).trans rfl; have c6 := (af dN.out 6).trans rfl; clear hb hbox hg)
   | ((with_reducible refine aG (N := 8) rfl ?_); refine Kd.yI k26 _ 26 ?hg (N' := 8) ?hd (xs := [(⟨ck, ⟨cx, cy, cw, ch⟩, aU, l⟩ : ai)]) (inner := [.int .u8 ck, .int .i64 cx, .int .i64 cy, .int .i64 cw, .int .i64 ch, .int .i64 aU, .slice A l.length cc]) (ok := fun _ => True) (fE := fun _ => True) ?hr ?hp (fun _ hk => hk) trivial (Below.refl _ _) (Nat.le_refl _) (by simp) ?_; (case hd => rfl); (case hg => rfl); (case hr => first | (go_simp; done) | (go_simp; rfl)); (case hp => exact (bW.c7 (oG _ _ (⟨ck, ⟨cx, cy, cw, ch⟩, aU, l⟩ : ai) HC.out (Kd.rO (Kd.Gj qE (Kd.gX HR.out HB.out)) (fun _ _ => trivial))) (bW.none _ _))); intro vr wr ho hb nR jl; clear nR jl; obtain ⟨Am, cm, er⟩ := Kd.jB ho; subst er; have dh := ae.mk (ak HB.out hb); have fQ := ae.mk (aJ dN.out hb); have o8 := ae.mk (aJ pI.out hb); clear HB dN pI; have HB := dh; have dN := fQ; have pI := o8; clear dh fQ o8; have Hm := ae.mk (Kd.iJ ho).2.2; have Lm := ae.mk (Kd.iJ ho).2.1; clear ho hb c0 c1 c2 c3 c4 c5 c6)
   | fail)
  refine (r_.calls Am cm [(⟨ck, ⟨cx, cy, cw, ch⟩, aU, l⟩ : ai)] false _ Hm.out Lm.out HM.out).mono ?_
  rintro e w1 ⟨rfl, hb⟩
  have dh := ae.mk (ak HB.out hb); have fQ := ae.mk (aJ dN.out hb); have o8 := ae.mk (aJ pI.out hb); clear HB dN pI; have HB := dh; have dN := fQ; have pI := o8; clear dh fQ o8
  clear hb Hm Lm
  go_wp2_with fail
  refine (UA 1 0 (by decide) _).mono ?_
  rintro e w2 ⟨⟨tv, v, rfl⟩, hb⟩
  have dh := ae.mk (ak HB.out hb); clear HB; have HB := dh; clear dh
  clear hb
  go_wp2_with (first
   | ((with_reducible refine aG (N := 12) rfl ?_); refine Kd.vP Kd.string _ 9 ?hg (N := 12) ?hd (xs := [(⟨#[108, 97, 121, 111, 117, 116]⟩ : ByteArray)]) (inner := [.string (⟨#[108, 97, 121, 111, 117, 116]⟩ : ByteArray)]) (ok := fun _ => True) (fE := fun _ => True) ?hr ?hp (fun _ hk => hk) trivial (Below.refl _ _) (Nat.le_refl _) (by simp) ?_; (case hd => rfl); (case hg => rfl); (case hr => first | (go_simp; done) | (go_simp; rfl)); (case hp => exact (bW.one (show Kd.M Kd.string _ _ _ (⟨#[108, 97, 121, 111, 117, 116]⟩ : ByteArray) [.string (⟨#[108, 97, 121, 111, 117, 116]⟩ : ByteArray)] from rfl) (bW.none _ _))); intro vs wr ho hb nR jl; clear nR jl; obtain ⟨As, cs_, er⟩ := Kd.gK ho; subst er; have dh := ae.mk (ak HB.out hb); clear HB; have HB := dh; clear dh; have Hs := ae.mk (Kd.dP ho).2.2; have Ls := ae.mk (Kd.dP ho).2.1; clear ho hb)
   | fail)
  obtain ⟨ad, ea⟩ := Oe Hs.out
  subst ea
  refine (X3 tv v ad cs_ _ _ Hs.out Ls.out).mono ?_
  rintro e w3 ⟨⟨tu, u, rfl⟩, hb⟩
  have dh := ae.mk (ak HB.out hb); clear HB; have HB := dh; clear dh
  clear hb Hs Ls
  go_wp2
  go_ret
  exact ⟨⟨_, _, rfl⟩, HB.out⟩
 | true =>
  rw [hm] at HM
  have HW := ae.mk (HW.out hm)
  simp only [Bool.true_and]
  clear hm
  cases q with
  | true =>
   simp only [if_true]
   go_enter Try.func180, Try.ntmps180
   go_wp2_with (first
    | ((with_reducible refine aG (N := 1) rfl ?_); refine aT ?hg (N := 1) ?hd (cs := #[.int .u8 ck, .int .i64 cx, .int .i64 cy, .int .i64 cw, .int .i64 ch, .int .i64 aU, .slice A l.length cc]) (t := 26) ?hr ?_; (case hd => rfl); (case hg => rfl); (case hr => first | (go_simp; done) | (go_simp; rfl)); intro b1 hg Yj hbox hb; have dN := ae.mk hbox; have dh := ae.mk (ak HB.out hb); clear HB; have HB := dh; clear dh; clear hb hbox hg)
    | ((with_reducible refine aG (N := 5) rfl ?_); refine aT ?hg (N := 5) ?hd (cs := #[.int .i64 0, .slice none 0 0]) (t := 182) ?hr ?_; (case hd => rfl); (case hg => rfl); (case hr => first | (go_simp; done) | (go_simp; rfl)); intro gw hg wgw hbox hb; have pI := ae.mk hbox; have GG := ae.mk (show w.heap.size ≤ gw by rw [hg]; exact HB.out.size); have dh := ae.mk (ak HB.out hb); have fQ := ae.mk (aJ dN.out hb); clear HB dN; have HB := dh; have dN := fQ; clear dh fQ; have c0 := (af dN.out 0).trans rfl; have c1 := (af dN.out 1).trans rfl; have c2 := (af dN.out 2).trans rfl; have c3 := (af dN.out 3).trans rfl; have c4 := (af dN.out 4).trans rfl; have c5 := (af dN.out 5).trans rfl; have c6 := (af dN.out 6).trans rfl; clear hb hbox hg)
    | ((with_reducible refine aG (N := 8) rfl ?_); refine Kd.yI k26 _ 26 ?hg (N' := 8) ?hd (xs := [(⟨ck, ⟨cx, cy, cw, ch⟩, aU, l⟩ : ai)]) (inner := [.int .u8 ck, .int .i64 cx, .int .i64 cy, .int .i64 cw, .int .i64 ch, .int .i64 aU, .slice A l.length cc]) (ok := fun _ => True) (fE := fun _ => True) ?hr ?hp (fun _ hk => hk) trivial (Below.refl _ _) (Nat.le_refl _) (by simp) ?_; (case hd => rfl); (case hg => rfl); (case hr => first | (go_simp; done) | (go_simp; rfl)); (case hp => exact (bW.c7 (oG _ _ (⟨ck, ⟨cx, cy, cw, ch⟩, aU, l⟩ : ai) HC.out (Kd.rO (Kd.Gj qE (Kd.gX HR.out HB.out)) (fun _ _ => trivial))) (bW.none _ _))); intro vr wr ho hb nR jl; clear nR jl; obtain ⟨Am, cm, er⟩ := Kd.jB ho; subst er; have dh := ae.mk (ak HB.out hb); have fQ := ae.mk (aJ dN.out hb); have o8 := ae.mk (aJ pI.out hb); clear HB dN pI; have HB := dh; have dN := fQ; have pI := o8; clear dh fQ o8; have Hm := ae.mk (Kd.iJ ho).2.2; have Lm := ae.mk (Kd.iJ ho).2.1; clear ho hb c0 c1 c2 c3 c4 c5 c6)
    | fail)
   refine (r_.calls Am cm [(⟨ck, ⟨cx, cy, cw, ch⟩, aU, l⟩ : ai)] true _ Hm.out Lm.out HM.out).mono ?_
   rintro e w1 ⟨rfl, hb⟩
   have dh := ae.mk (ak HB.out hb); have fQ := ae.mk (aJ dN.out hb); have o8 := ae.mk (aJ pI.out hb); clear HB dN pI; have HB := dh; have dN := fQ; have pI := o8; clear dh fQ o8
   clear hb Hm Lm
   have HI := ae.mk (show pK w gw 0 w1 from ⟨HB.out, 0, .slice none 0 0, [], pI.out, Kd.uO _ _ _ _ _, Nat.le_refl _⟩)
   have c0 := (af dN.out 0).trans rfl
   have c1 := (af dN.out 1).trans rfl
   have c2 := (af dN.out 2).trans rfl
   have c3 := (af dN.out 3).trans rfl
   have c4 := (af dN.out 4).trans rfl
   have c5 := (af dN.out 5).trans rfl
   have c6 := (af dN.out 6).trans rfl
   go_wp2_with fail
   clear c0 c1 c2 c3 c4 c5 c6
   refine (HW.out gw w1 GG.out HI.out).mono ?_
   rintro e w2 ⟨rfl, ⟨hb2, n, v, ls, hk, _, _⟩, _⟩
   clear HB pI HI dN
   have HB := ae.mk hb2
   have pI := ae.mk hk
   clear hb2 hk
   go_wp2
   go_ret
   exact ⟨rfl, HB.out⟩
  | false =>
   simp only [Bool.false_eq_true, if_false]
   go_enter Try.func180, Try.ntmps180
   go_wp2_with (first
    | ((with_reducible refine aG (N := 1) rfl ?_); refine aT ?hg (N := 1) ?hd (cs := #[.int .u8 ck, .int .i64 cx, .int .i64 cy, .int .i64 cw, .int .i64 ch, .int .i64 aU, .slice A l.length cc]) (t := 26) ?hr ?_; (case hd => rfl); (case hg => rfl); (case hr => first | (go_simp; done) | (go_simp; rfl)); intro b1 hg Yj hbox hb; have dN := ae.mk hbox; have dh := ae.mk (ak HB.out hb); clear HB; have HB := dh; clear dh; clear hb hbox hg)
    | ((with_reducible refine aG (N := 5) rfl ?_); refine aT ?hg (N := 5) ?hd (cs := #[.int .i64 0, .slice none 0 0]) (t := 182) ?hr ?_; (case hd => rfl); (case hg => rfl); (case hr => first | (go_simp; done) | (go_simp; rfl)); intro gw hg wgw hbox hb; have pI := ae.mk hbox; have GG := ae.mk (show w.heap.size ≤ gw by rw [hg]; exact HB.out.size); have dh := ae.mk (ak HB.out hb); have fQ := ae.mk (aJ dN.out hb); clear HB dN; have HB := dh; have dN := fQ; clear dh fQ; have c0 := (af dN.out 0).trans rfl; have c1 := (af dN.out 1).trans rfl; have c2 := (af dN.out 2).trans rfl; have c3 := (af dN.out 3).trans rfl; have c4 := (af dN.out 4).trans rfl; have c5 := (af dN.out 5).trans rfl; have c6 := (af dN.out 6).trans rfl; clear hb hbox hg)
    | ((with_reducible refine aG (N := 8) rfl ?_); refine Kd.yI k26 _ 26 ?hg (N' := 8) ?hd (xs := [(⟨ck, ⟨cx, cy, cw, ch⟩, aU, l⟩ : ai)]) (inner := [.int .u8 ck, .int .i64 cx, .int .i64 cy, .int .i64 cw, .int .i64 ch, .int .i64 aU, .slice A l.length cc]) (ok := fun _ => True) (fE := fun _ => True) ?hr ?hp (fun _ hk => hk) trivial (Below.refl _ _) (Nat.le_refl _) (by simp) ?_; (case hd => rfl); (case hg => rfl); (case hr => first | (go_simp; done) | (go_simp; rfl)); (case hp => exact (bW.c7 (oG _ _ (⟨ck, ⟨cx, cy, cw, ch⟩, aU, l⟩ : ai) HC.out (Kd.rO (Kd.Gj qE (Kd.gX HR.out HB.out)) (fun _ _ => trivial))) (bW.none _ _))); intro vr wr ho hb nR jl; clear nR jl; obtain ⟨Am, cm, er⟩ := Kd.jB ho; subst er; have dh := ae.mk (ak HB.out hb); have fQ := ae.mk (aJ dN.out hb); have o8 := ae.mk (aJ pI.out hb); clear HB dN pI; have HB := dh; have dN := fQ; have pI := o8; clear dh fQ o8; have Hm := ae.mk (Kd.iJ ho).2.2; have Lm := ae.mk (Kd.iJ ho).2.1; clear ho hb c0 c1 c2 c3 c4 c5 c6)
    | fail)
   refine (r_.calls Am cm [(⟨ck, ⟨cx, cy, cw, ch⟩, aU, l⟩ : ai)] true _ Hm.out Lm.out HM.out).mono ?_
   rintro e w1 ⟨rfl, hb⟩
   have dh := ae.mk (ak HB.out hb); have fQ := ae.mk (aJ dN.out hb); have o8 := ae.mk (aJ pI.out hb); clear HB dN pI; have HB := dh; have dN := fQ; have pI := o8; clear dh fQ o8
   clear hb Hm Lm
   have HI := ae.mk (show pK w gw 0 w1 from ⟨HB.out, 0, .slice none 0 0, [], pI.out, Kd.uO _ _ _ _ _, Nat.le_refl _⟩)
   have c0 := (af dN.out 0).trans rfl
   have c1 := (af dN.out 1).trans rfl
   have c2 := (af dN.out 2).trans rfl
   have c3 := (af dN.out 3).trans rfl
   have c4 := (af dN.out 4).trans rfl
   have c5 := (af dN.out 5).trans rfl
   have c6 := (af dN.out 6).trans rfl
   go_wp2_with fail
   clear c0 c1 c2 c3 c4 c5 c6
   refine (HW.out gw w1 GG.out HI.out).mono ?_
   rintro e w2 ⟨rfl, ⟨hb2, n, v, ls, hk, _, _⟩, _⟩
   clear HB pI HI dN
   have HB := ae.mk hb2
   have pI := ae.mk hk
   clear hb2 hk
   have c0 := (af pI.out 0).trans rfl
   have c1 := (af pI.out 1).trans rfl
   go_wp2_with fail
   clear c0 c1
   refine (UA 5 n (by decide) _).mono ?_
   rintro e w2 ⟨⟨tv, v, rfl⟩, hb⟩
   have dh := ae.mk (ak HB.out hb); clear HB; have HB := dh; clear dh
   clear hb
   go_wp2_with (first
    | ((with_reducible refine aG (N := 24) rfl ?_); refine Kd.vP Kd.string _ 9 ?hg (N := 24) ?hd (xs := [(⟨#[108, 97, 121, 111, 117, 116]⟩ : ByteArray)]) (inner := [.string (⟨#[108, 97, 121, 111, 117, 116]⟩ : ByteArray)]) (ok := fun _ => True) (fE := fun _ => True) ?hr ?hp (fun _ hk => hk) trivial (Below.refl _ _) (Nat.le_refl _) (by simp) ?_; (case hd => rfl); (case hg => rfl); (case hr => first | (go_simp; done) | (go_simp; rfl)); (case hp => exact (bW.one (show Kd.M Kd.string _ _ _ (⟨#[108, 97, 121, 111, 117, 116]⟩ : ByteArray) [.string (⟨#[108, 97, 121, 111, 117, 116]⟩ : ByteArray)] from rfl) (bW.none _ _))); intro vs wr ho hb nR jl; clear nR jl; obtain ⟨As, cs_, er⟩ := Kd.gK ho; subst er; have dh := ae.mk (ak HB.out hb); clear HB; have HB := dh; clear dh; have Hs := ae.mk (Kd.dP ho).2.2; have Ls := ae.mk (Kd.dP ho).2.1; clear ho hb)
    | fail)
   obtain ⟨ad, ea⟩ := Oe Hs.out
   subst ea
   refine (X3 tv v ad cs_ _ _ Hs.out Ls.out).mono ?_
   rintro e w3 ⟨⟨tu, u, rfl⟩, hb⟩
   have dh := ae.mk (ak HB.out hb); clear HB; have HB := dh; clear dh
   clear hb Hs Ls
   go_wp2
   go_ret
   exact ⟨⟨_, _, rfl⟩, HB.out⟩
theorem acA (x : ai) (hz : sz x ≤ 1048576) (B : Option Addr) (cb : Nat) (W : World) (hr : Kd.C k26 W B x.f3.length x.f3) (hl : x.f3.length ≤ cb) :
  Calls Try.prog 179 #[.agg #[.int .u8 x.f0, .int .i64 x.f1.f0, .int .i64 x.f1.f1, .int .i64 x.f1.f2, .int .i64 x.f1.f3, .int .i64 x.f2, .slice B x.f3.length cb]] W fun e w' => e = .returned (.bool (!di x)) ∧ Below W.heap.size W w' := by
 have HC := ae.mk (fun W1 (hb : Below W.heap.size W W1) => VI x hz B cb W1 (Kd.gX hr hb) hl)
 have HB := ae.mk (Below.refl W.heap.size W)
 clear hr hl hz
 cases hq : di x
 all_goals
  simp only [hq, if_pos, Bool.false_eq_true, if_false] at HC
  clear hq
  go_enter Try.func179, Try.ntmps179
  go_wp2_with (first
   | ((with_reducible refine aG (N := 1) rfl ?_); refine aT ?hg (N := 1) ?hd (cs := #[.int .u8 x.f0, .int .i64 x.f1.f0, .int .i64 x.f1.f1, .int .i64 x.f1.f2, .int .i64 x.f1.f3, .int .i64 x.f2, .slice B x.f3.length cb]) (t := 26) ?hr ?_; (case hd => rfl); (case hg => rfl); (case hr => first | (go_simp; done) | (go_simp; rfl)); intro b1 hg Yj hbox hb; have dN := ae.mk hbox; have dh := ae.mk (ak HB.out hb); clear HB; have HB := dh; clear dh; have c0 := (af dN.out 0).trans rfl; have c1 := (af dN.out 1).trans rfl; have c2 := (af dN.out 2).trans rfl; have c3 := (af dN.out 3).trans rfl; have c4 := (af dN.out 4).trans rfl; have c5 := (af dN.out 5).trans rfl; have c6 := (af dN.out 6).trans rfl; clear hb hbox hg)
   | fail)
  clear c0 c1 c2 c3 c4 c5 c6
 ·refine (HC.out _ HB.out).mono ?_
  rintro e w2 ⟨⟨t, u, rfl⟩, hb⟩
  have dh := ae.mk (ak HB.out hb); clear HB; have HB := dh; clear dh
  clear hb
  go_wp2
  go_ret
  exact ⟨rfl, HB.out⟩
 ·refine (HC.out _ HB.out).mono ?_
  rintro e w2 ⟨rfl, hb⟩
  have dh := ae.mk (ak HB.out hb); clear HB; have HB := dh; clear dh
  clear hb
  go_wp2
  go_ret
  exact ⟨rfl, HB.out⟩
theorem Oj (l : List ai) (hz : ∀ x, x ∈ l → sz x ≤ 1048576) (A : Option Addr) (c : Nat) (w : World) (hr : Kd.C k26 w A l.length l) (hc : l.length ≤ c) :
  Calls Try.prog 148 #[.slice A l.length c] w fun e w' => e = .returned (.bool (l.all di)) ∧ Below w.heap.size w w' := by
 have hq := OV (fun _ W => Below w.heap.size w W) (fun x => !di x) 179 #[] (su Try.func179 (by decide +kernel) (by kernel_rfl)) l A c w hr (fun _ _ h => h) (fun _ W n h => ak h (eH (Below.refl _ _) n))
  (fun x rest W B cb hx _ hI hC hlx => by
   refine (acA x (hz x hx) B cb W (Kd.gX hC hI) hlx).mono ?_
   rintro e w' ⟨he, hb⟩
   exact ⟨he, ak hI hb⟩) w (Below.refl _ _) hr.2.1
 have HQ := ae.mk hq
 rw [List.all_eq_not_any_not]
 clear hq hr hc hz
 generalize l.any (fun x => !di x) = r at HQ ⊢
 cases r
 all_goals
  go_enter Try.func148, Try.ntmps148
  go_wp2_with fail
  refine HQ.out.mono ?_
  rintro e w2 ⟨rfl, hb⟩
  have HB := ae.mk hb
  clear hb
  go_wp2
  go_ret
  exact ⟨rfl, HB.out⟩
noncomputable def lh.f (l0 : List ai) : Option Bool := if l0.all (fun c => decide (sz c ≤ 1048576)) = true then some (l0.all di) else none
theorem lh.calls (A0 : Option Addr) (c0 : Nat) (l0 : List ai) (r : Bool) (w : World) (hr0 : Kd.C k26 w A0 l0.length l0) (hc0 : l0.length ≤ c0) (h : lh.f l0 = some r) :
  Calls Try.prog 148 #[.slice A0 l0.length c0] w fun e w' => e = .returned (.bool r) ∧ Below w.heap.size w w' := by
 unfold lh.f at h
 split at h
 ·rename_i hz
  injection h with h
  subst h
  exact Oj l0 (fun x hx => of_decide_eq_true (List.all_eq_true.1 hz x hx)) A0 c0 w hr0 hc0
 ·exact absurd h (by simp)
end Go.Proofs.Ytfdmfgaiblfbhaa.P
namespace Go.Proofs.Ytfdmfgaiblfbhaa.P
open Go.RowKit Go.Proofs.ag.aK Go.Proofs.ag.bG Go.Proofs.ag.bU
attribute [local go_sem] jq jE jS kG jP jQ kU kW
noncomputable def bZ.j0 : Nat → Int → Bool → Int → Int → Int → Int → Int → Int → List (ai) → Option (Int)
 | 0, _, _, _, _, _, _, _, _, _ => none
 | k + 1, x1, H8, aa9, PW, PX, PY, PZ, aa_, aa' => if H8 = true then (some 0) else ((oV.f PW PX PY PZ x1).bind fun Gg => ((kP.f k aa9 PW PX PY PZ aa_ aa' x1).bind fun Ef => (some (wrap64 (Gg - Ef)))))
noncomputable def bZ.f (k : Nat) (au : Int) (aI : Int) (aC : Int) (aH : Int) (bz : Int) (bD : Int) (aQ : List (ai)) (a1 : Int) : Option (Int) := (kC.f a1).bind fun Ja => (if Ja = true then ((lh.f (([(⟨au, (⟨aI, aC, aH, bz⟩ : dD), bD, aQ⟩ : ai)] : List (ai)))).bind fun xm => (bZ.j0 k a1 (!xm) au aI aC aH bz bD aQ)) else (bZ.j0 k a1 true au aI aC aH bz bD aQ))
def bZ.T3 : Bool × List (List Nat × List Nat) := (true, [([], []), ([0], [0]), ([], []), ([1, 2], [1, 2]), ([], []), ([], []), ([4, 5, 3], [4, 5]), ([3, 6], [3, 6]), ([7, 6, 0, 1, 2, 3, 4, 5, 6, 7], [7])])
def bZ.B3 : List Nat := [0, 1, 0, 7, 0, 0, 63, 127, 255]
theorem bZ.Ri : iO .any (opsOf Try.f86 3) = bZ.T3 := by kernel_rfl
theorem bZ.Kr : iQ bZ.T3.2 bZ.B3 = true := by kernel_rfl
theorem bZ.calls (k : Nat) (au : Int) (aI : Int) (aC : Int) (aH : Int) (bz : Int) (bD : Int) (fA : Nat → Prop) (dH : Option Addr) (dI : Nat) (aQ : List (ai)) (a1 : Int) (r : Int) (w : World) (EE : Kd.V k26 26 w w.heap.size (fun k_ => fA k_) (.slice dH aQ.length dI) aQ) (h : bZ.f k au aI aC aH bz bD aQ a1 = some r) :
  Calls Try.prog 86 #[.agg #[.int .u8 au, .int .i64 aI, .int .i64 aC, .int .i64 aH, .int .i64 bz, .int .i64 bD, .slice dH aQ.length dI], .int .u8 a1] w fun e w' => e = .returned (.int .i64 r) ∧ Below w.heap.size w w' := by
 have IL := Try.underlying26
 have NH := Try.underlying23
 have jd := ae.mk (show Kd.V k26 26 w w.heap.size (fun k_ => (fA k_ ∨ w.heap.size ≤ k_)) (.slice dH aQ.length dI) aQ from Kd.gy EE (fun k_ hk => .inl hk))
 have HB := ae.mk (Below.refl w.heap.size w)
 have H : ((kC.f a1).bind fun Ja => (if Ja = true then ((lh.f (([(⟨au, (⟨aI, aC, aH, bz⟩ : dD), bD, aQ⟩ : ai)] : List (ai)))).bind fun xm => (bZ.j0 k a1 (!xm) au aI aC aH bz bD aQ)) else (bZ.j0 k a1 true au aI aC aH bz bD aQ))) = some r := h
 clear h
 have HC3 := ae.mk H
 clear H
 go_enter Try.func86, Try.ntmps86
 go_upto_region 1 with (((with_reducible refine aG (N := 2) rfl ?_); (try (refine iF (by rfl) ?_; dsimp only)); refine aT ?hg (N := 2) ?hd (cs := #[.int .u8 au, .int .i64 aI, .int .i64 aC, .int .i64 aH, .int .i64 bz, .int .i64 bD, .slice dH aQ.length dI]) (t := 26) ?hr ?_; (case hd => rfl); (case hg => rfl); (case hr => (go_simp; done)); intro lI hg w4 hbox hb; have dY := ae.mk (hbox); replace jd := ae.mk (Kd.jc (Kd.nN jd.out lI (Nat.le_of_eq hg.symm)) hb); replace HB := ae.mk (ak (by repeat ((with_reducible exact HB.out))) hb); clear hb hbox hg))
 (skip)
 go_cut [13] (fun v13 wc => ∃ (kq : Nat) (Kv : Bool), v13 = .bool Kv ∧ ae (bZ.j0 kq a1 Kv au aI aC aH bz bD aQ = some r) ∧ ae (kq ≤ k) ∧ ae (Kd.V k26 26 wc w.heap.size (fun k_ => (fA k_ ∨ w.heap.size ≤ k_) ∧ k_ ≠ lI) (.slice dH aQ.length dI) aQ) ∧ ae (wc.heap[lI]? = some (.cells #[.int .u8 au, .int .i64 aI, .int .i64 aC, .int .i64 aH, .int .i64 bz, .int .i64 bD, (.slice dH aQ.length dI)] 26 (0, 0))) ∧ ae (Below w.heap.size w wc))
 case first =>
  have H := HC3.out
  clear HC3
  replace H := Option.bind_eq_some_iff.mp H
  obtain ⟨Ja, A50, H⟩ := H
  replace H : (if Ja = true then ((lh.f (([(⟨au, (⟨aI, aC, aH, bz⟩ : dD), bD, aQ⟩ : ai)] : List (ai)))).bind fun xm => (bZ.j0 k a1 (!xm) au aI aC aH bz bD aQ)) else (bZ.j0 k a1 true au aI aC aH bz bD aQ)) = some r := H
  have A5 := ae.mk A50
  clear A50
  by_cases c6 : Ja = true
  ·subst c6
   have H1 : ((lh.f (([(⟨au, (⟨aI, aC, aH, bz⟩ : dD), bD, aQ⟩ : ai)] : List (ai)))).bind fun xm => (bZ.j0 k a1 (!xm) au aI aC aH bz bD aQ)) = some r := by rw [if_pos rfl] at H; exact H
   clear H
   have H := H1
   clear H1
   obtain ⟨aeD, QO⟩ : ∃ y_ : List (ai), y_ = (([(⟨au, (⟨aI, aC, aH, bz⟩ : dD), bD, aQ⟩ : ai)] : List (ai))) := ⟨_, rfl⟩
   replace H : ((lh.f aeD).bind fun xm => (bZ.j0 k a1 (!xm) au aI aC aH bz bD aQ)) = some r := by (rw [QO]; with_reducible exact H)
   have aeW := ae.mk QO
   clear QO
   replace H := Option.bind_eq_some_iff.mp H
   obtain ⟨xm, A70, H⟩ := H
   replace H : (bZ.j0 k a1 (!xm) au aI aC aH bz bD aQ) = some r := H
   have A7 := ae.mk A70
   clear A70
   have H' := ae.mk H
   clear H
   go_wp2_with (first | ((with_reducible refine kN (f := 147) rfl ?_); refine mM (some 6) rfl rfl Try.func147 (by kernel_rfl) rfl #[.int .u8 a1] rfl (by (try simp only [List.map_toArray, List.map_cons, List.map_nil]); rfl) ?_; (with_reducible refine (kC.calls a1 true _ A5.out).mono ?_); rintro e w8 ⟨rfl, hb⟩; refine ⟨_, rfl, ?_⟩; replace jd := ae.mk (Kd.jc jd.out hb); replace dY := ae.mk (aJ dY.out hb); replace HB := ae.mk (ak (by repeat ((with_reducible exact HB.out))) hb); (try clear hb); have TB : w8.cell? ⟨lI, 0, none⟩ = some (.int .u8 au) := (af dY.out 0).trans rfl; have TC : w8.cell? ⟨lI, 1, none⟩ = some (.int .i64 aI) := (af dY.out 1).trans rfl; have TD : w8.cell? ⟨lI, 2, none⟩ = some (.int .i64 aC) := (af dY.out 2).trans rfl; have TE : w8.cell? ⟨lI, 3, none⟩ = some (.int .i64 aH) := (af dY.out 3).trans rfl; have TF : w8.cell? ⟨lI, 4, none⟩ = some (.int .i64 bz) := (af dY.out 4).trans rfl; have TG : w8.cell? ⟨lI, 5, none⟩ = some (.int .i64 bD) := (af dY.out 5).trans rfl; have TI : w8.cell? ⟨lI, 6, none⟩ = some (.slice dH aQ.length dI) := (af dY.out 6).trans rfl; have TV := ah dY.out 0; have TW := ah dY.out 1; have TY := ah dY.out 2; have TZ := ah dY.out 3; have T_ := ah dY.out 4; have Ua := ah dY.out 5; have Ub := ah dY.out 6) | ((with_reducible refine aG (N := 10) rfl ?_); (try (refine iF (by rfl) ?_; dsimp only)); refine Kd.yI k26 _ 26 ?hg (N' := 10) ?hd (xs := ([(⟨au, (⟨aI, aC, aH, bz⟩ : dD), bD, aQ⟩ : ai)] : List (ai))) (inner := [.int .u8 au, .int .i64 aI, .int .i64 aC, .int .i64 aH, .int .i64 bz, .int .i64 bD, .slice dH aQ.length dI]) (ok := (fun k_ => (fA k_ ∨ w.heap.size ≤ k_) ∧ k_ ≠ lI)) (fE := (fun k_ => (fA k_ ∨ w.heap.size ≤ k_) ∧ k_ ≠ lI)) ?hr ?hp (fun _ hk => hk) ((show ∀ k_, w8.heap.size ≤ k_ → (fun k_ => (fA k_ ∨ w.heap.size ≤ k_) ∧ k_ ≠ lI) k_ from fun k_ hk => ⟨(.inr (Nat.le_trans (dS (by repeat ((with_reducible exact HB.out)))) hk)), Kd.zn dY.out k_ hk⟩) _ (Nat.le_refl _)) (Below.refl _ _) (Nat.le_refl _) (by simp) ?_; (case hd => rfl); (case hg => rfl); (case hr => (go_simp; done)); (case hp => exact (bW.c7 (show Kd.FK k26 _ _ (⟨au, (⟨aI, aC, aH, bz⟩ : dD), bD, aQ⟩ : ai) [.int .u8 au, .int .i64 aI, .int .i64 aC, .int .i64 aH, .int .i64 bz, .int .i64 bD, .slice dH aQ.length dI] from (oG _ _ (⟨au, (⟨aI, aC, aH, bz⟩ : dD), bD, aQ⟩ : ai) (Kd.kQ (Kd.gy (ok' := (fun k_ => (fA k_ ∨ w.heap.size ≤ k_) ∧ k_ ≠ lI)) (jd.out) (fun k_ hk => ⟨hk.1, hk.2⟩))).2.1 (Kd.Sm (Kd.gy (ok' := (fun k_ => (fA k_ ∨ w.heap.size ≤ k_) ∧ k_ ≠ lI)) (jd.out) (fun k_ hk => ⟨hk.1, hk.2⟩))))) (bW.none _ _))); intro akG w10 QI hb nR jl; clear nR jl; (rw [← aeW.out] at QI); have Gu := ae.mk (Kd.uZ QI (dS (by repeat ((with_reducible exact HB.out))))); replace jd := ae.mk (Kd.wR jd.out (Kd.vO QI) hb); replace dY := ae.mk (aJ dY.out hb); replace HB := ae.mk (ak (by repeat ((with_reducible exact HB.out))) hb); clear hb QI; obtain ⟨akf, ako, agY⟩ := Kd.jB Gu.out; subst agY) | (go_at_call 148; (with_reducible refine (lh.calls _ _ aeD xm _ ?tN ?yQ A7.out).mono ?_); (case tN => repeat (exact (Kd.iJ Gu.out).2.2)); (case yQ => exact (Kd.iJ Gu.out).2.1); rintro e uh ⟨rfl, hb⟩; replace jd := ae.mk (Kd.jc jd.out hb); replace Gu := ae.mk (Kd.pR Gu.out hb); replace dY := ae.mk (aJ dY.out hb); replace HB := ae.mk (ak (by repeat ((with_reducible exact HB.out))) hb); (try clear hb)))
   go_meet
   case rel => exact ⟨_, (!xm), (by rfl), H', ⟨by omega⟩, ⟨by exact Kd.gy jd.out (fun _ hk => ⟨hk.1.1, hk.1.2⟩)⟩, ⟨by exact dY.out⟩, ⟨by repeat ((with_reducible exact HB.out))⟩⟩
  ·replace c6 := Bool.eq_false_iff.mpr c6
   subst c6
   have H1 : (bZ.j0 k a1 true au aI aC aH bz bD aQ) = some r := by rw [if_neg (show ¬ (false = true) by decide)] at H; exact H
   clear H
   have H := H1
   clear H1
   have H' := ae.mk H
   clear H
   go_wp2_with (((with_reducible refine kN (f := 147) rfl ?_); refine mM (some 6) rfl rfl Try.func147 (by kernel_rfl) rfl #[.int .u8 a1] rfl (by (try simp only [List.map_toArray, List.map_cons, List.map_nil]); rfl) ?_; (with_reducible refine (kC.calls a1 false _ A5.out).mono ?_); rintro e w14 ⟨rfl, hb⟩; refine ⟨_, rfl, ?_⟩; replace jd := ae.mk (Kd.jc jd.out hb); replace dY := ae.mk (aJ dY.out hb); replace HB := ae.mk (ak (by repeat ((with_reducible exact HB.out))) hb); (try clear hb)))
   go_meet
   case rel => exact ⟨_, (true), (by rfl), H', ⟨by omega⟩, ⟨by exact jd.out⟩, ⟨by exact dY.out⟩, ⟨by repeat ((with_reducible exact HB.out))⟩⟩
 case rest =>
  clear HC3
  obtain ⟨kq, Kv, rfl, HA, HJ2, oL, dY, HB⟩ := hcut
  cases kq with
  | zero => exact absurd HA.out (by simp [bZ.j0])
  | succ kj2 =>
   have H := HA.out
   clear HA
   simp only [bZ.j0] at H
   by_cases c15 : Kv = true
   ·subst c15
    have H1 : (some 0) = some r := by rw [if_pos rfl] at H; exact H
    clear H
    have H := H1
    clear H1
    obtain rfl := Option.some.inj H
    go_wp2
    go_ret
    exact ⟨by rfl, by repeat ((with_reducible exact HB.out))⟩
   ·replace c15 := Bool.eq_false_iff.mpr c15
    subst c15
    have H1 : ((oV.f aI aC aH bz a1).bind fun Gg => ((kP.f kj2 au aI aC aH bz bD aQ a1).bind fun Ef => (some (wrap64 (Gg - Ef))))) = some r := by rw [if_neg (show ¬ (false = true) by decide)] at H; exact H
    clear H
    have H := H1
    clear H1
    replace H := Option.bind_eq_some_iff.mp H
    obtain ⟨Gg, Ky, H⟩ := H
    replace H : ((kP.f kj2 au aI aC aH bz bD aQ a1).bind fun Ef => (some (wrap64 (Gg - Ef)))) = some r := H
    have A16 := ae.mk Ky
    clear Ky
    replace H := Option.bind_eq_some_iff.mp H
    obtain ⟨Ef, abh, H⟩ := H
    replace H : (some (wrap64 (Gg - Ef))) = some r := H
    have A17 := ae.mk abh
    clear abh
    obtain rfl := Option.some.inj H
    try go_wp2
    replace oL := ae.mk (Kd.Lt oL.out); replace dY := ae.mk (uS dY.out); replace HB := ae.mk (uq HB.out)
    refine iW (n := 9) (S := fun w' => w'.cell? ⟨lI, 0, none⟩ = some (.int .u8 au) ∧ w'.cell? ⟨lI, 1, none⟩ = some (.int .i64 aI) ∧ w'.cell? ⟨lI, 2, none⟩ = some (.int .i64 aC) ∧ w'.cell? ⟨lI, 3, none⟩ = some (.int .i64 aH) ∧ w'.cell? ⟨lI, 4, none⟩ = some (.int .i64 bz) ∧ w'.cell? ⟨lI, 5, none⟩ = some (.int .i64 bD) ∧ w'.cell? ⟨lI, 6, none⟩ = some (.slice dH aQ.length dI)) (ds := []) #[false, false, false, false, false, false, false, false, false] (by kernel_rfl) rfl rfl ⟨(af dY.out 0).trans rfl, (af dY.out 1).trans rfl, (af dY.out 2).trans rfl, (af dY.out 3).trans rfl, (af dY.out 4).trans rfl, (af dY.out 5).trans rfl, (af dY.out 6).trans rfl⟩ (fun hHeld => ?_); refine eX bZ.Ri bZ.Kr (fun aj dZ => ?_)
    generalize wc.drew = w18 at oL dY HB hHeld ⊢
    refine rF (i := 0) (N := some 14) (v := ?_) (a' := ?_) #[true, false, false, false, false, false, false, false, false] rfl rfl (oN aj.out (by kernel_rfl)) (fun _ _ _ h => h) (Or.inl ⟨by rfl, ?_⟩) ?_ ?_
    rotate_left
    ·intro w'
     go_simp
     with_reducible rfl
    rotate_left
    ·simp only [Act.put, List.setIfInBounds_toArray, List.set_cons_zero, List.set_cons_succ, jO, jM]
     rfl
    refine rF (i := 2) (N := some 16) (v := ?_) (a' := ?_) #[true, false, true, false, false, false, false, false, false] rfl rfl (oN aj.out (by kernel_rfl)) (fun _ _ _ h => h) (Or.inl ⟨by rfl, ?_⟩) ?_ ?_
    rotate_left
    ·intro w'
     go_simp
     with_reducible rfl
    rotate_left
    ·simp only [Act.put, List.setIfInBounds_toArray, List.set_cons_zero, List.set_cons_succ, jO, jM]
     rfl
    refine rF (i := 5) (N := some 19) (v := ?_) (a' := ?_) #[true, false, true, false, false, true, false, false, false] rfl rfl (oN aj.out (by kernel_rfl)) (fun _ _ _ h => h) (Or.inl ⟨by rfl, ?_⟩) ?_ ?_
    rotate_left
    ·intro w'
     go_simp
     with_reducible rfl
    rotate_left
    ·simp only [Act.put, List.setIfInBounds_toArray, List.set_cons_zero, List.set_cons_succ, jO, jM]
     rfl
    refine yR (i := 1) (N := some 15) (v := ?_) (a' := ?_) #[true, true, true, false, false, true, false, false, false] rfl rfl (uU aj.out dZ.out (by kernel_rfl)) (fun _ _ _ h => h) (Or.inl ⟨by rfl, ?_⟩) hHeld ?_ ?_
    rotate_left
    ·rintro w' ⟨s0, s1, s2, s3, s4, s5, s6⟩
     go_simp
     with_reducible rfl
    rotate_left
    ·simp only [Act.put, List.setIfInBounds_toArray, List.set_cons_zero, List.set_cons_succ, jO, jM]
     rfl
    refine yR (i := 4) (N := some 18) (v := ?_) (a' := ?_) #[true, true, true, false, true, true, false, false, false] rfl rfl (uU aj.out dZ.out (by kernel_rfl)) (fun _ _ _ h => h) (Or.inl ⟨by rfl, ?_⟩) hHeld ?_ ?_
    rotate_left
    ·rintro w' ⟨s0, s1, s2, s3, s4, s5, s6⟩
     go_simp
     with_reducible rfl
    rotate_left
    ·simp only [Act.put, List.setIfInBounds_toArray, List.set_cons_zero, List.set_cons_succ, jO, jM]
     rfl
    refine jr (i := 3) (N := some 17) #[true, true, true, true, true, true, false, false, false] rfl rfl (dF aj.out (by kernel_rfl)) (by decide) (fun K hK => ?_)
    refine ik Try.func98 (by kernel_rfl) rfl #[.agg #[.int .i64 aI, .int .i64 aC, .int .i64 aH, .int .i64 bz], .int .u8 a1] (by rfl) rfl rfl (by (try simp only [List.map_toArray, List.map_cons, List.map_nil]); rfl) ?_
    with_reducible refine (oV.calls aI aC aH bz a1 Gg _ A16.out).mono ?_
    rintro e E5 ⟨rfl, hb⟩
    refine ⟨_, rfl, ?_⟩
    replace oL := ae.mk (Kd.jc oL.out hb); replace dY := ae.mk (aJ dY.out hb); replace HB := ae.mk (ak (by repeat ((with_reducible exact HB.out))) hb)
    (try clear hb)
    (skip)
    (skip)
    (skip)
    refine hK.out _ _ ⟨(af dY.out 0).trans rfl, (af dY.out 1).trans rfl, (af dY.out 2).trans rfl, (af dY.out 3).trans rfl, (af dY.out 4).trans rfl, (af dY.out 5).trans rfl, (af dY.out 6).trans rfl⟩ (fun hHeld => ?_)
    clear hK K
    refine mf (a' := ?_) ?_ ?_
    rotate_left
    ·show Act.put _ (some 17) _ = _
     simp only [Act.put, List.setIfInBounds_toArray, List.set_cons_zero, List.set_cons_succ, jO, jM]
     rfl
    refine jr (i := 6) (N := some 20) #[true, true, true, true, true, true, true, false, false] rfl rfl (dF aj.out (by kernel_rfl)) (by decide) (fun K hK => ?_)
    refine ik Try.func149 (by kernel_rfl) rfl #[.agg #[.int .u8 au, .int .i64 aI, .int .i64 aC, .int .i64 aH, .int .i64 bz, .int .i64 bD, .slice dH aQ.length dI], .int .u8 a1] (by rfl) rfl rfl (by (try simp only [List.map_toArray, List.map_cons, List.map_nil]); rfl) ?_
    with_reducible refine (kP.calls kj2 au aI aC aH bz bD _ _ aQ a1 Ef _ ?tN ?yQ A17.out).mono ?_
    (case tN => repeat (exact (Kd.kQ oL.out).2.2))
    (case yQ => exact (Kd.kQ oL.out).2.1)
    rintro e w20 ⟨rfl, hb⟩
    refine ⟨_, rfl, ?_⟩
    replace oL := ae.mk (Kd.jc oL.out hb); replace dY := ae.mk (aJ dY.out hb); replace HB := ae.mk (ak (by repeat ((with_reducible exact HB.out))) hb)
    (try clear hb)
    (skip)
    (skip)
    (skip)
    refine hK.out _ _ ⟨(af dY.out 0).trans rfl, (af dY.out 1).trans rfl, (af dY.out 2).trans rfl, (af dY.out 3).trans rfl, (af dY.out 4).trans rfl, (af dY.out 5).trans rfl, (af dY.out 6).trans rfl⟩ (fun hHeld => ?_)
    clear hK K
    refine mf (a' := ?_) ?_ ?_
    rotate_left
    ·show Act.put _ (some 20) _ = _
     simp only [Act.put, List.setIfInBounds_toArray, List.set_cons_zero, List.set_cons_succ, jO, jM]
     rfl
    refine rF (i := 7) (N := some 21) (v := ?_) (a' := ?_) #[true, true, true, true, true, true, true, true, false] rfl rfl (oN aj.out (by kernel_rfl)) (fun _ _ _ h => h) (Or.inl ⟨by rfl, ?_⟩) ?_ ?_
    rotate_left
    ·intro w'
     go_simp
     with_reducible rfl
    rotate_left
    ·simp only [Act.put, List.setIfInBounds_toArray, List.set_cons_zero, List.set_cons_succ, jO, jM]
     rfl
    refine rF (i := 8) (N := some 4) (v := ?_) (a' := ?_) #[true, true, true, true, true, true, true, true, true] rfl rfl (oN aj.out (by kernel_rfl)) (fun _ _ _ h => h) (Or.inl ⟨by rfl, ?_⟩) ?_ ?_
    rotate_left
    ·intro w'
     go_simp
     with_reducible rfl
    rotate_left
    ·simp only [Act.put, List.setIfInBounds_toArray, List.set_cons_zero, List.set_cons_succ, jO, jM]
     rfl
    refine jK (gQ aj.out (by kernel_rfl)) ?_
    try go_wp2
    go_ret
    exact ⟨by rfl, by repeat ((with_reducible exact HB.out))⟩
def qh.f (au : Int) (aI : Int) (aC : Int) (aH : Int) (a1 : Int) : Option (Int) := if a1 = 1 then (some aC) else (if a1 = 2 then (some aH) else (some 0))
theorem qh.calls (au : Int) (aI : Int) (aC : Int) (aH : Int) (a1 : Int) (r : Int) (w : World) (h : qh.f au aI aC aH a1 = some r) :
  Calls Try.prog 87 #[.agg #[.int .i64 au, .int .i64 aI, .int .i64 aC, .int .i64 aH], .int .u8 a1] w fun e w' => e = .returned (.int .i64 r) ∧ Below w.heap.size w w' := by
 have NH := Try.underlying23
 have HB := ae.mk (Below.refl w.heap.size w)
 have H : (if a1 = 1 then (some aC) else (if a1 = 2 then (some aH) else (some 0))) = some r := h
 clear h
 by_cases c3 : a1 = 1
 ·rw [if_pos c3] at H
  have uj : (a1 == 1) = true := beq_iff_eq.mpr c3
  have y8 : (a1 != 1) = false := bne_eq_false_iff_eq.mpr c3
  clear c3
  obtain rfl := Option.some.inj H
  go_enter Try.func87, Try.ntmps87
  go_wp2_with (((with_reducible refine aG (N := 2) rfl ?_); refine aT ?hg (N := 2) ?hd (cs := #[.int .i64 au, .int .i64 aI, .int .i64 aC, .int .i64 aH]) (t := 23) ?hr ?_; (case hd => rfl); (case hg => rfl); (case hr => (go_simp; done)); intro xu hg w4 hbox hb; have nY := ae.mk (hbox); replace HB := ae.mk (ak (by repeat ((with_reducible exact HB.out))) hb); clear hb hbox hg; have adf : w4.cell? ⟨xu, 0, none⟩ = some (.int .i64 au) := (af nY.out 0).trans rfl; have adg : w4.cell? ⟨xu, 1, none⟩ = some (.int .i64 aI) := (af nY.out 1).trans rfl; have adh : w4.cell? ⟨xu, 2, none⟩ = some (.int .i64 aC) := (af nY.out 2).trans rfl; have adl : w4.cell? ⟨xu, 3, none⟩ = some (.int .i64 aH) := (af nY.out 3).trans rfl; have adD := ah nY.out 0; have adE := ah nY.out 1; have adF := ah nY.out 2; have adG := ah nY.out 3))
  go_ret
  exact ⟨by rfl, by repeat ((with_reducible exact HB.out))⟩
 ·rw [if_neg c3] at H
  have uj : (a1 == 1) = false := beq_eq_false_iff_ne.mpr c3
  have y8 : (a1 != 1) = true := bne_iff_ne.mpr c3
  by_cases c6 : a1 = 2
  ·rw [if_pos c6] at H
   have BJ : (a1 == 2) = true := beq_iff_eq.mpr c6
   have VD : (a1 != 2) = false := bne_eq_false_iff_eq.mpr c6
   clear c6
   obtain rfl := Option.some.inj H
   go_enter Try.func87, Try.ntmps87
   go_wp2_with (((with_reducible refine aG (N := 2) rfl ?_); refine aT ?hg (N := 2) ?hd (cs := #[.int .i64 au, .int .i64 aI, .int .i64 aC, .int .i64 aH]) (t := 23) ?hr ?_; (case hd => rfl); (case hg => rfl); (case hr => (go_simp; done)); intro xu hg w7 hbox hb; have nY := ae.mk (hbox); replace HB := ae.mk (ak (by repeat ((with_reducible exact HB.out))) hb); clear hb hbox hg; have Tu : w7.cell? ⟨xu, 0, none⟩ = some (.int .i64 au) := (af nY.out 0).trans rfl; have Tv : w7.cell? ⟨xu, 1, none⟩ = some (.int .i64 aI) := (af nY.out 1).trans rfl; have Tz : w7.cell? ⟨xu, 2, none⟩ = some (.int .i64 aC) := (af nY.out 2).trans rfl; have TA : w7.cell? ⟨xu, 3, none⟩ = some (.int .i64 aH) := (af nY.out 3).trans rfl; have TR := ah nY.out 0; have TS := ah nY.out 1; have TT := ah nY.out 2; have TU := ah nY.out 3))
   go_ret
   exact ⟨by rfl, by repeat ((with_reducible exact HB.out))⟩
  ·rw [if_neg c6] at H
   have BJ : (a1 == 2) = false := beq_eq_false_iff_ne.mpr c6
   have VD : (a1 != 2) = true := bne_iff_ne.mpr c6
   obtain rfl := Option.some.inj H
   go_enter Try.func87, Try.ntmps87
   go_wp2_with (((with_reducible refine aG (N := 2) rfl ?_); refine aT ?hg (N := 2) ?hd (cs := #[.int .i64 au, .int .i64 aI, .int .i64 aC, .int .i64 aH]) (t := 23) ?hr ?_; (case hd => rfl); (case hg => rfl); (case hr => (go_simp; done)); intro xu hg w9 hbox hb; have nY := ae.mk (hbox); replace HB := ae.mk (ak (by repeat ((with_reducible exact HB.out))) hb); clear hb hbox hg))
   go_ret
   exact ⟨by rfl, by repeat ((with_reducible exact HB.out))⟩
end Go.Proofs.Ytfdmfgaiblfbhaa.P
namespace Go.Proofs.Ytfdmfgaiblfbhaa.P
open Go.RowKit Go.Proofs.ag.aK Go.Proofs.ag.bG Go.Proofs.ag.bU
theorem Ev.unique {α : Type} {g : Nat → Option α} {a b : α} (h : Ev g a) (k : Ev g b) : a = b := by
 obtain ⟨n, hn⟩ := h
 obtain ⟨m, hm⟩ := k
 have e := (hn (max n m) (by omega)).symm.trans (hm (max n m) (by omega))
 exact Option.some.inj e
theorem Q9 (r : dD) (ax : Int) : qh.f r.f0 r.f1 r.f2 r.f3 ax = some (aV ax r) := by
 unfold qh.f aV
 split
 ·rfl
 ·split <;> rfl
theorem EZ (c : ai) (hz : sz c ≤ 1048576) : lh.f ([(⟨c.f0, (⟨c.f1.f0, c.f1.f1, c.f1.f2, c.f1.f3⟩ : dD), c.f2, c.f3⟩ : ai)] : List ai) = some (di c) := by
 rw [GR]
 unfold lh.f
 rw [if_pos (by simp [hz])]
 simp
theorem o5 {c : ai} (h : kV c = true) : (fH c).all mg = true := by
 unfold kV at h
 simp only [Bool.and_eq_true] at h
 exact h.2.1
theorem kJ {c : ai} (h : di c = true) : kV c = true := by
 unfold di at h
 simp only [Bool.and_eq_true] at h
 exact h.1
noncomputable def az (ax : Int) (c : ai) : Int := if (ax = 1 ∨ ax = 2) ∧ di c = true then wrap64 (aV ax c.f1 - b_ ax c) else 0
theorem V6 (c : ai) (hz : sz c ≤ 1048576) (ax : Int) : Ev (fun k => bZ.f k c.f0 c.f1.f0 c.f1.f1 c.f1.f2 c.f1.f3 c.f2 c.f3 ax) (az ax c) := by
 have no : Ev (fun k => bZ.j0 k ax true c.f0 c.f1.f0 c.f1.f1 c.f1.f2 c.f1.f3 c.f2 c.f3) 0 := by
  refine Ev.step (f := fun _ => some 0) (fun k => ?_) (Ev.now _)
  simp only [bZ.j0]
  rw [if_pos trivial]
 unfold az
 by_cases hax : ax = 1 ∨ ax = 2
 ·have ha : kC.f ax = some true := by
   unfold kC.f
   rcases hax with rfl | rfl <;> rfl
  cases ht : di c with
  | false =>
   rw [if_neg (by simp)]
   refine Ev.congr (f := fun k => bZ.j0 k ax true c.f0 c.f1.f0 c.f1.f1 c.f1.f2 c.f1.f3 c.f2 c.f3) (fun k => ?_) no
   unfold bZ.f
   rw [ha]
   simp only [Option.bind_some, if_true]
   rw [EZ c hz, ht]
   rfl
  | true =>
   rw [if_pos ⟨hax, rfl⟩]
   refine Ev.congr (f := fun k => bZ.j0 k ax false c.f0 c.f1.f0 c.f1.f1 c.f1.f2 c.f1.f3 c.f2 c.f3) (fun k => ?_) (Ev.step (f := fun k => (kP.f k c.f0 c.f1.f0 c.f1.f1 c.f1.f2 c.f1.f3 c.f2 c.f3 ax).bind fun t => some (wrap64 (aV ax c.f1 - t))) (fun k => ?_) (Ev.bind (Wy ax (sz c) c (Nat.le_refl _) hz) (Ev.now _)))
   ·unfold bZ.f
    rw [ha]
    simp only [Option.bind_some, if_true]
    rw [EZ c hz, ht]
    rfl
   ·simp only [bZ.j0]
    rw [if_neg (by simp), JS c.f1 ax]
    rfl
 ·rw [if_neg (fun h => hax h.1)]
  refine Ev.congr (f := fun k => bZ.j0 k ax true c.f0 c.f1.f0 c.f1.f1 c.f1.f2 c.f1.f3 c.f2 c.f3) (fun k => ?_) no
  unfold bZ.f kC.f
  rw [if_neg (fun h => hax (.inl h)), show (ax == 2) = false from by simp; exact fun h => hax (.inr h)]
  simp only [Option.bind_some, Bool.false_eq_true, if_false]
theorem PS {l : List ai} {k : ai} (h : k ∈ l) : sz k ≤ dJ l := by
 obtain ⟨p, q, e⟩ := List.append_of_mem h
 rw [e, nI, bY]; omega
noncomputable def qP (b : Int) (gs : List Int) : List Int × Bool := by
 classical
 exact if h : ∃ r, Ev (fun k => bF.f k b gs) r then Classical.choose h else ([], false)
theorem Ec (b : Int) (gs : List Int) (hl : gs.length ≤ 100000) (h0 : -2147483647 ≤ b) (h1 : b ≤ 2147483647) : Lp b gs (qP b gs) ∧ Ev (fun k => bF.f k b gs) (qP b gs) := by
 obtain ⟨r, hs, he⟩ := UY b gs hl h0 h1
 have hx : ∃ r, Ev (fun k => bF.f k b gs) r := ⟨r, he⟩
 have e : qP b gs = r := by
  unfold qP
  rw [dif_pos hx]
  exact Ev.unique (Classical.choose_spec hx) he
 rw [e]
 exact ⟨hs, he⟩
theorem aaL {b : Int} {gs : List Int} (hl : gs.length ≤ 100000) (h0 : -2147483647 ≤ b) (h1 : b ≤ 2147483647) (h : (qP b gs).2 = true) : (qP b gs).1.length = gs.length := by
 rcases (Ec b gs hl h0 h1).1 with ⟨e, _⟩ | ⟨e, _⟩ | ⟨qs, e, _, _, hq, _⟩
 ·rw [e] at h; cases h
 ·rw [e]; exact sH _ _
 ·rw [e, ← hq]; simp
theorem UZ {b : Int} {gs : List Int} (hl : gs.length ≤ 100000) (h0 : -2147483647 ≤ b) (h1 : b ≤ 2147483647) : ∀ x, x ∈ (qP b gs).1 → -2147483647 ≤ x ∧ x ≤ 2147483647 := by
 intro x hx
 rcases (Ec b gs hl h0 h1).1 with ⟨e, _⟩ | ⟨e, hne, _, hb⟩ | ⟨qs, e, _, _, hq, hg, _⟩
 ·rw [e] at hx; cases hx
 ·rw [e] at hx
  simp only [moreL, List.mem_map, List.mem_range] at hx
  obtain ⟨i, hi, rfl⟩ := hx
  have hn : (0 : Int) < (gs.length : Int) := by have := List.length_pos_iff.2 hne; omega
  unfold qN
  have hd : 0 ≤ b / (gs.length : Int) := Int.ediv_nonneg hb (by omega)
  have hm : 0 ≤ b % (gs.length : Int) := Int.emod_nonneg _ (by omega)
  have hdm := Int.mul_ediv_add_emod b (gs.length : Int)
  have hle : b / (gs.length : Int) ≤ (gs.length : Int) * (b / (gs.length : Int)) := by
   have := Int.mul_le_mul_of_nonneg_right (show (1 : Int) ≤ (gs.length : Int) by omega) hd
   omega
  split <;> omega
 ·rw [e] at hx
  simp only [List.mem_map] at hx
  obtain ⟨p, hp, rfl⟩ := hx
  have := hg p hp
  omega
def grow (ax bu : Int) (r : dD) : dD := ⟨r.f0, r.f1, if ax = 1 then wrap64 (r.f2 + bu) else r.f2, if ax = 1 then r.f3 else wrap64 (r.f3 + bu)⟩
noncomputable def JM (ax k : Int) (l : List ai) (bu : Int) (i : Nat) : Int := if (qP bu (l.map (az ax))).2 = true ∧ fD ax k = true then rd (qP bu (l.map (az ax))).1 (i : Int) else bu
mutual
noncomputable def fF (ax : Int) : ai → Int → ai
 | ⟨k, r, id, l⟩, b => ⟨k, grow ax b r, id, kR ax l (JM ax k l b) 0⟩
noncomputable def kR (ax : Int) : List ai → (Nat → Int) → Nat → List ai
 | [], _, _ => []
 | k :: ks, ns, i => fF ax k (ns i) :: kR ax ks ns (i + 1)
end
theorem yU (ax : Int) (c : ai) (b : Int) : fF ax c b = ⟨c.f0, grow ax b c.f1, c.f2, kR ax c.f3 (JM ax c.f0 c.f3 b) 0⟩ := by cases c; simp [fF]
theorem rW (ax : Int) (ns : Nat → Int) (i : Nat) : kR ax [] ns i = [] := by simp [kR]
theorem u_ (ax : Int) (k : ai) (ks : List ai) (ns : Nat → Int) (i : Nat) : kR ax (k :: ks) ns i = fF ax k (ns i) :: kR ax ks ns (i + 1) := by simp [kR]
theorem y7 (ax : Int) : ∀ (l : List ai) (ns : Nat → Int) (i : Nat), (kR ax l ns i).length = l.length := by
 intro l
 induction l with
 | nil => intro ns i; rw [rW]
 | cons k ks ih => intro ns i; rw [u_, List.length_cons, List.length_cons, ih]
theorem Su (ax : Int) (k : ai) : ∀ (l : List ai) (ns : Nat → Int) (i : Nat), kR ax (l ++ [k]) ns i = kR ax l ns i ++ [fF ax k (ns (i + l.length))] := by
 intro l
 induction l with
 | nil => intro ns i; simp [kR]
 | cons x xs ih => intro ns i; rw [List.cons_append, u_, u_, ih, List.cons_append, List.length_cons, show i + 1 + xs.length = i + (xs.length + 1) by omega]
theorem YB (ax : Int) (ns : Nat → Int) (pre : List ai) (k : ai) (rest : List ai) : (kR ax pre ns 0 ++ k :: rest).set pre.length (fF ax k (ns pre.length)) = kR ax (pre ++ [k]) ns 0 ++ rest := by
 rw [Su, List.append_assoc, List.set_append_right _ _ (by rw [y7]; exact Nat.le_refl _), y7, Nat.sub_self, List.set_cons_zero, Nat.zero_add]
 rfl
theorem ab8 (ax : Int) (ns : Nat → Int) (pre : List ai) (k : ai) (rest : List ai) : aA (kR ax pre ns 0 ++ k :: rest) (pre.length : Int) = k := by
 have := lu (kR ax pre ns 0) k rest
 rw [y7] at this
 exact this
theorem ab9 (ax : Int) : ∀ (N : Nat), (∀ c : ai, sz c ≤ N → ∀ b, sz (fF ax c b) = sz c) ∧ (∀ l : List ai, dJ l ≤ N → ∀ ns i, dJ (kR ax l ns i) = dJ l) := by
 intro N
 induction N with
 | zero => exact ⟨fun c h => by rw [cO] at h; omega, fun l h ns i => by cases l with
  | nil => rw [rW]
  | cons x xs => rw [bY] at h; have := cO x; omega⟩
 | succ N ih =>
  have hC : ∀ c : ai, sz c ≤ N + 1 → ∀ b, sz (fF ax c b) = sz c := fun c h b => by
   rw [yU, cO, cO c]
   show 1 + dJ (kR ax c.f3 _ 0) = _
   rw [ih.2 c.f3 (by rw [cO] at h; omega)]
  refine ⟨hC, fun l => ?_⟩
  induction l with
  | nil => intro _ ns i; rw [rW]
  | cons x xs ihl =>
   intro h ns i
   rw [u_, bY, bY]
   rw [bY] at h
   rw [hC x (by omega), ihl (by omega)]
def pX.f (l0 : List (ai)) : Option (List ai) := if l0.length ≤ 1000000 then some l0 else none
theorem pX.calls (R_ : Nat → Prop) (A0 : Option Addr) (c0 : Nat) (l0 : List (ai)) (r : List ai) (w : World) (hs0 : Kd.V k26 26 w w.heap.size (fun k_ => R_ k_) (.slice A0 l0.length c0) l0) (h : pX.f l0 = some r) :
  Calls Try.prog 137 #[.slice A0 l0.length c0] w fun e w' => ∃ vI : Value, e = .returned (vI) ∧ Kd.N k26 26 w' w.heap.size (fun k_ => (R_ k_ ∨ w.heap.size ≤ k_)) vI r ∧ Below w.heap.size w w' := by
 unfold pX.f at h
 split at h
 ·rename_i hl
  injection h with h
  subst h
  have HR := ae.mk (Kd.Sm hs0)
  have HL := ae.mk hl
  clear hl
  cases A0 with
  | none =>
   have heq : ∀ W : World, (binOp .eql 24 (.slice none l0.length c0) (.slice none 0 0)).run Try.prog W = .ok (.bool true) W := fun W => Lib.run_eql_slice_nil W 24 26 none l0.length c0 0 0 Try.underlying24
   have e0 : l0 = [] := by
    cases l0 with
    | nil => rfl
    | cons x xs =>
     obtain ⟨ad, h1, _⟩ := (Kd.Gm HR.out).2.2 (by simp)
     cases h1
   have E0 := ae.mk e0
   clear hs0 e0
   go_enter Try.func137, Try.ntmps137
   go_wp2
   go_ret
   exact ⟨_, rfl, by rw [E0.out]; exact Kd.yJ _ _ _ _ _, Below.refl _ _⟩
  | some ad =>
   have heq : ∀ W : World, (binOp .eql 24 (.slice (some ad) l0.length c0) (.slice none 0 0)).run Try.prog W = .ok (.bool false) W := fun W => Lib.run_eql_slice_nil W 24 26 (some ad) l0.length c0 0 0 Try.underlying24
   clear hs0
   go_enter Try.func137, Try.ntmps137
   go_wp2_with (first | ((with_reducible refine aG (N := 5) rfl ?_); refine Kd.yI k26 w.heap.size 26 ?hg (N' := 5) ?hd (xs := ([] : List ai)) (inner := []) (ok := fun k_ => (R_ k_ ∨ w.heap.size ≤ k_)) (fE := fun _ => False) ?hr ?hp (fun _ hk => hk.elim) (.inr (Nat.le_refl _)) (Below.refl _ _) (Nat.le_refl _) (by simp) ?_; (case hd => rfl); (case hg => rfl); (case hr => first | (go_simp; done) | (go_simp; rfl)); (case hp => exact bW.none _ _); intro v5 w5 ho hb nR jl; clear nR; have HO := ae.mk ho; have HB := ae.mk hb; have HF := ae.mk (Kd.rO (Kd.KD (v := v5) HR.out (fun k hk => by obtain ⟨b, h1, h2⟩ := jl; rw [h1] at hk; cases hk; exact h2) hb) (fun k hk => hk)); clear ho hb jl; obtain ⟨Ao, co, eo⟩ := Kd.jB HO.out; subst eo) | ((with_reducible refine wo (b := .append) (xs := #[.tmp 5, .tmp 6]) rfl ?_); at_builtin; refine Kd.CG k26 (w0 := w) w.heap.size rfl (.tmp 5) (.tmp 6) 24 26 (.agg #[(.int .u8 0), (.int .i64 0), (.int .i64 0), (.int .i64 0), (.int .i64 0), (.int .i64 0), (.slice none 0 0)]) 72 rfl Try.underlying24 info26 rfl (by decide) (by omega) (.slice Ao ([] : List ai).length co) [] l0 _ _ _ (fun k_ => (R_ k_ ∨ w.heap.size ≤ k_)) (fun k_ => R_ k_ ∧ some k_ ≠ (Value.slice Ao ([] : List ai).length co).ownBlock) rfl rfl ?aO ?aR (fun _ h => ⟨.inl h.1, h.2⟩) (fun k hk => .inr (Nat.le_trans (dS HB.out) hk)) ?aB ?aS ?aL ?_; (case aO => exact HO.out); (case aR => exact HF.out); (case aB => exact HB.out); (case aS => exact dS HB.out); (case aL => (have := HL.out; simp only [List.length_nil]; omega)); intro v7 w7 h1 h2 h3_ h4_; clear h3_ h4_; have HO7 := ae.mk h1; have HB7 := ae.mk h2; clear h1 h2 HO HB HF))
   go_wp2
   go_ret
   exact ⟨_, rfl, HO7.out, HB7.out⟩
 ·exact absurd h (by simp)
def zH (a : Int) (k : ai) (x : Int) : Int := if a = 2 then wrap64 (x + wrap64 (k.f1.f2 + 1)) else x
def zI (a : Int) (k : ai) (y : Int) : Int := if a = 2 then y else if a = 3 then wrap64 (y + wrap64 (k.f1.f3 + 1)) else y
mutual
def dA : ai → Int → Int → ai
 | ⟨a, b, d, l⟩, x, y => ⟨a, ⟨x, y, b.f2, b.f3⟩, d, jv a l x y⟩
def jv : Int → List ai → Int → Int → List ai
 | _, [], _, _ => []
 | a, k :: ks, x, y => dA k x y :: jv a ks (zH a k x) (zI a k y)
end
theorem lD (c : ai) (x y : Int) : dA c x y = ⟨c.f0, ⟨x, y, c.f1.f2, c.f1.f3⟩, c.f2, jv c.f0 c.f3 x y⟩ := by cases c; simp [dA]
theorem lX (a x y : Int) : jv a [] x y = [] := by simp [jv]
theorem nG (a : Int) (k : ai) (ks : List ai) (x y : Int) : jv a (k :: ks) x y = dA k x y :: jv a ks (zH a k x) (zI a k y) := by simp [jv]
def qG (a : Int) (l : List ai) (x : Int) : Int := l.foldl (fun x k => zH a k x) x
def qH (a : Int) (l : List ai) (y : Int) : Int := l.foldl (fun y k => zI a k y) y
theorem UT (a : Int) (k : ai) : ∀ (l : List ai) (x y : Int), jv a (l ++ [k]) x y = jv a l x y ++ [dA k (qG a l x) (qH a l y)] := by
 intro l
 induction l with
 | nil => intro x y; rw [List.nil_append, nG, lX, lX]; rfl
 | cons z zs ih => intro x y; rw [List.cons_append, nG, nG, ih]; rfl
theorem Cf (a : Int) (k : ai) (l : List ai) (x : Int) : qG a (l ++ [k]) x = zH a k (qG a l x) := by simp [qG]
theorem Ci (a : Int) (k : ai) (l : List ai) (y : Int) : qH a (l ++ [k]) y = zI a k (qH a l y) := by simp [qH]
theorem sQ (a : Int) : ∀ (l : List ai) (x y : Int), (jv a l x y).length = l.length := by
 intro l
 induction l with
 | nil => intro x y; rw [lX]
 | cons z zs ih => intro x y; rw [nG]; simp [ih]
theorem aaK (a : Int) (pre : List ai) (k : ai) (rest : List ai) (x y : Int) : (jv a pre x y ++ k :: rest).set pre.length (dA k (qG a pre x) (qH a pre y)) = jv a (pre ++ [k]) x y ++ rest := by
 rw [UT, ← sQ a pre x y, List.set_append_right _ _ (Nat.le_refl _), Nat.sub_self, List.set_cons_zero]
 simp
theorem UW (a : Int) (pre : List ai) (k : ai) (rest : List ai) (x y : Int) : aA (jv a pre x y ++ k :: rest) (pre.length : Int) = k := by
 rw [← sQ a pre x y]
 simp [aA, List.getD_eq_getElem?_getD]
def mQ.T6 : Bool × List (List Nat × List Nat) := (true, [([], []), ([0], [0]), ([], []), ([], []), ([], []), ([], []), ([3, 4, 5], [3, 4, 5]), ([1, 2, 0, 1, 2, 3, 4, 5, 6], [1, 2]), ([7, 6, 6, 0, 1, 2, 3, 4, 5, 6], [6, 7])])
def mQ.B6 : List Nat := [0, 1, 0, 0, 0, 0, 56, 127, 255]
theorem mQ.tab6 : iO .any (opsOf Try.f66 6) = mQ.T6 := by kernel_rfl
theorem mQ.Gz : iQ mQ.T6.2 mQ.B6 = true := by kernel_rfl
theorem afI : ∀ (N : Nat) (c : ai), sz c ≤ N → N ≤ 1000000 → ∀ (P : Nat → Prop) (A : Option Addr) (cc : Nat) (x y : Int) (w : World), Kd.V k26 26 w w.heap.size P (.slice A c.f3.length cc) c.f3 →
  Calls Try.prog 66 #[.agg #[.int .u8 c.f0, .int .i64 c.f1.f0, .int .i64 c.f1.f1, .int .i64 c.f1.f2, .int .i64 c.f1.f3, .int .i64 c.f2, .slice A c.f3.length cc], .int .i64 x, .int .i64 y] w
   fun e w' => ∃ v : Value, e = .returned (.agg #[.int .u8 c.f0, .int .i64 x, .int .i64 y, .int .i64 c.f1.f2, .int .i64 c.f1.f3, .int .i64 c.f2, v]) ∧ Kd.N k26 26 w' w.heap.size (fun k => P k ∨ w.heap.size ≤ k) v (jv c.f0 c.f3 x y) ∧ Below w.heap.size w w' := by
 intro N
 induction N with
 | zero => intro c h; rw [cO] at h; omega
 | succ N ih =>
  intro c hc hN P A cc x y w hs
  have hsz := cO c
  have hlen := iq c.f3
  have IH := ae.mk fun (k : ai) (hk : k ∈ c.f3) => ih k (by
   have : sz k ≤ dJ c.f3 := by
    obtain ⟨p, q, e⟩ := List.append_of_mem hk
    rw [e, nI, bY]; omega
   omega) (by omega)
  have KE := ae.mk fun (W : World) (P' : Nat → Prop) (hV : Kd.V k26 26 W w.heap.size P' (.slice A c.f3.length cc) c.f3) => pX.calls P' A cc c.f3 c.f3 W hV (if_pos (by omega))
  have HO := ae.mk hs
  have HL := ae.mk (show c.f3.length ≤ 1000000 by omega)
  have HB := ae.mk (Below.refl w.heap.size w)
  clear ih hs hc hN hsz hlen
  obtain ⟨ck, ⟨cx, cy, cw, ch⟩, aU, l⟩ := c
  simp only [] at HO HL IH KE ⊢
  go_enter Try.func66, Try.ntmps66
  go_upto_region 2 with (first | ((with_reducible refine aG (N := 3) rfl ?_); refine aT ?hg (N := 3) ?hd (cs := #[.int .u8 ck, .int .i64 cx, .int .i64 cy, .int .i64 cw, .int .i64 ch, .int .i64 aU, .slice A l.length cc]) (t := 26) ?hr ?_; (case hd => rfl); (case hg => rfl); (case hr => (go_simp; done)); intro b3 hg U_ hbox hb; have RD := ae.mk (show w.heap.size ≤ b3 by rw [hg]; exact HB.out.size); have kX := ae.mk (ak HB.out hb); have sK := ae.mk (Kd.jc (Kd.nN HO.out b3 (by rw [hg]; exact Nat.le_refl _)) hb); clear HB HO; have HB := kX; have HO := sK; clear kX sK; have cZ := ae.mk hbox; clear hb hbox hg) | ((with_reducible refine aG (N := 6) rfl ?_); refine aT ?hg (N := 6) ?hd (cs := #[.int .u8 0, .int .i64 0, .int .i64 0, .int .i64 0, .int .i64 0, .int .i64 0, .slice none 0 0]) (t := 26) ?hr ?_; (case hd => rfl); (case hg => rfl); (case hr => (go_simp; done)); intro b6 hg wb6 hbox hb; have Gb6 := ae.mk (show w.heap.size ≤ b6 by rw [hg]; exact HB.out.size); have uQ := ae.mk (show b3 ≠ b6 by rw [hg]; exact Nat.ne_of_lt (fB cZ.out)); have kX := ae.mk (ak HB.out hb); have sK := ae.mk (Kd.jc (Kd.nN HO.out b6 (by rw [hg]; exact Nat.le_refl _)) hb); have gZ := ae.mk (aJ cZ.out hb); clear HB HO cZ; have HB := kX; have HO := sK; have cZ := gZ; clear kX sK gZ; have fK := ae.mk hbox; clear hb hbox hg) | ((with_reducible refine lH (.store 3 (.tmp 12) (.tmp 9)) rfl ?_); go_loud (refine fU (w0 := w) rfl rfl 3 (.tmp 12) (.tmp 9) rfl (g := b3) (j := 1) (base := w.heap.size) #[.int .u8 ck, .int .i64 x, .int .i64 cy, .int .i64 cw, .int .i64 ch, .int .i64 aU, .slice A l.length cc] (u := .int .i64 x) (bK := [.int .i64 x]) ?sA ?sX rfl ?sT ?s1 cZ.out ?sJ rfl HB.out HB.out.size RD.out ?_; (case sA => rfl); (case sX => rfl); (case sT => rfl); (case s1 => (simp [Value.oneCell'])); (case sJ => (simp)); intro ws1 hbk hbb hgg; have sK := ae.mk (Kd.wS HO.out hgg (fun k_ hk e_ => absurd (Option.some.inj e_) hk.1.2)); have g_ := ae.mk (df fK.out hgg (fun e_ => absurd (Option.some.inj e_) (by exact (fun AZ => uQ.out AZ.symm)))); clear HO fK; have HO := sK; have fK := g_; clear sK g_; clear cZ HB; have cZ := ae.mk hbk; have HB := ae.mk hbb; clear hbk hbb hgg)) | ((with_reducible refine lH (.store 3 (.tmp 14) (.tmp 10)) rfl ?_); go_loud (refine fU (w0 := w) rfl rfl 3 (.tmp 14) (.tmp 10) rfl (g := b3) (j := 2) (base := w.heap.size) #[.int .u8 ck, .int .i64 x, .int .i64 y, .int .i64 cw, .int .i64 ch, .int .i64 aU, .slice A l.length cc] (u := .int .i64 y) (bK := [.int .i64 y]) ?sA ?sX rfl ?sT ?s1 cZ.out ?sJ rfl HB.out HB.out.size RD.out ?_; (case sA => rfl); (case sX => rfl); (case sT => rfl); (case s1 => (simp [Value.oneCell'])); (case sJ => (simp)); intro ws2 hbk hbb hgg; have sK := ae.mk (Kd.wS HO.out hgg (fun k_ hk e_ => absurd (Option.some.inj e_) hk.1.2)); have g_ := ae.mk (df fK.out hgg (fun e_ => absurd (Option.some.inj e_) (by exact (fun AZ => uQ.out AZ.symm)))); clear HO fK; have HO := sK; have fK := g_; clear sK g_; clear cZ HB; have cZ := ae.mk hbk; have HB := ae.mk hbb; clear hbk hbb hgg)))
  have GK : _ = some (Value.slice A l.length cc) := (af cZ.out 6).trans rfl
  go_upto_region 3 with (first | ((with_reducible refine kN (f := 137) rfl ?_); refine mM (some 17) rfl rfl Try.func137 (by kernel_rfl) rfl #[.slice A l.length cc] rfl (by (try simp only [List.map_toArray, List.map_cons, List.map_nil]); rfl) ?_; refine (KE.out _ _ HO.out).mono ?_; rintro e wc1 ⟨v1, rfl, ho, hb⟩; refine ⟨_, rfl, ?_⟩; have HN := ae.mk (Lh ho (fB cZ.out) (fB fK.out) HB.out.size); clear ho HO; obtain ⟨A1, c1, e1⟩ := Kd.jB HN.out; subst e1; have kX := ae.mk (ak HB.out hb); have gZ := ae.mk (aJ cZ.out hb); have g_ := ae.mk (aJ fK.out hb); clear HB cZ fK; have HB := kX; have cZ := gZ; have fK := g_; clear kX gZ g_; clear hb) | ((with_reducible refine lH (.store 24 (.tmp 18) (.tmp 17)) rfl ?_); go_loud (refine fU (w0 := w) rfl rfl 24 (.tmp 18) (.tmp 17) rfl (g := b3) (j := 6) (base := w.heap.size) #[.int .u8 ck, .int .i64 x, .int .i64 y, .int .i64 cw, .int .i64 ch, .int .i64 aU, .slice A1 l.length c1] (u := .slice A1 l.length c1) (bK := [.slice A1 l.length c1]) ?sA ?sX rfl ?sT ?s1 cZ.out ?sJ rfl HB.out HB.out.size RD.out ?_; (case sA => rfl); (case sX => rfl); (case sT => rfl); (case s1 => (simp [Value.oneCell'])); (case sJ => (simp)); intro ws3 hbk hbb hgg; have g_ := ae.mk (df fK.out hgg (fun e_ => absurd (Option.some.inj e_) (by exact (fun AZ => uQ.out AZ.symm)))); have kY := ae.mk (Kd.uY HN.out hgg (fun k_ hk e_ => absurd (Option.some.inj e_) hk.1.2)); clear fK HN; have fK := g_; have HN := kY; clear g_ kY; clear cZ HB; have cZ := ae.mk hbk; have HB := ae.mk hbb; clear hbk hbb hgg)))
  clear GK
  have GK : _ = some (Value.slice A1 l.length c1) := (af cZ.out 6).trans rfl
  go_wp2
  clear GK
  go_loopg [1, 2, 22] l.length (fun gg v1 v2 v22 wr => ∃ (pre rest : List ai), v1 = .int .i64 (qG ck pre x) ∧ v2 = .int .i64 (qH ck pre y) ∧ v22 = .int .i64 (pre.length : Int) ∧ ae (pre ++ rest = l) ∧ rest.length ≤ gg ∧ ae (Kd.N k26 26 wr w.heap.size (fun q => ((P q ∨ w.heap.size ≤ q) ∧ q ≠ b3) ∧ q ≠ b6) (.slice A1 l.length c1) (jv ck pre x y ++ rest)) ∧ ae (wr.heap[b3]? = some (.cells #[.int .u8 ck, .int .i64 x, .int .i64 y, .int .i64 cw, .int .i64 ch, .int .i64 aU, .slice A1 l.length c1] 26 (0, 0))) ∧ ae (wr.heap[b6]? = some (.cells #[.int .u8 0, .int .i64 0, .int .i64 0, .int .i64 0, .int .i64 0, .int .i64 0, .slice none 0 0] 26 (0, 0))) ∧ ae (Below w.heap.size w wr))
  case atStart => exact ⟨[], l, rfl, rfl, rfl, ⟨rfl⟩, Nat.le_refl _, ⟨by rw [lX]; exact HN.out⟩, cZ, fK, HB⟩
  case round =>
   clear HN cZ fK HB
   obtain ⟨pre, rest, rfl, rfl, rfl, HE, hgg, HN, cZ, fK, HB⟩ := hrel
   cases rest with
   | nil =>
    have hpl : pre = l := by have := HE.out; rwa [List.append_nil] at this
    have hlt : ¬ ((pre.length : Int) < (l.length : Int)) := by rw [hpl]; omega
    have HP := ae.mk hpl
    clear hpl hgg
    have c30 := (af cZ.out 0).trans rfl
    have c31 := (af cZ.out 1).trans rfl
    have c32 := (af cZ.out 2).trans rfl
    have c33 := (af cZ.out 3).trans rfl
    have c34 := (af cZ.out 4).trans rfl
    have c35 := (af cZ.out 5).trans rfl
    have GK := (af cZ.out 6).trans rfl
    go_wp2_with (((with_reducible refine lH (.store 26 (.tmp 6) (.tmp 54)) rfl ?_); go_loud (refine fU (w0 := w) rfl rfl 26 (.tmp 6) (.tmp 54) rfl (g := b6) (j := 0) (base := w.heap.size) #[.int .u8 ck, .int .i64 x, .int .i64 y, .int .i64 cw, .int .i64 ch, .int .i64 aU, .slice A1 l.length c1] (u := .agg #[.int .u8 ck, .int .i64 x, .int .i64 y, .int .i64 cw, .int .i64 ch, .int .i64 aU, .slice A1 l.length c1]) (bK := [.int .u8 ck, .int .i64 x, .int .i64 y, .int .i64 cw, .int .i64 ch, .int .i64 aU, .slice A1 l.length c1]) ?sA ?sX rfl ?sT ?s1 fK.out ?sJ rfl HB.out HB.out.size Gb6.out ?_; (case sA => rfl); (case sX => rfl); (case sT => rfl); (case s1 => (simp [Value.oneCell'])); (case sJ => (simp)); intro ahm hbk hbb hgg; have kY := ae.mk (Kd.uY HN.out hgg (fun k_ hk e_ => absurd (Option.some.inj e_) hk.2)); have gZ := ae.mk (df cZ.out hgg (fun e_ => absurd (Option.some.inj e_) uQ.out)); clear HN cZ; have HN := kY; have cZ := gZ; clear kY gZ; clear fK HB; have fK := ae.mk hbk; have HB := ae.mk hbb; clear hbk hbb hgg)))
    refine bodyPost_ret (results_cell_row rfl _ _ b6 26 _ (0, 0) _ rfl fK.out Try.underlying26 rfl (by kernel_rfl)) rfl ?_
    refine ⟨_, rfl, ?_, HB.out⟩
    rw [← HP.out]
    have hf := HN.out
    rw [List.append_nil] at hf
    rw [HP.out] at hf ⊢
    exact Kd.iI hf (fun q hq => hq.1.1)
   | cons k rest =>
    have hk : k ∈ l := by rw [← HE.out]; simp
    have hlt : (pre.length : Int) < (l.length : Int) := by rw [← HE.out, List.length_append, List.length_cons]; omega
    have hw : wrap64 ((pre.length : Int) + 1) = ((pre ++ [k]).length : Int) := by rw [List.length_append, List.length_singleton]; unfold wrap64; have := HL.out; omega
    obtain ⟨g, cap, he, hgb, Wn, _⟩ := Kd.xJ HN.out (by rw [List.length_append, List.length_cons]; omega)
    injection he with ea en ec
    subst ea
    subst ec
    clear en
    have vK := ae.mk hgb
    obtain ⟨ce, hcl, hM, hcc, hfr⟩ := Kd.xI HN.out z26 (pre.length : Int) (Int.natCast_nonneg _) hlt
    have hrd : (jv ck pre x y ++ k :: rest).getD (pre.length : Int).toNat z26 = k := UW ck pre k rest x y
    rw [hrd] at hM
    obtain ⟨ua, uc, rfl, ul, ge⟩ := nz hM
    have HV := ae.mk (show Kd.V k26 26 wr w.heap.size _ (.slice ua k.f3.length uc) k.f3 from Kd.wU ul ge)
    have x0 : wr.cell? ⟨g, pre.length * 7, none⟩ = some (.int .u8 k.f0) := hcc 0 _ rfl
    have x1 : wr.cell? ⟨g, pre.length * 7 + 1, none⟩ = some (.int .i64 k.f1.f0) := hcc 1 _ rfl
    have x2 : wr.cell? ⟨g, pre.length * 7 + 2, none⟩ = some (.int .i64 k.f1.f1) := hcc 2 _ rfl
    have x3 : wr.cell? ⟨g, pre.length * 7 + 3, none⟩ = some (.int .i64 k.f1.f2) := hcc 3 _ rfl
    have x4 : wr.cell? ⟨g, pre.length * 7 + 4, none⟩ = some (.int .i64 k.f1.f3) := hcc 4 _ rfl
    have x5 : wr.cell? ⟨g, pre.length * 7 + 5, none⟩ = some (.int .i64 k.f2) := hcc 5 _ rfl
    have x6 : wr.cell? ⟨g, pre.length * 7 + 6, none⟩ = some (.slice ua k.f3.length uc) := hcc 6 _ rfl
    have HW1 := ae.mk hw
    have HK := ae.mk hk
    have fG := ae.mk hgg
    clear hcl hM hcc hfr hrd ul ge hgb Wn hw hk hgg
    go_upto_region 6 with (first | ((with_reducible refine aG (N := 8) rfl ?_); refine aT ?hg (N := 8) ?hd (cs := #[.int .u8 0, .int .i64 0, .int .i64 0, .int .i64 0, .int .i64 0, .int .i64 0, .slice none 0 0]) (t := 26) ?hr ?_; (case hd => rfl); (case hg => rfl); (case hr => (go_simp; done)); intro b8 hg wb8 hbox hb; have Gb8 := ae.mk (show w.heap.size ≤ b8 by rw [hg]; exact HB.out.size); have Fp := ae.mk (show b3 ≠ b8 by rw [hg]; exact Nat.ne_of_lt (fB cZ.out)); have Fq := ae.mk (show b6 ≠ b8 by rw [hg]; exact Nat.ne_of_lt (fB fK.out)); have kX := ae.mk (ak HB.out hb); have kY := ae.mk (Kd.pR (Kd.BB HN.out b8 (by rw [hg]; exact Nat.le_refl _)) hb); have sN := ae.mk (Kd.jc (Kd.nN HV.out b8 (by rw [hg]; exact Nat.le_refl _)) hb); have gZ := ae.mk (aJ cZ.out hb); have g_ := ae.mk (aJ fK.out hb); clear HB HN HV cZ fK; have HB := kX; have HN := kY; have HV := sN; have cZ := gZ; have fK := g_; clear kX kY sN gZ g_; have Kb8 := ae.mk hbox; clear hb hbox hg) | ((with_reducible refine lH (.store 26 (.tmp 8) (.tmp 26)) rfl ?_); go_loud (refine fU (w0 := w) rfl rfl 26 (.tmp 8) (.tmp 26) rfl (g := b8) (j := 0) (base := w.heap.size) #[.int .u8 k.f0, .int .i64 k.f1.f0, .int .i64 k.f1.f1, .int .i64 k.f1.f2, .int .i64 k.f1.f3, .int .i64 k.f2, .slice ua k.f3.length uc] (u := .agg #[.int .u8 k.f0, .int .i64 k.f1.f0, .int .i64 k.f1.f1, .int .i64 k.f1.f2, .int .i64 k.f1.f3, .int .i64 k.f2, .slice ua k.f3.length uc]) (bK := [.int .u8 k.f0, .int .i64 k.f1.f0, .int .i64 k.f1.f1, .int .i64 k.f1.f2, .int .i64 k.f1.f3, .int .i64 k.f2, .slice ua k.f3.length uc]) ?sA ?sX rfl ?sT ?s1 Kb8.out ?sJ rfl HB.out HB.out.size Gb8.out ?_; (case sA => rfl); (case sX => rfl); (case sT => rfl); (case s1 => (simp [Value.oneCell'])); (case sJ => (simp)); intro Xt hbk hbb hgg; have kY := ae.mk (Kd.uY HN.out hgg (fun k_ hk e_ => absurd (Option.some.inj e_) hk.2)); have sN := ae.mk (Kd.wS HV.out hgg (fun k_ hk e_ => absurd (Option.some.inj e_) hk.2)); have gZ := ae.mk (df cZ.out hgg (fun e_ => absurd (Option.some.inj e_) Fp.out)); have g_ := ae.mk (df fK.out hgg (fun e_ => absurd (Option.some.inj e_) Fq.out)); clear HN HV cZ fK; have HN := kY; have HV := sN; have cZ := gZ; have fK := g_; clear kY sN gZ g_; clear Kb8 HB; have Kb8 := ae.mk hbk; have HB := ae.mk hbb; clear hbk hbb hgg)))
    clear x0 x1 x2 x3 x4 x5 x6
    have q_ := ae.mk (uq HB.out)
    clear HB
    have HB := q_
    clear q_
    have q_ := ae.mk (Kd.RX HN.out)
    clear HN
    have HN := q_
    clear q_
    have q_ := ae.mk (Kd.Lt HV.out)
    clear HV
    have HV := q_
    clear q_
    have q_ := ae.mk (uS cZ.out)
    clear cZ
    have cZ := q_
    clear q_
    have q_ := ae.mk (uS fK.out)
    clear fK
    have fK := q_
    clear q_
    have q_ := ae.mk (uS Kb8.out)
    clear Kb8
    have Kb8 := q_
    clear q_
    refine iW (n := 9) (S := fun w' => w'.heap[b3]? = some (.cells #[.int .u8 ck, .int .i64 x, .int .i64 y, .int .i64 cw, .int .i64 ch, .int .i64 aU, .slice (some ⟨g, 0, none⟩) l.length c1] 26 (0, 0)) ∧ w'.heap[b8]? = some (.cells #[.int .u8 k.f0, .int .i64 k.f1.f0, .int .i64 k.f1.f1, .int .i64 k.f1.f2, .int .i64 k.f1.f3, .int .i64 k.f2, .slice ua k.f3.length uc] 26 (0, 0))) (ds := [8]) #[false, false, false, false, false, false, false, false, false] (by kernel_rfl) rfl rfl ⟨cZ.out, Kb8.out⟩ (fun hHeld => ?_); refine eX mQ.tab6 mQ.Gz (fun aj dZ => ?_)
    generalize Xt.drew = wd at HB HN HV cZ fK Kb8 hHeld ⊢
    refine rF (i := 0) (N := some 27) (v := ?_) (a' := ?_) #[true, false, false, false, false, false, false, false, false] rfl rfl (oN aj.out (by kernel_rfl)) (fun _ _ _ h => h) (Or.inl ⟨by rfl, ?_⟩) ?_ ?_
    rotate_left
    ·intro w'; go_simp; with_reducible rfl
    rotate_left
    ·simp only [Act.put, List.setIfInBounds_toArray, List.set_cons_zero, List.set_cons_succ, jO, jM]
     rfl
    refine rF (i := 2) (N := some 29) (v := ?_) (a' := ?_) #[true, false, true, false, false, false, false, false, false] rfl rfl (oN aj.out (by kernel_rfl)) (fun _ _ _ h => h) (Or.inl ⟨by rfl, ?_⟩) ?_ ?_
    rotate_left
    ·intro w'; go_simp; with_reducible rfl
    rotate_left
    ·simp only [Act.put, List.setIfInBounds_toArray, List.set_cons_zero, List.set_cons_succ, jO, jM]
     rfl
    refine rF (i := 4) (N := some 31) (v := ?_) (a' := ?_) #[true, false, true, false, true, false, false, false, false] rfl rfl (oN aj.out (by kernel_rfl)) (fun _ _ _ h => h) (Or.inl ⟨by rfl, ?_⟩) ?_ ?_
    rotate_left
    ·intro w'; go_simp; with_reducible rfl
    rotate_left
    ·simp only [Act.put, List.setIfInBounds_toArray, List.set_cons_zero, List.set_cons_succ, jO, jM]
     rfl
    refine rF (i := 5) (N := some 32) (v := ?_) (a' := ?_) #[true, false, true, false, true, true, false, false, false] rfl rfl (oN aj.out (by kernel_rfl)) (fun _ _ _ h => h) (Or.inl ⟨by rfl, ?_⟩) ?_ ?_
    rotate_left
    ·intro w'; go_simp; with_reducible rfl
    rotate_left
    ·simp only [Act.put, List.setIfInBounds_toArray, List.set_cons_zero, List.set_cons_succ, jO, jM]
     rfl
    refine yR (i := 1) (N := some 28) (v := ?_) (a' := ?_) #[true, true, true, false, true, true, false, false, false] rfl rfl (uU aj.out dZ.out (by kernel_rfl)) (fun _ _ _ h => h) (Or.inl ⟨by rfl, ?_⟩) hHeld ?_ ?_
    rotate_left
    ·intro w' hs_
     have c := (af hs_.1 6).trans rfl
     go_simp; with_reducible rfl
    rotate_left
    ·simp only [Act.put, List.setIfInBounds_toArray, List.set_cons_zero, List.set_cons_succ, jO, jM]
     rfl
    refine yR (i := 3) (N := some 30) (v := ?_) (a' := ?_) #[true, true, true, true, true, true, false, false, false] rfl rfl (uU aj.out dZ.out (by kernel_rfl)) (fun _ _ _ h => h) (Or.inl ⟨by rfl, ?_⟩) hHeld ?_ ?_
    rotate_left
    ·intro w' hs_
     have c0 := (af hs_.2 0).trans rfl
     have c1 := (af hs_.2 1).trans rfl
     have c2 := (af hs_.2 2).trans rfl
     have c3 := (af hs_.2 3).trans rfl
     have c4 := (af hs_.2 4).trans rfl
     have c5 := (af hs_.2 5).trans rfl
     have c6 := (af hs_.2 6).trans rfl
     go_simp; with_reducible rfl
    rotate_left
    ·simp only [Act.put, List.setIfInBounds_toArray, List.set_cons_zero, List.set_cons_succ, jO, jM]
     rfl
    refine jr (i := 6) (N := some 33) #[true, true, true, true, true, true, true, false, false] rfl rfl (dF aj.out (by kernel_rfl)) (by decide) (fun K hK => ?_)
    refine ik Try.func66 (by kernel_rfl) rfl #[.agg #[.int .u8 k.f0, .int .i64 k.f1.f0, .int .i64 k.f1.f1, .int .i64 k.f1.f2, .int .i64 k.f1.f3, .int .i64 k.f2, .slice ua k.f3.length uc], .int .i64 (qG ck pre x), .int .i64 (qH ck pre y)] (by rfl) rfl rfl (by (try simp only [List.map_toArray, List.map_cons, List.map_nil]); rfl) ?_
    refine (IH.out k HK.out _ ua uc (qG ck pre x) (qH ck pre y) wd HV.out).mono ?_
    rintro e wk ⟨v, rfl, ho, hb⟩
    refine ⟨_, rfl, ?_⟩
    have HE3 := ae.mk (fB cZ.out)
    have HE6 := ae.mk (fB fK.out)
    have HE8 := ae.mk (fB Kb8.out)
    have HEG := ae.mk (Kd.Fv HN.out g rfl)
    have HS := ae.mk HB.out.size
    have kX := ae.mk (ak HB.out hb); have kY := ae.mk (Kd.pR HN.out hb); have sN := ae.mk (Kd.jc HV.out hb); have gZ := ae.mk (aJ cZ.out hb); have g_ := ae.mk (aJ fK.out hb); have Ho := ae.mk (aJ Kb8.out hb); clear HB HN HV cZ fK Kb8; have HB := kX; have HN := kY; have HV := sN; have cZ := gZ; have fK := g_; have Kb8 := Ho; clear kX kY sN gZ g_ Ho
    clear HV hb
    obtain ⟨Av, cv, ev⟩ := Kd.jB ho
    subst ev
    have qZ := ae.mk ho
    clear ho
    refine hK.out _ _ ⟨cZ.out, Kb8.out⟩ (fun hHeld => ?_)
    clear hK K
    refine mf (a' := ?_) ?_ ?_
    rotate_left
    ·show Act.put _ (some 33) _ = _
     simp only [Act.put, List.setIfInBounds_toArray, List.set_cons_zero, List.set_cons_succ, jO, jM]
     rfl
    refine rF (i := 7) (N := some 34) (v := ?_) (a' := ?_) #[true, true, true, true, true, true, true, true, false] rfl rfl (oN aj.out (by kernel_rfl)) (fun _ _ _ h => h) (Or.inl ⟨by rfl, ?_⟩) ?_ ?_
    rotate_left
    ·intro w'; go_simp; with_reducible rfl
    rotate_left
    ·simp only [Act.put, List.setIfInBounds_toArray, List.set_cons_zero, List.set_cons_succ, jO, jM]
     rfl
    obtain ⟨ce, hcl, hM, hcc, hfr⟩ := Kd.xI HN.out z26 (pre.length : Int) (Int.natCast_nonneg _) hlt
    have hrd : (jv ck pre x y ++ k :: rest).getD (pre.length : Int).toNat z26 = k := UW ck pre k rest x y
    rw [hrd] at hM
    obtain ⟨ub, ud, rfl, _, _⟩ := nz hM
    have x0 : wk.cell? ⟨g, pre.length * 7, none⟩ = some (.int .u8 k.f0) := hcc 0 _ rfl
    have f0 : wk.frozen? ⟨g, pre.length * 7, none⟩ = false := hfr 0
    have x1 : wk.cell? ⟨g, pre.length * 7 + 1, none⟩ = some (.int .i64 k.f1.f0) := hcc 1 _ rfl
    have f1 : wk.frozen? ⟨g, pre.length * 7 + 1, none⟩ = false := hfr 1
    have x2 : wk.cell? ⟨g, pre.length * 7 + 2, none⟩ = some (.int .i64 k.f1.f1) := hcc 2 _ rfl
    have f2 : wk.frozen? ⟨g, pre.length * 7 + 2, none⟩ = false := hfr 2
    have x3 : wk.cell? ⟨g, pre.length * 7 + 3, none⟩ = some (.int .i64 k.f1.f2) := hcc 3 _ rfl
    have f3 : wk.frozen? ⟨g, pre.length * 7 + 3, none⟩ = false := hfr 3
    have x4 : wk.cell? ⟨g, pre.length * 7 + 4, none⟩ = some (.int .i64 k.f1.f3) := hcc 4 _ rfl
    have f4 : wk.frozen? ⟨g, pre.length * 7 + 4, none⟩ = false := hfr 4
    have x5 : wk.cell? ⟨g, pre.length * 7 + 5, none⟩ = some (.int .i64 k.f2) := hcc 5 _ rfl
    have f5 : wk.frozen? ⟨g, pre.length * 7 + 5, none⟩ = false := hfr 5
    have x6 : wk.cell? ⟨g, pre.length * 7 + 6, none⟩ = some (.slice ub k.f3.length ud) := hcc 6 _ rfl
    have f6 : wk.frozen? ⟨g, pre.length * 7 + 6, none⟩ = false := hfr 6
    have jD : ∀ q, (((fun q => ((P q ∨ w.heap.size ≤ q) ∧ q ≠ b3) ∧ q ≠ b6) q ∧ q ≠ g) ∧ q ≠ b8) ∨ wd.heap.size ≤ q → ((fun q => ((P q ∨ w.heap.size ≤ q) ∧ q ≠ b3) ∧ q ≠ b6) q ∧ q ≠ b8) ∧ q ≠ g := fun q hq => hq.elim (fun h => ⟨⟨h.1.1, h.2⟩, h.1.2⟩) (fun hn => ⟨⟨⟨⟨.inr (Nat.le_trans HS.out hn), Nat.ne_of_gt (Nat.lt_of_lt_of_le HE3.out hn)⟩, Nat.ne_of_gt (Nat.lt_of_lt_of_le HE6.out hn)⟩, Nat.ne_of_gt (Nat.lt_of_lt_of_le HE8.out hn)⟩, Nat.ne_of_gt (Nat.lt_of_lt_of_le HEG.out hn)⟩)
    have JB := oG wk _ (dA k (qG ck pre x) (qH ck pre y)) (A6 := Av) (c6 := cv) (by rw [lD]; exact (Kd.iJ qZ.out).2.1) (by rw [lD]; exact Kd.XG qZ.out)
    have hseg := Kd.Qg HN.out (pre.length : Int) (Int.natCast_nonneg _) hlt (bK := [.int .u8 k.f0, .int .i64 (qG ck pre x), .int .i64 (qH ck pre y), .int .i64 k.f1.f2, .int .i64 k.f1.f3, .int .i64 k.f2, .slice Av (jv k.f0 k.f3 (qG ck pre x) (qH ck pre y)).length cv]) (j := 0) hcl hcc (show 0 + 7 ≤ 7 from by decide) (x' := dA k (qG ck pre x) (qH ck pre y)) (by rw [lD] at JB ⊢; exact JB) jD
    rw [show (jv ck pre x y ++ k :: rest).set (pre.length : Int).toNat (dA k (qG ck pre x) (qH ck pre y)) = jv ck (pre ++ [k]) x y ++ rest from aaK ck pre k rest x y] at hseg
    obtain ⟨w9, DV⟩ : ∃ w9, w9 = wk.setCells g ((pre.length : Int).toNat * 7 + 0) [.int .u8 k.f0, .int .i64 (qG ck pre x), .int .i64 (qH ck pre y), .int .i64 k.f1.f2, .int .i64 k.f1.f3, .int .i64 k.f2, .slice Av (jv k.f0 k.f3 (qG ck pre x) (qH ck pre y)).length cv] := ⟨_, rfl⟩
    replace hseg : Kd.N k26 26 w9 w.heap.size (fun q => (fun q => ((P q ∨ w.heap.size ≤ q) ∧ q ≠ b3) ∧ q ≠ b6) q ∧ q ≠ b8) (.slice (some ⟨g, 0, none⟩) l.length c1) (jv ck (pre ++ [k]) x y ++ rest) ∧ wk.grownBy w9 (some g) := by rw [DV]; exact hseg
    have RI := ae.mk (Kd.RY hseg.1)
    have KF := ae.mk (grown_below HB.out hseg.2 vK.out HB.out.size)
    have yg := ae.mk (df cZ.out hseg.2 (fun e_ => (HN.out.1 g rfl).1.1.2 (Option.some.inj e_).symm))
    have La := ae.mk (df fK.out hseg.2 (fun e_ => (HN.out.1 g rfl).1.2 (Option.some.inj e_).symm))
    have Fj := ae.mk (df Kb8.out hseg.2 (fun e_ => (HN.out.1 g rfl).2 (Option.some.inj e_).symm))
    clear hseg JB jD hcl hcc hfr hM hrd HN HB cZ fK Kb8 hHeld qZ
    refine ny (i := 8) (N := none) #[true, true, true, true, true, true, true, true, true] rfl rfl (dF aj.out (by kernel_rfl)) (by decide) (fun K hK => ?_)
    refine Hy (w1 := w9) (by rfl) rfl ?_ ?_
    ·rw [DV]; go_simp; rfl
    refine hK.out _ _ ?_
    clear hK K x0 x1 x2 x3 x4 x5 x6 f0 f1 f2 f3 f4 f5 f6 DV
    refine jK (gQ aj.out (by kernel_rfl)) ?_
    have d0 := (af yg.out 0).trans rfl
    have e0 := (af Fj.out 0).trans rfl
    have d1 := (af yg.out 1).trans rfl
    have e1 := (af Fj.out 1).trans rfl
    have d2 := (af yg.out 2).trans rfl
    have e2 := (af Fj.out 2).trans rfl
    have d3 := (af yg.out 3).trans rfl
    have e3 := (af Fj.out 3).trans rfl
    have d4 := (af yg.out 4).trans rfl
    have e4 := (af Fj.out 4).trans rfl
    have d5 := (af yg.out 5).trans rfl
    have e5 := (af Fj.out 5).trans rfl
    have d6 := (af yg.out 6).trans rfl
    have e6 := (af Fj.out 6).trans rfl
    by_cases k2 : ck = 2
    ·have aha : (ck == 2) = true := beq_iff_eq.mpr k2
     have K2 := ae.mk k2
     clear k2
     have hw := HW1.out
     go_wp2
     clear d0 d1 d2 d3 d4 d5 d6 e0 e1 e2 e3 e4 e5 e6
     go_roundg rest.length
     case measure => exact Nat.lt_of_lt_of_le (Nat.lt_succ_self _) fG.out
     case rel => exact ⟨pre ++ [k], rest, (by rw [Cf]; unfold zH; rw [if_pos K2.out]), (by rw [Ci]; unfold zI; rw [if_pos K2.out]), (by rw [hw]), ⟨by rw [List.append_assoc]; exact HE.out⟩, Nat.le_refl _, RI, yg, La, KF⟩
    ·have aha : (ck == 2) = false := beq_eq_false_iff_ne.mpr k2
     have K2 := ae.mk k2
     clear k2
     by_cases k3 : ck = 3
     ·have ahb : (ck == 3) = true := beq_iff_eq.mpr k3
      have K3 := ae.mk k3
      clear k3
      have hw := HW1.out
      go_wp2
      clear d0 d1 d2 d3 d4 d5 d6 e0 e1 e2 e3 e4 e5 e6
      go_roundg rest.length
      case measure => exact Nat.lt_of_lt_of_le (Nat.lt_succ_self _) fG.out
      case rel => exact ⟨pre ++ [k], rest, (by rw [Cf]; unfold zH; rw [if_neg K2.out]), (by rw [Ci]; unfold zI; rw [if_neg K2.out, if_pos K3.out]), (by rw [hw]), ⟨by rw [List.append_assoc]; exact HE.out⟩, Nat.le_refl _, RI, yg, La, KF⟩
     ·have ahb : (ck == 3) = false := beq_eq_false_iff_ne.mpr k3
      have K3 := ae.mk k3
      clear k3
      have hw := HW1.out
      go_wp2
      clear d0 d1 d2 d3 d4 d5 d6 e0 e1 e2 e3 e4 e5 e6
      go_roundg rest.length
      case measure => exact Nat.lt_of_lt_of_le (Nat.lt_succ_self _) fG.out
      case rel => exact ⟨pre ++ [k], rest, (by rw [Cf]; unfold zH; rw [if_neg K2.out]), (by rw [Ci]; unfold zI; rw [if_neg K2.out, if_neg K3.out]), (by rw [hw]), ⟨by rw [List.append_assoc]; exact HE.out⟩, Nat.le_refl _, RI, yg, La, KF⟩
def mQ.f (a0 a1 a2 a3 a4 a5 : Int) (l : List ai) (x y : Int) : Option (Int × Int × Int × Int × Int × Int × List ai) := if sz ⟨a0, ⟨a1, a2, a3, a4⟩, a5, l⟩ ≤ 1000000 then some (a0, x, y, a3, a4, a5, jv a0 l x y) else none
section
variable {W : World} {b : Nat} {P : Nat → Prop} {A : Option Addr} {cc : Nat}
abbrev Qi (w : World) (P : Nat → Prop) (z : ai) (e : Ending) (w' : World) : Prop := ∃ A c, e = .returned (.agg #[.int .u8 z.f0, .int .i64 z.f1.f0, .int .i64 z.f1.f1, .int .i64 z.f1.f2, .int .i64 z.f1.f3, .int .i64 z.f2, .slice A z.f3.length c]) ∧ Kd.N k26 26 w' w.heap.size (fun k => P k ∨ w.heap.size ≤ k) (.slice A z.f3.length c) z.f3 ∧ Below w.heap.size w w'
theorem Ba (c : ai) (ax : Int) (hz : sz c ≤ 1048576) (hV : Kd.V k26 26 W b P (.slice A c.f3.length cc) c.f3) :
  Calls Try.prog 86 #[.agg #[.int .u8 c.f0, .int .i64 c.f1.f0, .int .i64 c.f1.f1, .int .i64 c.f1.f2, .int .i64 c.f1.f3, .int .i64 c.f2, .slice A c.f3.length cc], .int .u8 ax] W fun e w' => e = .returned (.int .i64 (az ax c)) ∧ Below W.heap.size W w' := by
 obtain ⟨k, hk⟩ := (V6 c hz ax).rounds
 exact bZ.calls k _ _ _ _ _ _ P A cc c.f3 ax _ W (fM hV) hk
theorem YC (c : ai) (ax : Int) (hV : Kd.V k26 26 W b P (.slice A c.f3.length cc) c.f3) :
  Calls Try.prog 99 #[.agg #[.int .u8 c.f0, .int .i64 c.f1.f0, .int .i64 c.f1.f1, .int .i64 c.f1.f2, .int .i64 c.f1.f3, .int .i64 c.f2, .slice A c.f3.length cc], .int .u8 ax] W fun e w' => e = .returned (.bool (fD ax c.f0)) ∧ Below W.heap.size W w' := by
 have h := Kd.kQ hV
 exact qU.calls _ _ _ _ _ _ A cc c.f3 ax _ W h.2.2 h.2.1 (BH c ax)
theorem YI (l : List ai) (hl : l.length ≤ 1000000) (hV : Kd.V k26 26 W b P (.slice A l.length cc) l) :
  Calls Try.prog 137 #[.slice A l.length cc] W fun e w' => ∃ A' c', e = .returned (.slice A' l.length c') ∧ Kd.N k26 26 w' W.heap.size (fun k => P k ∨ W.heap.size ≤ k) (.slice A' l.length c') l ∧ Below W.heap.size W w' :=
 (pX.calls P A cc l l W (fM hV) (if_pos hl)).mono (fun e w' ⟨v, he, hN, hB⟩ => by
  obtain ⟨A', c', rfl⟩ := Kd.jB hN
  exact ⟨A', c', he, hN, hB⟩)
theorem Ku (c : ai) (x y : Int) (hz : sz c ≤ 1000000) (hV : Kd.V k26 26 W b P (.slice A c.f3.length cc) c.f3) :
  Calls Try.prog 66 #[.agg #[.int .u8 c.f0, .int .i64 c.f1.f0, .int .i64 c.f1.f1, .int .i64 c.f1.f2, .int .i64 c.f1.f3, .int .i64 c.f2, .slice A c.f3.length cc], .int .i64 x, .int .i64 y] W (Qi W P (dA c x y)) :=
 (afI 1000000 c hz (Nat.le_refl _) P A cc x y W (fM hV)).mono (fun e w' ⟨v, he, hN, hB⟩ => by
  rw [lD]
  obtain ⟨A', c', rfl⟩ := Kd.jB hN
  exact ⟨A', c', he, hN, hB⟩)
theorem Xm (b : Int) (gs : List Int) (hl : gs.length ≤ 100000) (h0 : -2147483647 ≤ b) (h1 : b ≤ 2147483647) (hC : Kd.C (Kd.int .i64) W A gs.length gs) (hc : gs.length ≤ cc) :
  Calls Try.prog 49 #[.int .i64 b, .slice A gs.length cc] W fun e w' => ∃ A' c', e = .returned (.tuple #[.slice A' (qP b gs).1.length c', .bool (qP b gs).2]) ∧ (Kd.int .i64).R 3 w' W.heap.size (fun _ => True) (.slice A' (qP b gs).1.length c') (qP b gs).1 ∧ Below W.heap.size W w' := by
 obtain ⟨k, hk⟩ := (Ec b gs hl h0 h1).2.rounds
 exact (bF.calls k b A cc gs _ _ W hC hc hk).mono (fun e w' ⟨v, he, hR, hB⟩ => by
  obtain ⟨A', c', rfl⟩ := Kd.gK hR
  exact ⟨A', c', he, hR, hB⟩)
end
def afK.T6 : Bool × List (List Nat × List Nat) := (true, [([], []), ([0], [0]), ([], []), ([1, 2], [1, 2]), ([3], [3]), ([], []), ([5], [5]), ([], []), ([6, 7], [6, 7]), ([8], [8]), ([4, 9], [4, 9]), ([10], [10])])
def afK.B6 : List Nat := [0, 1, 0, 7, 15, 0, 32, 0, 224, 480, 1023, 2047]
theorem Ic : ∀ (is : List Int) (c x : ai), ou c is = some x → sz x ≤ sz c := by
 intro is
 induction is with
 | nil => intro c x h; injection h with h; rw [h]; exact Nat.le_refl _
 | cons i is ih =>
  intro c x h
  simp only [ou] at h
  split at h
  ·cases h
  ·rename_i hi
   have h1 := ih _ x h
   have h2 := uK (Hr c.f3 i (by omega) (by omega))
   have h3 := cO c
   omega
theorem A8 (id : Int) : ∀ (N : Nat), (∀ c : ai, sz c ≤ N → ∀ p, fP id c = some p → ∃ z, ou c p = some z ∧ z.f0 = 1 ∧ z.f2 = id) ∧
  (∀ l : List ai, dJ l ≤ N → ∀ (pre : List ai) (p : List Int), oP id pre.length l = some p → ∃ i is z, p = i :: is ∧ 0 ≤ i ∧ i < ((pre ++ l).length : Int) ∧ ou (aA (pre ++ l) i) is = some z ∧ z.f0 = 1 ∧ z.f2 = id) := by
 intro N
 induction N with
 | zero =>
  refine ⟨fun c h => ?_, fun l h => ?_⟩
  ·rw [cO] at h; omega
  ·cases l with
   | nil => intro pre p hp; rw [sF] at hp; cases hp
   | cons z zs => rw [bY, cO] at h; omega
 | succ N ih =>
  have hC : ∀ c : ai, sz c ≤ N + 1 → ∀ p, fP id c = some p → ∃ z, ou c p = some z ∧ z.f0 = 1 ∧ z.f2 = id := by
   intro c h p hp
   have hs := cO c
   rw [BL] at hp
   split at hp
   ·rename_i hq
    injection hp with hp
    subst hp
    exact ⟨c, rfl, hq.1, hq.2⟩
   ·obtain ⟨i, is, z, rfl, h0, h1, h2, h3⟩ := ih.2 c.f3 (by omega) [] p hp
    refine ⟨z, ?_, h3⟩
    rw [List.nil_append] at h1 h2
    simp only [ou]
    rw [if_neg (by omega)]
    exact h2
  refine ⟨hC, fun l => ?_⟩
  induction l with
  | nil => intro _ pre p hp; rw [sF] at hp; cases hp
  | cons x xs ihl =>
   intro h pre p hp
   rw [bY] at h
   rw [oQ] at hp
   cases hx : fP id x with
   | some q =>
    rw [hx] at hp
    injection hp with hp
    obtain ⟨z, hz, h3⟩ := hC x (by omega) q hx
    refine ⟨(pre.length : Int), q, z, hp.symm, by omega, by rw [List.length_append, List.length_cons]; omega, ?_, h3⟩
    rw [lu]
    exact hz
   | none =>
    rw [hx] at hp
    have e := ihl (by omega) (pre ++ [x]) p (by rw [List.length_append]; exact hp)
    rwa [List.append_assoc] at e
def m_.T5 : Bool × List (List Nat × List Nat) := (true, [([], []), ([0], [0]), ([], []), ([], []), ([3], [3]), ([1, 2, 0, 1, 2, 3, 4], [1, 2]), ([5, 4, 4, 0, 1, 2, 3, 4], [4, 5])])
def m_.B5 : List Nat := [0, 1, 0, 0, 8, 31, 63]
theorem m_.Jb : iO .any (opsOf Try.f151 5) = m_.T5 := by kernel_rfl
theorem m_.Eu : iQ m_.T5.2 m_.B5 = true := by kernel_rfl
theorem FI : ∀ (N : Nat) (c : ai), sz c ≤ N → N ≤ 1000000 → ∀ (P : Nat → Prop) (A : Option Addr) (cc : Nat) (w : World), Kd.V k26 26 w w.heap.size P (.slice A c.f3.length cc) c.f3 →
  Calls Try.prog 151 #[.agg #[.int .u8 c.f0, .int .i64 c.f1.f0, .int .i64 c.f1.f1, .int .i64 c.f1.f2, .int .i64 c.f1.f3, .int .i64 c.f2, .slice A c.f3.length cc]] w
   fun e w' => ∃ v : Value, e = .returned (.agg #[.int .u8 c.f0, .int .i64 c.f1.f0, .int .i64 c.f1.f1, .int .i64 c.f1.f2, .int .i64 c.f1.f3, .int .i64 c.f2, v]) ∧ Kd.N k26 26 w' w.heap.size (fun k => P k ∨ w.heap.size ≤ k) v c.f3 ∧ Below w.heap.size w w' := by
 intro N
 induction N with
 | zero => intro c h; rw [cO] at h; omega
 | succ N ih =>
  intro c hc hN P A cc w hs
  have hsz := cO c
  have hlen := iq c.f3
  have IH := ae.mk fun (k : ai) (hk : k ∈ c.f3) => ih k (by
   have : sz k ≤ dJ c.f3 := by
    obtain ⟨p, q, e⟩ := List.append_of_mem hk
    rw [e, nI, bY]; omega
   omega) (by omega)
  have KE := ae.mk fun (W : World) (P' : Nat → Prop) (hV : Kd.V k26 26 W w.heap.size P' (.slice A c.f3.length cc) c.f3) => pX.calls P' A cc c.f3 c.f3 W hV (if_pos (by omega))
  have HO := ae.mk hs
  have HL := ae.mk (show c.f3.length ≤ 1000000 by omega)
  have HB := ae.mk (Below.refl w.heap.size w)
  clear ih hs hc hN hsz hlen
  obtain ⟨ck, ⟨cx, cy, cw, ch⟩, aU, l⟩ := c
  simp only [] at HO HL IH KE ⊢
  go_enter Try.func151, Try.ntmps151
  go_upto_region 1 with (first
   | ((with_reducible refine aG (N := 1) rfl ?_); refine aT ?hg (N := 1) ?hd (cs := #[.int .u8 ck, .int .i64 cx, .int .i64 cy, .int .i64 cw, .int .i64 ch, .int .i64 aU, .slice A l.length cc]) (t := 26) ?hr ?_; (case hd => rfl); (case hg => rfl); (case hr => first | (go_simp; done) | (go_simp; rfl)); intro b3 hg U_ hbox hb; have RD := ae.mk (show w.heap.size ≤ b3 by rw [hg]; exact HB.out.size); have kX := ae.mk (ak HB.out hb); have sK := ae.mk (Kd.jc (Kd.nN HO.out b3 (by rw [hg]; exact Nat.le_refl _)) hb); clear HB HO; have HB := kX; have HO := sK; clear kX sK; have cZ := ae.mk hbox; clear hb hbox hg)
   | ((with_reducible refine aG (N := 2) rfl ?_); refine aT ?hg (N := 2) ?hd (cs := #[.int .u8 0, .int .i64 0, .int .i64 0, .int .i64 0, .int .i64 0, .int .i64 0, .slice none 0 0]) (t := 26) ?hr ?_; (case hd => rfl); (case hg => rfl); (case hr => first | (go_simp; done) | (go_simp; rfl)); intro b6 hg wb6 hbox hb; have Gb6 := ae.mk (show w.heap.size ≤ b6 by rw [hg]; exact HB.out.size); have uQ := ae.mk (show b3 ≠ b6 by rw [hg]; exact Nat.ne_of_lt (fB cZ.out)); have kX := ae.mk (ak HB.out hb); have sK := ae.mk (Kd.jc (Kd.nN HO.out b6 (by rw [hg]; exact Nat.le_refl _)) hb); have gZ := ae.mk (aJ cZ.out hb); clear HB HO cZ; have HB := kX; have HO := sK; have cZ := gZ; clear kX sK gZ; have fK := ae.mk hbox; clear hb hbox hg)
   | fail)
  have GK : _ = some (Value.slice A l.length cc) := (af cZ.out 6).trans rfl
  go_upto_region 2 with (first
   | ((with_reducible refine kN (f := 137) rfl ?_); refine mM (some 7) rfl rfl Try.func137 (by kernel_rfl) rfl #[.slice A l.length cc] rfl (by (try simp only [List.map_toArray, List.map_cons, List.map_nil]); first | done | rfl) ?_; refine (KE.out _ _ HO.out).mono ?_; rintro e wc1 ⟨v1, rfl, ho, hb⟩; refine ⟨_, rfl, ?_⟩; have HN := ae.mk (Lh ho (fB cZ.out) (fB fK.out) HB.out.size); clear ho HO; obtain ⟨A1, c1, e1⟩ := Kd.jB HN.out; subst e1; have kX := ae.mk (ak HB.out hb); have gZ := ae.mk (aJ cZ.out hb); have g_ := ae.mk (aJ fK.out hb); clear HB cZ fK; have HB := kX; have cZ := gZ; have fK := g_; clear kX gZ g_; clear hb)
   | ((with_reducible refine lH (.store 24 (.tmp 8) (.tmp 7)) rfl ?_); go_loud (refine fU (w0 := w) rfl rfl 24 (.tmp 8) (.tmp 7) rfl (g := b3) (j := 6) (base := w.heap.size) #[.int .u8 ck, .int .i64 cx, .int .i64 cy, .int .i64 cw, .int .i64 ch, .int .i64 aU, .slice A1 l.length c1] (u := .slice A1 l.length c1) (bK := [.slice A1 l.length c1]) ?sA ?sX rfl ?sT ?s1 cZ.out ?sJ rfl HB.out HB.out.size RD.out ?_; (case sA => rfl); (case sX => rfl); (case sT => rfl); (case s1 => (simp [Value.oneCell'])); (case sJ => (first | decide | simp)); intro ws1 hbk hbb hgg; have g_ := ae.mk (df fK.out hgg (fun e_ => absurd (Option.some.inj e_) (by first | exact Vl.out | exact (fun AZ => uQ.out AZ.symm)))); have kY := ae.mk (Kd.uY HN.out hgg (fun k_ hk e_ => absurd (Option.some.inj e_) (by first | exact hk.2 | exact hk.1.2 | exact hk.1.1.2 | exact hk.1.1.1.2 | exact hk.2.2 | exact hk.2.1 | exact hk.2.2.1 | exact hk.2.2.2))); clear fK HN; have fK := g_; have HN := kY; clear g_ kY; clear cZ HB; have cZ := ae.mk hbk; have HB := ae.mk hbb; clear hbk hbb hgg))
   | fail)
  clear GK
  have GK : _ = some (Value.slice A1 l.length c1) := (af cZ.out 6).trans rfl
  go_wp2
  clear GK
  go_loopg [12] l.length (fun gg v22 wr => ∃ (pre rest : List ai), v22 = .int .i64 (pre.length : Int) ∧ ae (pre ++ rest = l) ∧ rest.length ≤ gg ∧ ae (Kd.N k26 26 wr w.heap.size (fun q => ((P q ∨ w.heap.size ≤ q) ∧ q ≠ b3) ∧ q ≠ b6) (.slice A1 l.length c1) l) ∧ ae (wr.heap[b3]? = some (.cells #[.int .u8 ck, .int .i64 cx, .int .i64 cy, .int .i64 cw, .int .i64 ch, .int .i64 aU, .slice A1 l.length c1] 26 (0, 0))) ∧ ae (wr.heap[b6]? = some (.cells #[.int .u8 0, .int .i64 0, .int .i64 0, .int .i64 0, .int .i64 0, .int .i64 0, .slice none 0 0] 26 (0, 0))) ∧ ae (Below w.heap.size w wr))
  case atStart => exact ⟨[], l, rfl, ⟨rfl⟩, Nat.le_refl _, HN, cZ, fK, HB⟩
  case round =>
   clear HN cZ fK HB
   obtain ⟨pre, rest, rfl, HE, hgg, HN, cZ, fK, HB⟩ := hrel
   cases rest with
   | nil =>
    have hpl : pre = l := by have := HE.out; rwa [List.append_nil] at this
    have hlt : ¬ ((pre.length : Int) < (l.length : Int)) := by rw [hpl]; omega
    clear hpl hgg
    have c30 := (af cZ.out 0).trans rfl
    have c31 := (af cZ.out 1).trans rfl
    have c32 := (af cZ.out 2).trans rfl
    have c33 := (af cZ.out 3).trans rfl
    have c34 := (af cZ.out 4).trans rfl
    have c35 := (af cZ.out 5).trans rfl
    have GK := (af cZ.out 6).trans rfl
    go_wp2_with (first
   | ((with_reducible refine lH (.store 26 (.tmp 2) (.tmp 24)) rfl ?_); go_loud (refine fU (w0 := w) rfl rfl 26 (.tmp 2) (.tmp 24) rfl (g := b6) (j := 0) (base := w.heap.size) #[.int .u8 ck, .int .i64 cx, .int .i64 cy, .int .i64 cw, .int .i64 ch, .int .i64 aU, .slice A1 l.length c1] (u := .agg #[.int .u8 ck, .int .i64 cx, .int .i64 cy, .int .i64 cw, .int .i64 ch, .int .i64 aU, .slice A1 l.length c1]) (bK := [.int .u8 ck, .int .i64 cx, .int .i64 cy, .int .i64 cw, .int .i64 ch, .int .i64 aU, .slice A1 l.length c1]) ?sA ?sX rfl ?sT ?s1 fK.out ?sJ rfl HB.out HB.out.size Gb6.out ?_; (case sA => rfl); (case sX => rfl); (case sT => rfl); (case s1 => (simp [Value.oneCell'])); (case sJ => (first | decide | simp)); intro ahm hbk hbb hgg; have kY := ae.mk (Kd.uY HN.out hgg (fun k_ hk e_ => absurd (Option.some.inj e_) (by first | exact hk.2 | exact hk.1.2 | exact hk.1.1.2 | exact hk.1.1.1.2 | exact hk.2.2 | exact hk.2.1 | exact hk.2.2.1 | exact hk.2.2.2))); have gZ := ae.mk (df cZ.out hgg (fun e_ => absurd (Option.some.inj e_) (by first | exact uQ.out | exact (fun AZ => Vl.out AZ.symm)))); clear HN cZ; have HN := kY; have cZ := gZ; clear kY gZ; clear fK HB; have fK := ae.mk hbk; have HB := ae.mk hbb; clear hbk hbb hgg))
   | fail)
    refine bodyPost_ret (results_cell_row rfl _ _ b6 26 _ (0, 0) _ rfl fK.out Try.underlying26 rfl (by kernel_rfl)) rfl ?_
    exact ⟨_, rfl, Kd.iI HN.out (fun q hq => hq.1.1), HB.out⟩
   | cons k rest =>
    have hk : k ∈ l := by rw [← HE.out]; simp
    have hlt : (pre.length : Int) < (l.length : Int) := by rw [← HE.out, List.length_append, List.length_cons]; omega
    have hw : wrap64 ((pre.length : Int) + 1) = ((pre ++ [k]).length : Int) := by rw [List.length_append, List.length_singleton]; unfold wrap64; have := HL.out; omega
    obtain ⟨g, cap, he, hgb, Wn, _⟩ := Kd.xJ HN.out (by omega)
    injection he with ea en ec
    subst ea
    subst ec
    clear en
    have vK := ae.mk hgb
    obtain ⟨ce, hcl, hM, hcc, hfr⟩ := Kd.xI HN.out z26 (pre.length : Int) (Int.natCast_nonneg _) hlt
    have hrd : l.getD (pre.length : Int).toNat z26 = k := by rw [← HE.out, Int.toNat_natCast]; simp [List.getD_eq_getElem?_getD]
    rw [hrd] at hM
    obtain ⟨ua, uc, rfl, ul, ge⟩ := nz hM
    have HV := ae.mk (show Kd.V k26 26 wr w.heap.size _ (.slice ua k.f3.length uc) k.f3 from Kd.wU ul ge)
    have HRD := ae.mk hrd
    have x0 : wr.cell? ⟨g, pre.length * 7, none⟩ = some (.int .u8 k.f0) := hcc 0 _ rfl
    have x1 : wr.cell? ⟨g, pre.length * 7 + 1, none⟩ = some (.int .i64 k.f1.f0) := hcc 1 _ rfl
    have x2 : wr.cell? ⟨g, pre.length * 7 + 2, none⟩ = some (.int .i64 k.f1.f1) := hcc 2 _ rfl
    have x3 : wr.cell? ⟨g, pre.length * 7 + 3, none⟩ = some (.int .i64 k.f1.f2) := hcc 3 _ rfl
    have x4 : wr.cell? ⟨g, pre.length * 7 + 4, none⟩ = some (.int .i64 k.f1.f3) := hcc 4 _ rfl
    have x5 : wr.cell? ⟨g, pre.length * 7 + 5, none⟩ = some (.int .i64 k.f2) := hcc 5 _ rfl
    have x6 : wr.cell? ⟨g, pre.length * 7 + 6, none⟩ = some (.slice ua k.f3.length uc) := hcc 6 _ rfl
    have HW1 := ae.mk hw
    have HK := ae.mk hk
    have fG := ae.mk hgg
    clear hcl hM hcc hfr hrd ul ge hgb Wn hw hk hgg
    go_upto_region 5 with (first
   | ((with_reducible refine aG (N := 4) rfl ?_); refine aT ?hg (N := 4) ?hd (cs := #[.int .u8 0, .int .i64 0, .int .i64 0, .int .i64 0, .int .i64 0, .int .i64 0, .slice none 0 0]) (t := 26) ?hr ?_; (case hd => rfl); (case hg => rfl); (case hr => first | (go_simp; done) | (go_simp; rfl)); intro b8 hg wb8 hbox hb; have Gb8 := ae.mk (show w.heap.size ≤ b8 by rw [hg]; exact HB.out.size); have Fp := ae.mk (show b3 ≠ b8 by rw [hg]; exact Nat.ne_of_lt (fB cZ.out)); have Fq := ae.mk (show b6 ≠ b8 by rw [hg]; exact Nat.ne_of_lt (fB fK.out)); have kX := ae.mk (ak HB.out hb); have kY := ae.mk (Kd.pR (Kd.BB HN.out b8 (by rw [hg]; exact Nat.le_refl _)) hb); have sN := ae.mk (Kd.jc (Kd.nN HV.out b8 (by rw [hg]; exact Nat.le_refl _)) hb); have gZ := ae.mk (aJ cZ.out hb); have g_ := ae.mk (aJ fK.out hb); clear HB HN HV cZ fK; have HB := kX; have HN := kY; have HV := sN; have cZ := gZ; have fK := g_; clear kX kY sN gZ g_; have Kb8 := ae.mk hbox; clear hb hbox hg)
   | ((with_reducible refine lH (.store 26 (.tmp 4) (.tmp 16)) rfl ?_); go_loud (refine fU (w0 := w) rfl rfl 26 (.tmp 4) (.tmp 16) rfl (g := b8) (j := 0) (base := w.heap.size) #[.int .u8 k.f0, .int .i64 k.f1.f0, .int .i64 k.f1.f1, .int .i64 k.f1.f2, .int .i64 k.f1.f3, .int .i64 k.f2, .slice ua k.f3.length uc] (u := .agg #[.int .u8 k.f0, .int .i64 k.f1.f0, .int .i64 k.f1.f1, .int .i64 k.f1.f2, .int .i64 k.f1.f3, .int .i64 k.f2, .slice ua k.f3.length uc]) (bK := [.int .u8 k.f0, .int .i64 k.f1.f0, .int .i64 k.f1.f1, .int .i64 k.f1.f2, .int .i64 k.f1.f3, .int .i64 k.f2, .slice ua k.f3.length uc]) ?sA ?sX rfl ?sT ?s1 Kb8.out ?sJ rfl HB.out HB.out.size Gb8.out ?_; (case sA => rfl); (case sX => rfl); (case sT => rfl); (case s1 => (simp [Value.oneCell'])); (case sJ => (first | decide | simp)); intro Xt hbk hbb hgg; have kY := ae.mk (Kd.uY HN.out hgg (fun k_ hk e_ => absurd (Option.some.inj e_) (by first | exact hk.2 | exact hk.1.2 | exact hk.1.1.2 | exact hk.1.1.1.2 | exact hk.2.2 | exact hk.2.1 | exact hk.2.2.1 | exact hk.2.2.2))); have sN := ae.mk (Kd.wS HV.out hgg (fun k_ hk e_ => absurd (Option.some.inj e_) (by first | exact hk.2 | exact hk.1.2 | exact hk.1.1.2 | exact hk.1.1.1.2 | exact hk.2.2 | exact hk.2.1 | exact hk.2.2.1 | exact hk.2.2.2))); have gZ := ae.mk (df cZ.out hgg (fun e_ => absurd (Option.some.inj e_) (by first | exact Fp.out | exact (fun AZ => agG.out AZ.symm)))); have g_ := ae.mk (df fK.out hgg (fun e_ => absurd (Option.some.inj e_) (by first | exact Fq.out | exact (fun AZ => agH.out AZ.symm)))); clear HN HV cZ fK; have HN := kY; have HV := sN; have cZ := gZ; have fK := g_; clear kY sN gZ g_; clear Kb8 HB; have Kb8 := ae.mk hbk; have HB := ae.mk hbb; clear hbk hbb hgg))
   | fail)
    clear x0 x1 x2 x3 x4 x5 x6
    have q_ := ae.mk (uq HB.out)
    clear HB
    have HB := q_
    clear q_
    have q_ := ae.mk (Kd.RX HN.out)
    clear HN
    have HN := q_
    clear q_
    have q_ := ae.mk (Kd.Lt HV.out)
    clear HV
    have HV := q_
    clear q_
    have q_ := ae.mk (uS cZ.out)
    clear cZ
    have cZ := q_
    clear q_
    have q_ := ae.mk (uS fK.out)
    clear fK
    have fK := q_
    clear q_
    have q_ := ae.mk (uS Kb8.out)
    clear Kb8
    have Kb8 := q_
    clear q_
    refine iW (n := 7) (S := fun w' => w'.heap[b3]? = some (.cells #[.int .u8 ck, .int .i64 cx, .int .i64 cy, .int .i64 cw, .int .i64 ch, .int .i64 aU, .slice (some ⟨g, 0, none⟩) l.length c1] 26 (0, 0)) ∧ w'.heap[b8]? = some (.cells #[.int .u8 k.f0, .int .i64 k.f1.f0, .int .i64 k.f1.f1, .int .i64 k.f1.f2, .int .i64 k.f1.f3, .int .i64 k.f2, .slice ua k.f3.length uc] 26 (0, 0))) (ds := [6]) #[false, false, false, false, false, false, false] (by kernel_rfl) rfl rfl ⟨cZ.out, Kb8.out⟩ (fun hHeld => ?_); refine eX m_.Jb m_.Eu (fun aj dZ => ?_)
    generalize Xt.drew = wd at HB HN HV cZ fK Kb8 hHeld ⊢
    refine rF (i := 0) (N := some 17) (v := ?_) (a' := ?_) #[true, false, false, false, false, false, false] rfl rfl (oN aj.out (by kernel_rfl)) (fun _ _ _ h => h) (Or.inl ⟨by rfl, ?_⟩) ?_ ?_
    rotate_left
    ·intro w'; go_simp; with_reducible rfl
    rotate_left
    ·simp only [Act.put, List.setIfInBounds_toArray, List.set_cons_zero, List.set_cons_succ, jO, jM]
     rfl
    refine yR (i := 1) (N := some 18) (v := ?_) (a' := ?_) #[true, true, false, false, false, false, false] rfl rfl (uU aj.out dZ.out (by kernel_rfl)) (fun _ _ _ h => h) (Or.inl ⟨by rfl, ?_⟩) hHeld ?_ ?_
    rotate_left
    ·intro w' hs_
     have c := (af hs_.1 6).trans rfl
     go_simp; with_reducible rfl
    rotate_left
    ·simp only [Act.put, List.setIfInBounds_toArray, List.set_cons_zero, List.set_cons_succ, jO, jM]
     rfl
    refine rF (i := 2) (N := some 19) (v := ?_) (a' := ?_) #[true, true, true, false, false, false, false] rfl rfl (oN aj.out (by kernel_rfl)) (fun _ _ _ h => h) (Or.inl ⟨by rfl, ?_⟩) ?_ ?_
    rotate_left
    ·intro w'; go_simp; with_reducible rfl
    rotate_left
    ·simp only [Act.put, List.setIfInBounds_toArray, List.set_cons_zero, List.set_cons_succ, jO, jM]
     rfl
    refine yR (i := 3) (N := some 20) (v := ?_) (a' := ?_) #[true, true, true, true, false, false, false] rfl rfl (uU aj.out dZ.out (by kernel_rfl)) (fun _ _ _ h => h) (Or.inl ⟨by rfl, ?_⟩) hHeld ?_ ?_
    rotate_left
    ·intro w' hs_
     have c0 := (af hs_.2 0).trans rfl
     have c1 := (af hs_.2 1).trans rfl
     have c2 := (af hs_.2 2).trans rfl
     have c3 := (af hs_.2 3).trans rfl
     have c4 := (af hs_.2 4).trans rfl
     have c5 := (af hs_.2 5).trans rfl
     have c6 := (af hs_.2 6).trans rfl
     go_simp; with_reducible rfl
    rotate_left
    ·simp only [Act.put, List.setIfInBounds_toArray, List.set_cons_zero, List.set_cons_succ, jO, jM]
     rfl
    refine jr (i := 4) (N := some 21) #[true, true, true, true, true, false, false] rfl rfl (dF aj.out (by kernel_rfl)) (by decide) (fun K hK => ?_)
    refine ik Try.func151 (by kernel_rfl) rfl #[.agg #[.int .u8 k.f0, .int .i64 k.f1.f0, .int .i64 k.f1.f1, .int .i64 k.f1.f2, .int .i64 k.f1.f3, .int .i64 k.f2, .slice ua k.f3.length uc]] (by rfl) rfl rfl (by (try simp only [List.map_toArray, List.map_cons, List.map_nil]); first | done | rfl) ?_
    refine (IH.out k HK.out _ ua uc wd HV.out).mono ?_
    rintro e wk ⟨v, rfl, ho, hb⟩
    refine ⟨_, rfl, ?_⟩
    have HE3 := ae.mk (fB cZ.out)
    have HE6 := ae.mk (fB fK.out)
    have HE8 := ae.mk (fB Kb8.out)
    have HEG := ae.mk (Kd.Fv HN.out g rfl)
    have HS := ae.mk HB.out.size
    have kX := ae.mk (ak HB.out hb); have kY := ae.mk (Kd.pR HN.out hb); have sN := ae.mk (Kd.jc HV.out hb); have gZ := ae.mk (aJ cZ.out hb); have g_ := ae.mk (aJ fK.out hb); have Ho := ae.mk (aJ Kb8.out hb); clear HB HN HV cZ fK Kb8; have HB := kX; have HN := kY; have HV := sN; have cZ := gZ; have fK := g_; have Kb8 := Ho; clear kX kY sN gZ g_ Ho
    clear HV hb
    obtain ⟨Av, cv, ev⟩ := Kd.jB ho
    subst ev
    have qZ := ae.mk ho
    clear ho
    refine hK.out _ _ ⟨cZ.out, Kb8.out⟩ (fun hHeld => ?_)
    clear hK K
    refine mf (a' := ?_) ?_ ?_
    rotate_left
    ·show Act.put _ (some 21) _ = _
     simp only [Act.put, List.setIfInBounds_toArray, List.set_cons_zero, List.set_cons_succ, jO, jM]
     rfl
    refine rF (i := 5) (N := some 22) (v := ?_) (a' := ?_) #[true, true, true, true, true, true, false] rfl rfl (oN aj.out (by kernel_rfl)) (fun _ _ _ h => h) (Or.inl ⟨by rfl, ?_⟩) ?_ ?_
    rotate_left
    ·intro w'; go_simp; with_reducible rfl
    rotate_left
    ·simp only [Act.put, List.setIfInBounds_toArray, List.set_cons_zero, List.set_cons_succ, jO, jM]
     rfl
    refine ny (i := 6) (N := none) #[true, true, true, true, true, true, true] rfl rfl (dF aj.out (by kernel_rfl)) (by decide) (fun K hK => ?_)
    obtain ⟨ce, hcl, hM, hcc, hfr⟩ := Kd.xI HN.out z26 (pre.length : Int) (Int.natCast_nonneg _) hlt
    rw [HRD.out] at hM
    obtain ⟨ub, ud, rfl, _, _⟩ := nz hM
    have x0 : wk.cell? ⟨g, pre.length * 7, none⟩ = some (.int .u8 k.f0) := hcc 0 _ rfl
    have f0 : wk.frozen? ⟨g, pre.length * 7, none⟩ = false := hfr 0
    have x1 : wk.cell? ⟨g, pre.length * 7 + 1, none⟩ = some (.int .i64 k.f1.f0) := hcc 1 _ rfl
    have f1 : wk.frozen? ⟨g, pre.length * 7 + 1, none⟩ = false := hfr 1
    have x2 : wk.cell? ⟨g, pre.length * 7 + 2, none⟩ = some (.int .i64 k.f1.f1) := hcc 2 _ rfl
    have f2 : wk.frozen? ⟨g, pre.length * 7 + 2, none⟩ = false := hfr 2
    have x3 : wk.cell? ⟨g, pre.length * 7 + 3, none⟩ = some (.int .i64 k.f1.f2) := hcc 3 _ rfl
    have f3 : wk.frozen? ⟨g, pre.length * 7 + 3, none⟩ = false := hfr 3
    have x4 : wk.cell? ⟨g, pre.length * 7 + 4, none⟩ = some (.int .i64 k.f1.f3) := hcc 4 _ rfl
    have f4 : wk.frozen? ⟨g, pre.length * 7 + 4, none⟩ = false := hfr 4
    have x5 : wk.cell? ⟨g, pre.length * 7 + 5, none⟩ = some (.int .i64 k.f2) := hcc 5 _ rfl
    have f5 : wk.frozen? ⟨g, pre.length * 7 + 5, none⟩ = false := hfr 5
    have x6 : wk.cell? ⟨g, pre.length * 7 + 6, none⟩ = some (.slice ub k.f3.length ud) := hcc 6 _ rfl
    have f6 : wk.frozen? ⟨g, pre.length * 7 + 6, none⟩ = false := hfr 6
    have jD : ∀ q, (((fun q => ((P q ∨ w.heap.size ≤ q) ∧ q ≠ b3) ∧ q ≠ b6) q ∧ q ≠ g) ∧ q ≠ b8) ∨ wd.heap.size ≤ q → ((fun q => ((P q ∨ w.heap.size ≤ q) ∧ q ≠ b3) ∧ q ≠ b6) q ∧ q ≠ b8) ∧ q ≠ g := fun q hq => hq.elim (fun h => ⟨⟨h.1.1, h.2⟩, h.1.2⟩) (fun hn => ⟨⟨⟨⟨.inr (Nat.le_trans HS.out hn), Nat.ne_of_gt (Nat.lt_of_lt_of_le HE3.out hn)⟩, Nat.ne_of_gt (Nat.lt_of_lt_of_le HE6.out hn)⟩, Nat.ne_of_gt (Nat.lt_of_lt_of_le HE8.out hn)⟩, Nat.ne_of_gt (Nat.lt_of_lt_of_le HEG.out hn)⟩)
    have JB := oG wk _ k (A6 := Av) (c6 := cv) (Kd.iJ qZ.out).2.1 (Kd.XG qZ.out)
    have hseg := Kd.Qg HN.out (pre.length : Int) (Int.natCast_nonneg _) hlt (bK := [.int .u8 k.f0, .int .i64 k.f1.f0, .int .i64 k.f1.f1, .int .i64 k.f1.f2, .int .i64 k.f1.f3, .int .i64 k.f2, .slice Av k.f3.length cv]) (j := 0) hcl hcc (show 0 + 7 ≤ 7 from by decide) (x' := k) JB jD
    rw [show l.set (pre.length : Int).toNat k = l from by rw [← HE.out, Int.toNat_natCast]; simp] at hseg
    obtain ⟨w9, DV⟩ : ∃ w9, w9 = wk.setCells g ((pre.length : Int).toNat * 7 + 0) [.int .u8 k.f0, .int .i64 k.f1.f0, .int .i64 k.f1.f1, .int .i64 k.f1.f2, .int .i64 k.f1.f3, .int .i64 k.f2, .slice Av k.f3.length cv] := ⟨_, rfl⟩
    replace hseg : Kd.N k26 26 w9 w.heap.size (fun q => (fun q => ((P q ∨ w.heap.size ≤ q) ∧ q ≠ b3) ∧ q ≠ b6) q ∧ q ≠ b8) (.slice (some ⟨g, 0, none⟩) l.length c1) l ∧ wk.grownBy w9 (some g) := by rw [DV]; exact hseg
    have RI := ae.mk (Kd.RY hseg.1)
    have KF := ae.mk (grown_below HB.out hseg.2 vK.out HB.out.size)
    have yg := ae.mk (df cZ.out hseg.2 (fun e_ => (HN.out.1 g rfl).1.1.2 (Option.some.inj e_).symm))
    have La := ae.mk (df fK.out hseg.2 (fun e_ => (HN.out.1 g rfl).1.2 (Option.some.inj e_).symm))
    clear hseg JB jD hcl hcc hfr hM HN HB cZ fK Kb8 hHeld qZ
    refine Hy (w1 := w9) (by rfl) rfl ?_ ?_
    ·rw [DV]; go_simp; rfl
    refine hK.out _ _ ?_
    clear hK K x0 x1 x2 x3 x4 x5 x6 f0 f1 f2 f3 f4 f5 f6 DV
    refine jK (gQ aj.out (by kernel_rfl)) ?_
    have hw := HW1.out
    go_wp2
    go_roundg rest.length
    case measure => exact Nat.lt_of_lt_of_le (Nat.lt_succ_self _) fG.out
    case rel => exact ⟨pre ++ [k], rest, (by rw [hw]), ⟨by rw [List.append_assoc]; exact HE.out⟩, Nat.le_refl _, RI, yg, La, KF⟩
def m_.f (a0 a1 a2 a3 a4 a5 : Int) (l : List ai) : Option (Int × Int × Int × Int × Int × Int × List ai) := if sz ⟨a0, ⟨a1, a2, a3, a4⟩, a5, l⟩ ≤ 1000000 then some (a0, a1, a2, a3, a4, a5, l) else none
def AtN (w : World) (P : Nat → Prop) : Option ai → Ending → World → Prop
 | none, e, w' => ∃ A2 c2, e = .returned (.tuple #[.agg #[.int .u8 0, .int .i64 0, .int .i64 0, .int .i64 0, .int .i64 0, .int .i64 0, .slice A2 0 c2], .bool false]) ∧ Kd.N k26 26 w' w.heap.size (fun k => P k ∨ w.heap.size ≤ k) (.slice A2 0 c2) [] ∧ Below w.heap.size w w'
 | some z, e, w' => ∃ A2 c2, e = .returned (.tuple #[.agg #[.int .u8 z.f0, .int .i64 z.f1.f0, .int .i64 z.f1.f1, .int .i64 z.f1.f2, .int .i64 z.f1.f3, .int .i64 z.f2, .slice A2 z.f3.length c2], .bool true]) ∧ Kd.N k26 26 w' w.heap.size (fun k => P k ∨ w.heap.size ≤ k) (.slice A2 z.f3.length c2) z.f3 ∧ Below w.heap.size w w'
theorem agK (c : ai) (path : List Int) (r : Option ai) (hr : ou c path = r) (hp : path.length ≤ 1048576) (hc : sz c ≤ 1000000) (b : Nat) (P : Nat → Prop) (A : Option Addr) (cc : Nat) (B : Option Addr) (cb : Nat) (w : World) (hv : Kd.V k26 26 w b P (.slice A c.f3.length cc) c.f3) (hi : Kd.C (Kd.int .i64) w B path.length path) :
  Calls Try.prog 91 #[.agg #[.int .u8 c.f0, .int .i64 c.f1.f0, .int .i64 c.f1.f1, .int .i64 c.f1.f2, .int .i64 c.f1.f3, .int .i64 c.f2, .slice A c.f3.length cc], .slice B path.length cb] w (AtN w P r) := by
 have S := ae.mk (St.start (ts := [(.slice A c.f3.length cc, c.f3)]) (b0 := w.heap.size) (w := w) (P := P) (fun t ht => by rw [List.mem_singleton.1 ht]; exact fM hv))
 have HI := ae.mk hi
 have gV := ae.mk hp
 have HZ := ae.mk hc
 have HR := ae.mk hr
 clear hi hp hc hr hv
 go_enter Try.func91, Try.ntmps91
 go_wp2_with (first
  | (refine boxS 2 _ 26 S ?_; clear S; intro b2 dG S)
  | (refine boxS 4 _ 26 S ?_; clear S; intro b4 dW S)
  | fail)
 go_loopg [10] path.length (fun gg v10 wr => ∃ (pre rest : List Int) (z : ai) (Az : Option Addr) (cz : Nat), v10 = .int .i64 (pre.length : Int) ∧ ae (pre ++ rest = path) ∧ ae (ou z rest = r) ∧ ae (sz z ≤ 1000000) ∧ rest.length ≤ gg ∧ ae (St w P [(some b4, .cells #[.int .u8 0, .int .i64 0, .int .i64 0, .int .i64 0, .int .i64 0, .int .i64 0, .slice none 0 0] 26 (0, 0)), (some b2, .cells #[.int .u8 z.f0, .int .i64 z.f1.f0, .int .i64 z.f1.f1, .int .i64 z.f1.f2, .int .i64 z.f1.f3, .int .i64 z.f2, .slice Az z.f3.length cz] 26 (0, 0))] [] [(.slice Az z.f3.length cz, z.f3)] [] wr))
 case atStart => exact ⟨[], path, c, A, cc, rfl, ⟨rfl⟩, HR, HZ, Nat.le_refl _, S⟩
 case round =>
  clear S HR HZ
  obtain ⟨pre, rest, z, Az, cz, rfl, HE, HR, HZ, hgg, S⟩ := hrel
  cases rest with
  | nil =>
   have hr := HR.out
   simp only [ou] at hr
   subst hr
   clear HR
   have hE := HE.out
   rw [List.append_nil] at hE
   have hE2 := hE.symm
   subst hE2
   clear hE HE hgg
   have hlt : ¬ ((path.length : Int) < (path.length : Int)) := by omega
   obtain ⟨ku, mV, mW, mX, mY, l9, eP⟩ := St.eF S bI
   go_wp2_with (first
    | (refine iG (some 31) Try.func151 (FI 1000000 z HZ.out (Nat.le_refl _) _ Az cz _ (S.out.tree _ (.head _))) ?_; rintro e fZ ⟨v, rfl, h1, hb⟩; refine ⟨_, rfl, ?_⟩; obtain ⟨Ac, cc', ev⟩ := Kd.jB h1; subst ev; replace S := ae.mk (S.out.yB h1 hb); clear h1 hb; clear ku mV mW mX mY l9 eP)
    | (refine gY 26 4 31 #[.int .u8 z.f0, .int .i64 z.f1.f0, .int .i64 z.f1.f1, .int .i64 z.f1.f2, .int .i64 z.f1.f3, .int .i64 z.f2, .slice Ac z.f3.length cc'] 0 7 S ?_; clear S; intro iT S)
    | fail)
   refine bodyPost_ret (fC rfl _ _ b4 26 _ (0, 0) _ rfl (S.out.blk _ (.head _) _ rfl) Try.underlying26 rfl (by kernel_rfl)) rfl ?_
   exact ⟨_, _, rfl, S.out.yz, S.out.below⟩
  | cons i is =>
   have hlt : (pre.length : Int) < (path.length : Int) := by rw [← HE.out, List.length_append, List.length_cons]; omega
   have adO : pre.length < path.length := by omega
   have hw1 : wrap64 ((pre.length : Int) + 1) = ((pre ++ [i]).length : Int) := by have := gV.out; rw [List.length_append, List.length_singleton]; unfold wrap64; omega
   have HW1 := ae.mk hw1
   have fG := ae.mk hgg
   have OM := ae.mk hlt
   have hrd : rd path (pre.length : Int) = i := by rw [← HE.out]; simp [rd, List.getD_eq_getElem?_getD]
   obtain ⟨XL, ek, xi⟩ := Kd.iU (Kd.gX HI.out S.out.below) (pre.length : Int) (Int.natCast_nonneg _) hlt
   subst ek
   have AO := ae.mk (fun (W : World) (h : Below w.heap.size w W) => (show W.cell? (XL.add pre.length) = some (.int .i64 i) by have h2 := Kd.iU (Kd.gX HI.out h) (pre.length : Int) (Int.natCast_nonneg _) OM.out; obtain ⟨ad, e1, e2⟩ := h2; injection e1 with e1; subst e1; simp only [Int.toNat_natCast] at e2; rw [e2, hrd]))
   clear hrd xi hgg hw1
   have hr := HR.out
   simp only [ou] at hr
   by_cases h0 : i < 0
   case pos =>
    rw [if_pos (.inl h0)] at hr
    subst hr
    clear HR
    obtain ⟨JA, wO⟩ := mO (a := i) (b := 0) (by omega)
    have xi := AO.out _ S.out.below
    go_wp2_with (first
     | (refine gY 26 4 23 #[.int .u8 0, .int .i64 0, .int .i64 0, .int .i64 0, .int .i64 0, .int .i64 0, .slice none 0 0] 0 7 S ?_; clear S; intro dG S; clear xi)
     | fail)
    refine bodyPost_ret (fC rfl _ _ b4 26 _ (0, 0) _ rfl (S.out.blk _ (.head _) _ rfl) Try.underlying26 rfl (by kernel_rfl)) rfl ?_
    exact ⟨none, 0, rfl, Kd.yJ _ _ _ _ _, S.out.below⟩
   by_cases h1 : i ≥ (z.f3.length : Int)
   case pos =>
    rw [if_pos (.inr h1)] at hr
    subst hr
    clear HR
    obtain ⟨JA, wO⟩ := lM (a := i) (b := 0) (by omega)
    have h1b : decide (i ≥ (z.f3.length : Int)) = true := decide_eq_true h1
    have h1c : decide ((z.f3.length : Int) ≤ i) = true := decide_eq_true h1
    have xi := AO.out _ S.out.below
    have eP := (S.out.at bI 6).trans rfl
    go_wp2_with (first
     | (refine gY 26 4 23 #[.int .u8 0, .int .i64 0, .int .i64 0, .int .i64 0, .int .i64 0, .int .i64 0, .slice none 0 0] 0 7 S ?_; clear S; intro dG S; clear xi eP)
     | fail)
    refine bodyPost_ret (fC rfl _ _ b4 26 _ (0, 0) _ rfl (S.out.blk _ (.head _) _ rfl) Try.underlying26 rfl (by kernel_rfl)) rfl ?_
    exact ⟨none, 0, rfl, Kd.yJ _ _ _ _ _, S.out.below⟩
   rw [if_neg (fun h => h.elim h0 h1)] at hr
   obtain ⟨JA, wO⟩ := lM (a := i) (b := 0) (by omega)
   have h1b : decide (i ≥ (z.f3.length : Int)) = false := decide_eq_false h1
   have h1c : decide ((z.f3.length : Int) ≤ i) = false := decide_eq_false h1
   have hi0 : 0 ≤ i := by omega
   have hi1 : i < (z.f3.length : Int) := by omega
   obtain ⟨jT, ua, uc, ek, S1⟩ := S.out.elem (.head _) i hi0 hi1
   subst ek
   have hkz : sz (aA z.f3 i) ≤ 1000000 := by have h2 := uK (Hr z.f3 i hi0 hi1); have h3 := cO z; have := HZ.out; omega
   obtain ⟨k, hk⟩ : ∃ k, k = aA z.f3 i := ⟨_, rfl⟩
   rw [← hk] at S1 hr hkz
   replace S := ae.mk S1
   replace HR := ae.mk hr
   have kM := ae.mk hkz
   clear S1 hk hr hkz
   obtain ⟨f_, iy, jh, iY, iZ, kE, kF⟩ := St.CJ S
   have xi := AO.out _ S.out.below
   have eP := (S.out.at bI 6).trans rfl
   go_wp2_with (first
    | (refine Ai 26 2 28 #[.int .u8 k.f0, .int .i64 k.f1.f0, .int .i64 k.f1.f1, .int .i64 k.f1.f2, .int .i64 k.f1.f3, .int .i64 k.f2, .slice ua k.f3.length uc] 0 7 S ?_; clear S; intro dG S; clear f_ iy jh iY iZ kE kF xi eP)
    | fail)
   have hw1 := HW1.out
   go_wp2
   go_roundg is.length
   case measure => exact Nat.lt_of_lt_of_le (Nat.lt_succ_self _) fG.out
   case rel => exact ⟨pre ++ [i], is, k, ua, uc, (by rw [hw1]), ⟨by rw [List.append_assoc]; exact HE.out⟩, HR, kM, Nat.le_refl _, ⟨S.out.bg.bg.bg.bg.bg.bg.bg.afF (.head _)⟩⟩
section
variable {W : World} {b : Nat} {P : Nat → Prop} {A : Option Addr} {cc cb : Nat}
theorem Ib (c : ai) (path : List Int) (z : ai) (hz : ou c path = some z) (hp : path.length ≤ 1048576) (hc : sz c ≤ 1000000) {B : Option Addr} (hV : Kd.V k26 26 W b P (.slice A c.f3.length cc) c.f3) (hi : Kd.C (Kd.int .i64) W B path.length path) (_ : path.length ≤ cb) :
  Calls Try.prog 91 #[.agg #[.int .u8 c.f0, .int .i64 c.f1.f0, .int .i64 c.f1.f1, .int .i64 c.f1.f2, .int .i64 c.f1.f3, .int .i64 c.f2, .slice A c.f3.length cc], .slice B path.length cb] W fun e w' => ∃ A2 c2, e = .returned (.tuple #[.agg #[.int .u8 z.f0, .int .i64 z.f1.f0, .int .i64 z.f1.f1, .int .i64 z.f1.f2, .int .i64 z.f1.f3, .int .i64 z.f2, .slice A2 z.f3.length c2], .bool true]) ∧ Kd.N k26 26 w' W.heap.size (fun k => P k ∨ W.heap.size ≤ k) (.slice A2 z.f3.length c2) z.f3 ∧ Below W.heap.size W w' := agK c path (some z) hz hp hc b P A cc B cb W hV hi
end
section
variable {W : World} {b b' : Nat} {P P' : Nat → Prop} {A A' : Option Addr} {cc cc' : Nat}
theorem Ir (c : ai) (g : Bool) (hg : ∃ k, jy.f k c.f0 c.f1.f0 c.f1.f1 c.f1.f2 c.f1.f3 c.f2 c.f3 = some g) (hV : Kd.V k26 26 W b P (.slice A c.f3.length cc) c.f3) :
  Calls Try.prog 34 #[.agg #[.int .u8 c.f0, .int .i64 c.f1.f0, .int .i64 c.f1.f1, .int .i64 c.f1.f2, .int .i64 c.f1.f3, .int .i64 c.f2, .slice A c.f3.length cc]] W fun e w' => e = .returned (.bool g) ∧ Below W.heap.size W w' := by
 obtain ⟨k, hk⟩ := hg
 have h := Kd.kQ hV
 exact jy.calls k _ _ _ _ _ _ A cc c.f3 g W h.2.2 h.2.1 hk
end
section
variable {Pr : Program} {ops : Array Oper} {rest : List Oper} {op : Oper} {a : Act} {Q : Exit → Act → World → Prop} {w W : World} {P : Nat → Prop} {bs : List (Option Nat × Obj)} {ts : List (Value × List ai)} {ro : List (Addr × Value)}
end
theorem HY {l : List ai} {k : ai} (h : k ∈ l) : sz k ≤ dJ l := by
 obtain ⟨p, q, e⟩ := List.append_of_mem h
 rw [e, nI, bY]
 omega
theorem D9 {a b : dD} : rG a b = true ↔ a.f0 = b.f0 ∧ a.f1 = b.f1 ∧ a.f2 = b.f2 ∧ a.f3 = b.f3 := by
 unfold rG
 simp
theorem Ox (ax X Y W H : Int) (hax : ax = 1 ∨ ax = 2) : ∀ (kids : List ai) (ns : List Int) (off : Int), kids.length = ns.length → sD (fun k r => rG k.f1 r) kids (yu ax X Y W H off ns) = true → ∀ x, x ∈ kids → aV (3 - ax) x.f1 = tX ax H W := by
 intro kids
 induction kids with
 | nil => intro _ _ _ _ x hx; cases hx
 | cons k ks ih =>
  intro ns off hl he x hx
  cases ns with
  | nil => simp at hl
  | cons n ns =>
   simp only [yu, sD, Bool.and_eq_true] at he
   rcases List.mem_cons.1 hx with rfl | hx
   ·obtain ⟨_, _, h2, h3⟩ := D9.1 he.1
    simp only [] at h2 h3
    rcases hax with rfl | rfl
    ·unfold aV tX at *
     simp at h3 ⊢
     exact h3
    ·unfold aV tX at *
     simp at h2 ⊢
     exact h2
   ·exact ih ns (off + n + 1) (by simpa using hl) he.2 x hx
theorem BR {c : ai} (h1 : mF c = true) (hk : c.f0 = 2 ∨ c.f0 = 3) (hl : c.f3.length ≤ 20000) :
  (c.f3.map (fun k => aV (c.f0 - 1) k.f1)).sum + (c.f3.length : Int) - 1 = aV (c.f0 - 1) c.f1 ∧ ∀ x, x ∈ c.f3 → aV (3 - (c.f0 - 1)) x.f1 = aV (3 - (c.f0 - 1)) c.f1 := by
 unfold mF BZ at h1
 rw [show (c.f0 == 1) = false from by simp; omega, Bool.false_or] at h1
 simp only [Bool.and_eq_true] at h1
 obtain ⟨ht, hlen, hE⟩ := h1
 obtain ⟨hax, gp, gs, _⟩ := Dn ht
 have e1 : yF c.f0 = c.f0 - 1 := by unfold yF; omega
 rw [e1] at hax gp gs
 have e2 : jg c = c.f3.map (fun k => aV (c.f0 - 1) k.f1) := by
  unfold jg
  apply List.map_congr_left
  intro k _
  unfold szK qo aV
  rcases hk with h | h
  ·rw [if_pos h, if_pos (by omega)]
  ·rw [if_neg (by omega), if_neg (by omega), if_pos (by omega)]
 have e3 : ∀ r : dD, tX (c.f0 - 1) r.f2 r.f3 = aV (c.f0 - 1) r ∧ tX (c.f0 - 1) r.f3 r.f2 = aV (3 - (c.f0 - 1)) r := by
  intro r
  rcases hk with h | h <;> simp [tX, aV, h]
 refine ⟨?_, fun x hx => ?_⟩
 ·rw [← e2, ← (e3 c.f1).1, ← gs]
  simp [jg]
 ·rw [gp] at hE
  rw [← (e3 c.f1).2]
  exact Ox (c.f0 - 1) _ _ _ _ hax c.f3 (jg c) 0 (by simp [jg]) hE x hx
theorem tK {c : ai} (h : mg c = true) : jV c.f1 = true := by
 unfold mg at h
 simp only [Bool.and_eq_true] at h
 exact h.1.1.1
theorem nD {r : dD} (h : jV r = true) {ax : Int} (hax : ax = 1 ∨ ax = 2) : 1 ≤ aV ax r ∧ aV ax r ≤ 10000 := by
 have := vC.1 h
 unfold aV
 rcases hax with rfl | rfl
 ·rw [if_pos rfl]; omega
 ·rw [if_neg (by omega), if_pos rfl]; omega
theorem Aj {c x : ai} (h : kH c = true) (hx : x ∈ c.f3) : kH x = true := by
 rw [sU, Bool.and_eq_true] at h
 exact List.all_eq_true.1 h.2 x hx
theorem Uy (ax m : Int) (a b : List ai) : lJ ax m (a ++ b) = lJ ax (lJ ax m a) b := by
 induction a generalizing m with
 | nil => rw [List.nil_append, ql]
 | cons x xs ih => rw [List.cons_append, kD, kD, ih]
theorem WJ {ax u : Int} : ∀ {l : List ai} {m : Int}, m ≤ u → (∀ x, x ∈ l → b_ ax x ≤ u) → lJ ax m l ≤ u := by
 intro l
 induction l with
 | nil => intro m h _; rw [ql]; exact h
 | cons x xs ih =>
  intro m h hx
  rw [kD]
  exact ih (X6 h (hx x (by simp))) (fun y hy => hx y (by simp [hy]))
theorem NU {ax : Int} : ∀ {l : List ai} {m : Int}, m ≤ lJ ax m l := by
 intro l
 induction l with
 | nil => intro m; rw [ql]; exact Int.le_refl _
 | cons x xs ih =>
  intro m
  rw [kD]
  exact Int.le_trans (Uk m (b_ ax x)) ih
theorem aaN {ax : Int} : ∀ {l : List ai}, (∀ x, x ∈ l → b_ ax x ≤ aV ax x.f1) → lY ax l ≤ (l.map (fun k => aV ax k.f1)).sum := by
 intro l
 induction l with
 | nil => intro _; rw [sS]; exact Int.le_refl _
 | cons x xs ih =>
  intro hx
  rw [o9, List.map_cons, List.sum_cons]
  have h1 := hx x (by simp)
  have h2 := ih (fun y hy => hx y (by simp [hy]))
  omega
theorem BU {ax : Int} (hax : ax = 1 ∨ ax = 2) : ∀ (N : Nat) (c : ai), sz c ≤ N → N ≤ 20000 → (fH c).all mg = true → 1 ≤ b_ ax c ∧ (kH c = true → b_ ax c ≤ aV ax c.f1) := by
 intro N
 induction N with
 | zero => intro c h; rw [cO] at h; omega
 | succ N ih =>
  intro c hc hN hok
  have hs := cO c
  have hlen := iq c.f3
  have hk : ∀ x, x ∈ c.f3 → 1 ≤ b_ ax x ∧ (kH x = true → b_ ax x ≤ aV ax x.f1) := fun x hx => by
   refine ih x ?_ (by omega) (I4 hok hx)
   have := HY hx
   omega
  rw [oU]
  rcases w_ (nH hok) with ⟨h1, h2⟩ | ⟨h1, h2⟩
  ·rw [if_pos h1]
   exact ⟨Int.le_refl _, fun _ => (nD (tK (nH hok)) hax).1⟩
  ·rw [if_neg (by omega)]
   have hsum : ∀ l : List ai, (∀ x, x ∈ l → 1 ≤ b_ ax x) → (l.length : Int) ≤ lY ax l := by
    intro l
    induction l with
    | nil => intro _; rw [sS]; simp
    | cons x xs ihl =>
     intro h
     have a1 := h x (by simp)
     have a2 := ihl (fun y hy => h y (by simp [hy]))
     rw [o9, List.length_cons]
     omega
   have adL := fun (ht : kH c = true) => BR (c := c) (by rw [sU, Bool.and_eq_true] at ht; exact ht.1) h1 (by omega)
   cases ha : fD ax c.f0 with
   | true =>
    have e : c.f0 - 1 = ax := by
     unfold fD at ha
     simp at ha
     omega
    simp only [if_true]
    refine ⟨by have := hsum c.f3 (fun x hx => (hk x hx).1); omega, fun ht => ?_⟩
    obtain ⟨g1, _⟩ := adL ht
    rw [e] at g1
    have := aaN (ax := ax) (l := c.f3) (fun x hx => (hk x hx).2 (Aj ht hx))
    omega
   | false =>
    have e : 3 - (c.f0 - 1) = ax := by
     unfold fD at ha
     simp at ha
     omega
    simp only [Bool.false_eq_true, if_false]
    refine ⟨?_, fun ht => ?_⟩
    ·cases hl : c.f3 with
     | nil => rw [hl] at h2; simp at h2
     | cons x xs =>
      have := (hk x (by rw [hl]; simp)).1
      rw [kD]
      exact Int.le_trans this (Int.le_trans (Ul 0 _) NU)
    ·obtain ⟨_, g2⟩ := adL ht
     rw [e] at g2
     have := nD (tK (nH hok)) hax
     exact WJ (by omega) (fun x hx => by
      have := (hk x hx).2 (Aj ht hx)
      rw [g2 x hx] at this
      exact this)
section
variable {W : World} {b : Nat} {P : Nat → Prop} {A : Option Addr} {cc : Nat}
theorem tV (c : ai) (hz : sz c ≤ 1048576) (h1 : Kd.C k26 W A 1 [c]) (h2 : 1 ≤ cc) : Calls Try.prog 148 #[.slice A 1 cc] W fun e w' => e = .returned (.bool (di c)) ∧ Below W.heap.size W w' := by
 have h := Oj [c] (fun x hx => by rw [List.mem_singleton.1 hx]; exact hz) A cc W h1 h2
 simpa using h
theorem nJ {c : ai} {v : Bool} {f : FuncId} {args : Array Value} (h : di c = v) (hc : Calls Try.prog f args W fun e w' => e = .returned (.bool (di c)) ∧ Below W.heap.size W w') : Calls Try.prog f args W fun e w' => e = .returned (.bool v) ∧ Below W.heap.size W w' := by
 rw [h] at hc
 exact hc
theorem aem (r : dD) (ax : Int) : Calls Try.prog 98 #[.agg #[.int .i64 r.f0, .int .i64 r.f1, .int .i64 r.f2, .int .i64 r.f3], .int .u8 ax] W fun e w' => e = .returned (.int .i64 (aV ax r)) ∧ Below W.heap.size W w' :=
 oV.calls r.f0 r.f1 r.f2 r.f3 ax _ W (JS r ax)
end
section
variable {Pr : Program} {ops : Array Oper} {rest : List Oper} {op : Oper} {a : Act} {Q : Exit → Act → World → Prop} {w W : World} {P P' : Nat → Prop} {bs : List (Option Nat × Obj)} {ow : List (Value × List ai)} {ts : List (Value × List ai)} {ro : List (Addr × Value)}
theorem tJ {N : Tmp} (hd : op.dst = some N) (hgd : op.guard = none) (x : ai) {A : Option Addr} {c b : Nat} (S : St w P bs ow ts ro W) (hV : Kd.V k26 26 W b P' (.slice A x.f3.length c) x.f3)
  (hrun : (execOp a.eval op).run Pr W = .ok (.value (.slice (some ⟨W.heap.size, 0, none⟩) 1 1)) (W.alloc (.cells (kS x A c).toArray 26)))
  (h : ∀ A1 c1 w1, St w P bs ow ts ro w1 → 1 ≤ c1 → Kd.C k26 w1 A1 1 [x] → wpList Pr ops Q rest (a.put op.dst (.slice A1 1 c1)) w1) : wpList Pr ops Q (op :: rest) a W := by
 obtain ⟨_, hl, hF⟩ := Kd.BF hV
 refine Kd.yI k26 (w0 := W) W.heap.size 26 hgd hd (xs := [x]) (inner := kS x A c) (ok := fun _ => True) (fE := P') hrun (bW.c7 (oG W P' x hl hF) (bW.none _ _)) (fun _ _ => trivial) trivial (Below.refl _ _) (Nat.le_refl _) (by simp) ?_
 intro v1 w1 hN _ hg _
 obtain ⟨A1, c1, rfl⟩ := Kd.jB hN
 exact h A1 c1 w1 (S.call (wE hg)) (Kd.iJ hN).2.1 (Kd.iJ hN).2.2
end
abbrev ae1 (w : World) (P : Nat → Prop) (z : ai) (n : Int) (e : Ending) (w' : World) : Prop := ∃ A c, e = .returned (.tuple #[.agg #[.int .u8 z.f0, .int .i64 z.f1.f0, .int .i64 z.f1.f1, .int .i64 z.f1.f2, .int .i64 z.f1.f3, .int .i64 z.f2, .slice A z.f3.length c], .int .i64 n]) ∧ Kd.N k26 26 w' w.heap.size (fun k => P k ∨ w.heap.size ≤ k) (.slice A z.f3.length c) z.f3 ∧ Below w.heap.size w w'
noncomputable def yj (ax : Int) (c : ai) : Bool := !di c || (ax != 1 && ax != 2)
noncomputable def yl (ax : Int) (c : ai) (b : Int) : Bool := decide (b < wrap64 (-(az ax c))) || decide (b > wrap64 (10000 - aV ax ⟨0, 0, wrap64 (c.f1.f0 + c.f1.f2), wrap64 (c.f1.f1 + c.f1.f3)⟩))
noncomputable def aN (ax : Int) (c : ai) (b : Int) : Int := if yj ax c = true then 1 else if yl ax c b = true then 7 else 0
noncomputable def aZ (ax : Int) (c : ai) (b : Int) : ai := if yj ax c = true then z26 else if yl ax c b = true then z26 else dA (fF ax c b) c.f1.f0 c.f1.f1
theorem agJ {ax : Int} {c : ai} {b : Int} (h1 : yj ax c = false) (h2 : yl ax c b = false) : di c = true ∧ (ax = 1 ∨ ax = 2) ∧ sz c ≤ 20000 ∧ -10000 ≤ b ∧ b ≤ 10000 ∧ -(az ax c) ≤ b ∧ az ax c = aV ax c.f1 - b_ ax c ∧ aV ax c.f1 + b ≤ 10000 := by
 unfold yj at h1
 simp only [Bool.or_eq_false_iff, Bool.not_eq_false', Bool.and_eq_false_iff, bne_eq_false_iff_eq] at h1
 obtain ⟨ht, hax⟩ := h1
 have hm := kJ ht
 have hs := nC hm
 have hB : kH c = true := by
  unfold di at ht
  simp only [Bool.and_eq_true] at ht
  exact ht.2
 have f := (BU hax (sz c) c (Nat.le_refl _) hs (o5 hm)).2 hB
 have f1 := (BU hax (sz c) c (Nat.le_refl _) hs (o5 hm)).1
 have hr := tK (nH (o5 hm))
 have r := nD hr hax
 have hg : az ax c = aV ax c.f1 - b_ ax c := by
  unfold az
  rw [if_pos ⟨hax, ht⟩]
  unfold wrap64
  omega
 unfold yl at h2
 simp only [Bool.or_eq_false_iff, decide_eq_false_iff_not] at h2
 have hw1 : wrap64 (-(az ax c)) = -(az ax c) := by rw [hg]; unfold wrap64; omega
 have hq : 0 ≤ c.f1.f0 ∧ 0 ≤ c.f1.f1 ∧ c.f1.f0 + c.f1.f2 ≤ 10000 ∧ c.f1.f1 + c.f1.f3 ≤ 10000 ∧ 1 ≤ c.f1.f2 ∧ 1 ≤ c.f1.f3 := by
  unfold jV pF at hr
  simp only [Bool.and_eq_true, decide_eq_true_eq] at hr
  omega
 have he : aV ax ⟨0, 0, wrap64 (c.f1.f0 + c.f1.f2), wrap64 (c.f1.f1 + c.f1.f3)⟩ = (if ax = 1 then c.f1.f0 else c.f1.f1) + aV ax c.f1 := by
  unfold aV
  rcases hax with rfl | rfl
  ·simp only [if_true]; unfold wrap64; omega
  ·simp only [show ¬ ((2 : Int) = 1) by decide, if_false, if_true]; unfold wrap64; omega
 rw [hw1, he] at h2
 have hw2 : wrap64 (10000 - ((if ax = 1 then c.f1.f0 else c.f1.f1) + aV ax c.f1)) = 10000 - ((if ax = 1 then c.f1.f0 else c.f1.f1) + aV ax c.f1) := by unfold wrap64; split <;> omega
 rw [hw2] at h2
 refine ⟨ht, hax, hs, ?_, ?_, ?_, hg, ?_⟩ <;> (split at h2 <;> omega)
def xR.T6 : Bool × List (List Nat × List Nat) := (true, [([], []), ([0], [0]), ([], []), ([1, 2], [1, 2]), ([3], [3]), ([], []), ([], []), ([6], [6]), ([4, 5, 7], [4, 5, 7]), ([8], [8]), ([9], [9]), ([9], [9]), ([], []), ([12, 10, 8, 0, 1, 2, 3, 4, 5, 6, 7, 8, 9, 10, 12], [10, 12]), ([11, 13, 0, 1, 2, 3, 4, 5, 6, 7, 8, 9, 10, 11, 12, 13], [11])])
def xR.B6 : List Nat := [0, 1, 0, 7, 15, 0, 0, 64, 255, 511, 1023, 1023, 0, 6143, 16383]
theorem xR.tab6 : iO .any (opsOf Try.f102 6) = xR.T6 := by kernel_rfl
theorem xR.Gz : iQ xR.T6.2 xR.B6 = true := by kernel_rfl
def xe (kid : ai) : List Int → ai → Option ai
 | [], _ => some kid
 | i :: is, c => if i < 0 ∨ i ≥ (c.f3.length : Int) then none else match xe kid is (aA c.f3 i) with
  | none => none
  | some k => some ⟨c.f0, c.f1, c.f2, c.f3.set i.toNat k⟩
abbrev Vo (w : World) (P : Nat → Prop) : Option ai → Ending → World → Prop
 | none, e, w' => e = .returned (.tuple #[.agg #[.int .u8 0, .int .i64 0, .int .i64 0, .int .i64 0, .int .i64 0, .int .i64 0, .slice none 0 0], .bool false]) ∧ Below w.heap.size w w'
 | some z, e, w' => ∃ A c, e = .returned (.tuple #[.agg #[.int .u8 z.f0, .int .i64 z.f1.f0, .int .i64 z.f1.f1, .int .i64 z.f1.f2, .int .i64 z.f1.f3, .int .i64 z.f2, .slice A z.f3.length c], .bool true]) ∧ Kd.N k26 26 w' w.heap.size (fun k => P k ∨ w.heap.size ≤ k) (.slice A z.f3.length c) z.f3 ∧ Below w.heap.size w w'
def aep.T5 : Bool × List (List Nat × List Nat) := (true, [([], []), ([0], [0]), ([], []), ([2], [2]), ([3], [3]), ([1, 4], [1, 4]), ([5], [5]), ([], []), ([], []), ([8], [8]), ([6, 7, 9], [6, 7, 9]), ([10], [10]), ([11], [11]), ([11], [11]), ([], []), ([14, 12, 10, 0, 1, 2, 3, 4, 5, 6, 7, 8, 9, 10, 11, 12, 14], [12, 14]), ([13, 15, 0, 1, 2, 3, 4, 5, 6, 7, 8, 9, 10, 11, 12, 13, 14, 15], [13])])
def aep.B5 : List Nat := [0, 1, 0, 4, 12, 31, 63, 0, 0, 256, 1023, 2047, 4095, 4095, 0, 24575, 65535]
def aeq.T9 : Bool × List (List Nat × List Nat) := (true, [([], []), ([], []), ([1], [1]), ([2], [2]), ([], []), ([0, 3, 0, 1, 2, 3, 4], [0, 3]), ([5, 4, 0, 1, 2, 3, 4], [4, 5])])
def aeq.B9 : List Nat := [0, 0, 2, 6, 0, 31, 63]
theorem Rh : ∀ (l : List ai) (n : Nat) (k : ai) (m : Nat), n < l.length → sz k ≤ sz (l.getD n z26) + m → dJ (l.set n k) ≤ dJ l + m := by
 intro l
 induction l with
 | nil => intro n k m h; simp at h
 | cons x xs ih =>
  intro n k m h hk
  cases n with
  | zero => rw [List.set_cons_zero, bY, bY]; simp only [List.getD_cons_zero] at hk; omega
  | succ n => rw [List.set_cons_succ, bY, bY]; have := ih n k m (by simpa using h) (by simpa using hk); omega
theorem W_ (kid : ai) : ∀ (path : List Int) (c x : ai), xe kid path c = some x → sz x ≤ sz c + sz kid := by
 intro path
 induction path with
 | nil => intro c x h; simp only [xe] at h; rw [← Option.some.inj h]; omega
 | cons i is ih =>
  intro c x h
  simp only [xe] at h
  split at h
  ·cases h
  ·rename_i hi
   cases hp : xe kid is (aA c.f3 i) with
   | none => rw [hp] at h; cases h
   | some k =>
    rw [hp] at h
    have h := Option.some.inj h
    subst h
    have h1 := ih _ _ hp
    have h2 := Rh c.f3 i.toNat k (sz kid) (by omega) h1
    rw [cO, cO c]
    show 1 + dJ (c.f3.set i.toNat k) ≤ _
    omega
section
variable {Pr : Program} {ops : Array Oper} {rest : List Oper} {op : Oper} {a : Act} {Q : Exit → Act → World → Prop} {w W : World} {P : Nat → Prop} {bs : List (Option Nat × Obj)} {ow : List (Value × List ai)} {ts : List (Value × List ai)} {ro : List (Addr × Value)}
theorem WG (N : Tmp) (y : Int) (S : ae (St w P bs ow ts ro W)) (h : ∀ A c o w1, ae (St w P (((Value.slice A [y].length c).ownBlock, o) :: bs) ow ts ro w1) → ae (KR (Kd.int .i64) 3 w.heap.size (.slice A [y].length c) [y] o) → wpList Pr ops Q rest (a.put op.dst (.slice A [y].length c)) w1)
  (hd : op.dst = some N := by rfl) (hgd : op.guard = none := by rfl) (hrun : (execOp a.eval op).run Pr W = .ok (.value (.slice (some ⟨W.heap.size, 0, none⟩) 1 1)) (W.alloc (.cells #[.int .i64 y] 3)) := by first | (go_simp; done) | (go_simp; rfl)) : wpList Pr ops Q (op :: rest) a W :=
 Kd.vP (Kd.int .i64) (w0 := W) W.heap.size 3 hgd hd (xs := [y]) (inner := [.int .i64 y]) (ok := fun _ => True) (fE := fun _ => True) hrun (bW.one (show Kd.M (Kd.int .i64) _ _ _ y [.int .i64 y] from rfl) (bW.none _ _)) (fun _ hk => hk) trivial (Below.refl _ _) (Nat.le_refl _) (by simp) (fun v1 w1 hR hb hg _ => by
  obtain ⟨A, c, rfl⟩ := Kd.gK hR
  obtain ⟨o, S1, HI⟩ := S.out.F8 (d := Kd.int .i64) (e := 3) rfl hR (wE hg)
  exact h A c o w1 ⟨S1⟩ ⟨HI⟩)
end
abbrev yK (W : World) (p : List Int) (t : Bool) (e : Ending) (w' : World) : Prop := ∃ A c, e = .returned (.tuple #[.slice A p.length c, .bool t]) ∧ (Kd.int .i64).R 3 w' W.heap.size (fun _ => True) (.slice A p.length c) p ∧ Below W.heap.size W w'
theorem SX {id : Int} {k : ai} {r : Option (List Int)} {args : Array Value} {W : World} (h : fP id k = r) (hc : Calls Try.prog 90 args W (yK W ((fP id k).getD []) (fP id k).isSome)) : Calls Try.prog 90 args W (yK W (r.getD []) r.isSome) := by
 rw [h] at hc
 exact hc
theorem aaG (id : Int) : ∀ (N : Nat) (c : ai), sz c ≤ N → N ≤ 1000000 → ∀ (b : Nat) (P : Nat → Prop) (A : Option Addr) (cc : Nat) (w : World), Kd.V k26 26 w b P (.slice A c.f3.length cc) c.f3 →
  Calls Try.prog 90 #[.agg #[.int .u8 c.f0, .int .i64 c.f1.f0, .int .i64 c.f1.f1, .int .i64 c.f1.f2, .int .i64 c.f1.f3, .int .i64 c.f2, .slice A c.f3.length cc], .int .i64 id] w (yK w ((fP id c).getD []) (fP id c).isSome) := by
 intro N
 induction N with
 | zero => intro c h; rw [cO] at h; omega
 | succ N ih =>
  intro c hc hN b P A cc w hv
  have hsz := cO c
  have hlen := iq c.f3
  have S := ae.mk (St.start (ts := [(.slice A c.f3.length cc, c.f3)]) (b0 := w.heap.size) (w := w) (P := P) (fun t ht => by rw [List.mem_singleton.1 ht]; exact fM hv))
  have gV := ae.mk (show c.f3.length ≤ 1000000 by omega)
  have IH := ae.mk fun (k : ai) (hk : k ∈ c.f3) A cc w {b P} h => ih k (by have := uK hk; omega) (by omega) b P A cc w h
  have HQS := ae.mk fun (k : ai) (hk : k ∈ c.f3) q (h : fP id k = some q) => (show q.length ≤ 1000000 by have := (BM id (sz k)).1 k (Nat.le_refl _) q h; have := uK hk; omega)
  rw [BL]
  obtain ⟨ck, ⟨cx, cy, cw, ch⟩, aU, l⟩ := c
  simp only [] at S gV IH HQS ⊢
  clear ih hc hN hv hsz hlen
  by_cases hq : ck = 1 ∧ aU = id
  case pos =>
   rw [if_pos hq]
   obtain ⟨h1, h2⟩ := hq
   obtain ⟨h1a, h1b, h1d⟩ := xM (a := ck) (b := 1) (by omega)
   obtain ⟨h2a, h2b, h2d⟩ := xM (a := aU) (b := id) (by omega)
   clear h1 h2
   go_enter Try.func90, Try.ntmps90
   go_wp2_with (first
    | (refine boxS 2 _ 26 S ?_; clear S; intro b2 dG S; have ku := (S.out.at (.head _) 0).trans rfl; have l9 := (S.out.at (.head _) 5).trans rfl)
    | (refine ig 18 rfl ?_; refine lV (Kd.int .i64) 3 rfl 18 S ?_; clear S; intro An cn on dW S yD; clear ku l9)
    | fail)
   go_ret2
   exact ⟨_, _, rfl, S.out.FY yD.out (.head _), S.out.below⟩
  rw [if_neg hq]
  have hw : ((ck == 1) = true ∧ decide (ck = 1) = true ∧ (aU == id) = false ∧ decide (aU = id) = false) ∨ ((ck == 1) = false ∧ decide (ck = 1) = false) := by
   by_cases h1 : ck = 1
   ·exact .inl ⟨beq_iff_eq.mpr h1, decide_eq_true h1, beq_eq_false_iff_ne.mpr (fun h => hq ⟨h1, h⟩), decide_eq_false (fun h => hq ⟨h1, h⟩)⟩
   ·exact .inr ⟨beq_eq_false_iff_ne.mpr h1, decide_eq_false h1⟩
  obtain ⟨R, hR⟩ : ∃ R, R = oP id 0 l := ⟨_, rfl⟩
  rw [← hR]
  have HR := ae.mk hR.symm
  clear hq hR
  rcases hw with ⟨ha, hb, hc, hd⟩ | ⟨ha, hb⟩
  all_goals
   go_enter Try.func90, Try.ntmps90
   go_wp2_with (first
    | (refine boxS 2 _ 26 S ?_; clear S; intro b2 dG S; have ku := (S.out.at (.head _) 0).trans rfl; have l9 := (S.out.at (.head _) 5).trans rfl; have eP := (S.out.at (.head _) 6).trans rfl)
    | fail)
   clear ku l9 eP
   go_loopg [22] l.length (fun gg v22 wr => ∃ (pre rest : List ai), v22 = .int .i64 (pre.length : Int) ∧ ae (pre ++ rest = l) ∧ ae (oP id pre.length rest = R) ∧ rest.length ≤ gg ∧ ae (St w P [(some b2, .cells #[.int .u8 ck, .int .i64 cx, .int .i64 cy, .int .i64 cw, .int .i64 ch, .int .i64 aU, .slice A l.length cc] 26 (0, 0))] [] [(.slice A l.length cc, l)] [] wr))
   case atStart => exact ⟨[], l, rfl, ⟨rfl⟩, HR, Nat.le_refl _, S⟩
   case round =>
    clear S HR
    obtain ⟨pre, rest, rfl, HE, HR, hgg, S⟩ := hrel
    cases rest with
    | nil =>
     have hr := HR.out
     rw [sF] at hr
     replace HR := ae.mk hr.symm
     clear hr
     have hE := HE.out
     rw [List.append_nil] at hE
     have hE2 := hE.symm
     subst hE2
     clear hE HE hgg
     have hlt : ¬ ((l.length : Int) < (l.length : Int)) := by omega
     go_wp2_with (first
      | (refine ig 41 rfl ?_; refine lV (Kd.int .i64) 3 rfl 41 S ?_; clear S; intro An cn on dW S yD)
      | fail)
     go_ret2
     rw [HR.out]
     exact ⟨_, _, rfl, S.out.FY yD.out (.head _), S.out.below⟩
    | cons k rest =>
     have hk : k ∈ l := by rw [← HE.out]; simp
     have hlt : (pre.length : Int) < (l.length : Int) := by rw [← HE.out, List.length_append, List.length_cons]; omega
     have hw1 : wrap64 ((pre.length : Int) + 1) = ((pre ++ [k]).length : Int) := by have := gV.out; rw [List.length_append, List.length_singleton]; unfold wrap64; omega
     have HW1 := ae.mk hw1
     have fG := ae.mk hgg
     have HK := ae.mk hk
     have CB := ae.mk (show pre.length ≤ 1048576 by have := gV.out; omega)
     obtain ⟨jT, ua, uc, ek, S1⟩ := S.out.elem (.head _) (pre.length : Int) (Int.natCast_nonneg _) hlt
     subst ek
     have hrd : aA l (pre.length : Int) = k := by rw [← HE.out]; exact lu pre k rest
     rw [hrd] at S1
     simp only [Int.toNat_natCast] at S1
     replace S := ae.mk S1
     clear S1 hrd hk hgg hw1
     cases hf : fP id k with
     | none =>
      have HF := ae.mk hf
      have hr := HR.out
      rw [oQ, hf] at hr
      replace HR := ae.mk (show oP id (pre ++ [k]).length rest = R by rw [List.length_append]; exact hr)
      clear hf hr
      obtain ⟨f_, iy, jh, iY, iZ, kE, kF⟩ := St.CJ S
      have eP := (S.out.at (.head _) 6).trans rfl
      go_wp2_with (first
       | (refine iG (some 32) Try.func90 (SX HF.out (IH.out k HK.out ua uc _ (S.out.tree _ (.head _)))) ?_; rintro e dG ⟨Aq, cq, rfl, h1, hb⟩; refine ⟨_, rfl, ?_⟩; obtain ⟨oq, S1, hI⟩ := S.out.F8 (d := Kd.int .i64) (e := 3) rfl h1 hb; replace S := ae.mk S1; have mr := ae.mk hI; clear S1 hI h1 hb; clear f_ iy jh iY iZ kE kF eP)
       | fail)
      have hw1 := HW1.out
      go_wp2
      go_roundg rest.length
      case measure => exact Nat.lt_of_lt_of_le (Nat.lt_succ_self _) fG.out
      case rel => exact ⟨pre ++ [k], rest, (by rw [hw1]), ⟨by rw [List.append_assoc]; exact HE.out⟩, HR, Nat.le_refl _, ⟨S.out.dQ.dE.bg.bg.bg.bg.bg.bg.bg⟩⟩
     | some q =>
      have HF := ae.mk hf
      have HQL := ae.mk (HQS.out k HK.out q hf)
      have hr := HR.out
      rw [oQ, hf] at hr
      replace HR := ae.mk (show R = some ((pre.length : Int) :: q) from hr.symm)
      clear hf hr
      obtain ⟨f_, iy, jh, iY, iZ, kE, kF⟩ := St.CJ S
      have eP := (S.out.at (.head _) 6).trans rfl
      go_wp2_with (first
       | (refine iG (some 32) Try.func90 (SX HF.out (IH.out k HK.out ua uc _ (S.out.tree _ (.head _)))) ?_; rintro e dG ⟨Aq, cq, rfl, h1, hb⟩; refine ⟨_, rfl, ?_⟩; obtain ⟨oq, S1, hI⟩ := S.out.F8 (d := Kd.int .i64) (e := 3) rfl h1 hb; replace S := ae.mk S1; have mr := ae.mk hI; clear S1 hI h1 hb; clear f_ iy jh iY iZ kE kF eP)
       | (refine ig 37 rfl ?_; refine WG 37 (pre.length : Int) S ?_; clear S; intro An cn on dW S yD)
       | (refine ig 39 rfl ?_; at_builtin; refine LX (Kd.int .i64) 3 rfl 37 38 41 (.int .i64 0) 8 Try.underlying41 info3 rfl (by decide) (by decide) (by decide) S yD q (Vk mr.out S.out bI).1 (fun _ _ _ _ _ h => h) (by have := HQL.out; simp only [List.length_cons, List.length_nil]; omega) ?_; clear S yD; intro An2 cn2 on2 fZ S yD)
       | fail)
      go_ret2
      rw [HR.out]
      exact ⟨_, _, rfl, S.out.FY yD.out (.head _), S.out.below⟩
def afL.T3 : Bool × List (List Nat × List Nat) := (true, [([], []), ([0], [0]), ([1], [1]), ([2], [2]), ([3], [3]), ([4], [4]), ([5, 4], [4, 5]), ([6, 4], [4, 6]), ([4], [4]), ([8, 4], [4, 8]), ([9, 4], [4, 9]), ([7, 10, 4], [4, 7, 10]), ([4, 11], [4, 11])])
def afL.B3 : List Nat := [0, 1, 3, 7, 15, 31, 63, 127, 31, 287, 799, 2047, 4095]
def xE.T5 : Bool × List (List Nat × List Nat) := (true, [([], []), ([0], [0]), ([], []), ([2], [2]), ([3], [3]), ([1, 4], [1, 4]), ([5], [5]), ([], []), ([7], [7]), ([6, 8], [6, 8]), ([9], [9]), ([9], [9]), ([10, 9, 0, 1, 2, 3, 4, 5, 6, 7, 8, 9, 10, 11], [10]), ([11, 12, 0, 1, 2, 3, 4, 5, 6, 7, 8, 9, 10, 11, 12], [11])])
def xE.B5 : List Nat := [0, 1, 0, 4, 12, 31, 63, 0, 128, 511, 1023, 1023, 4095, 8191]
theorem xE.Jb : iO .any (opsOf Try.f92 5) = xE.T5 := by kernel_rfl
theorem xE.Eu : iQ xE.T5.2 xE.B5 = true := by kernel_rfl
def AtV (w : World) (P : Nat → Prop) : Option ai → Ending → World → Prop
 | none, e, w' => ∃ A2 c2, e = .returned (.tuple #[.agg #[.int .u8 0, .int .i64 0, .int .i64 0, .int .i64 0, .int .i64 0, .int .i64 0, .slice A2 ([] : List ai).length c2], .bool false]) ∧ Kd.V k26 26 w' w.heap.size (fun k => P k ∨ w.heap.size ≤ k) (.slice A2 ([] : List ai).length c2) ([] : List ai) ∧ Below w.heap.size w w'
 | some z, e, w' => ∃ A2 c2, e = .returned (.tuple #[.agg #[.int .u8 z.f0, .int .i64 z.f1.f0, .int .i64 z.f1.f1, .int .i64 z.f1.f2, .int .i64 z.f1.f3, .int .i64 z.f2, .slice A2 z.f3.length c2], .bool true]) ∧ Kd.V k26 26 w' w.heap.size (fun k => P k ∨ w.heap.size ≤ k) (.slice A2 z.f3.length c2) z.f3 ∧ Below w.heap.size w w'
theorem agL : ∀ (is : List Int) (c : ai) (P : Nat → Prop) (A : Option Addr) (cc : Nat) (B : Option Addr) (cb : Nat) (w : World), Kd.V k26 26 w w.heap.size P (.slice A c.f3.length cc) c.f3 → Kd.C (Kd.int .i64) w B is.length is → is.length ≤ cb →
  Calls Try.prog 92 #[.agg #[.int .u8 c.f0, .int .i64 c.f1.f0, .int .i64 c.f1.f1, .int .i64 c.f1.f2, .int .i64 c.f1.f3, .int .i64 c.f2, .slice A c.f3.length cc], .slice B is.length cb] w (AtV w P (ou c is)) := by
 intro is
 induction is with
 | nil =>
  intro c P A cc B cb w hv hi hb
  show Calls Try.prog 92 #[.agg #[.int .u8 c.f0, .int .i64 c.f1.f0, .int .i64 c.f1.f1, .int .i64 c.f1.f2, .int .i64 c.f1.f3, .int .i64 c.f2, .slice A c.f3.length cc], .slice B 0 cb] w (AtV w P (some c))
  have S := ae.mk (St.start (ts := [(.slice A c.f3.length cc, c.f3)]) (b0 := w.heap.size) (w := w) (P := P) (fun t ht => by rw [List.mem_singleton.1 ht]; exact hv))
  clear hv hi hb
  obtain ⟨ck, ⟨cx, cy, cw, ch⟩, aU, l⟩ := c
  simp only [] at S ⊢
  go_enter Try.func92, Try.ntmps92
  go_wp2_with (first
   | (refine boxS 2 _ 26 S ?_; clear S; intro b2 dG S)
   | (refine boxS 4 _ 26 S ?_; clear S; intro b4 dW S; obtain ⟨ku, mV, mW, mX, mY, l9, eP⟩ := St.eF S bI)
   | (refine gY 26 4 9 #[.int .u8 ck, .int .i64 cx, .int .i64 cy, .int .i64 cw, .int .i64 ch, .int .i64 aU, .slice A l.length cc] 0 7 S ?_; clear S; intro fZ S; clear ku mV mW mX mY l9 eP)
   | fail)
  refine bodyPost_ret (fC rfl _ _ b4 26 _ (0, 0) _ rfl (S.out.blk _ (.head _) _ rfl) Try.underlying26 rfl (by kernel_rfl)) rfl ?_
  exact ⟨_, _, rfl, S.out.WQ (.head _), S.out.below⟩
 | cons i is ih =>
  intro c P A cc B cb w hv hi hb
  have IH := ae.mk ih
  have HI := ae.mk hi
  have LI := ae.mk hb
  have S := ae.mk (St.start (ts := [(.slice A c.f3.length cc, c.f3)]) (b0 := w.heap.size) (w := w) (P := P) (fun t ht => by rw [List.mem_singleton.1 ht]; exact hv))
  obtain ⟨ER, rfl, xi⟩ := Kd.iU hi 0 (by omega) (by simp)
  rw [show ((0 : Int)).toNat = 0 from rfl, Addr.add_zero'] at xi
  have xi : w.cell? ER = some (.int .i64 i) := xi
  replace S := ae.mk (S.out.yT xi)
  have hlen0 : (0 : Int) < ((is.length : Int) + 1) := by omega
  have hl0 : ((is.length + 1 : Nat) : Int) = (is.length : Int) + 1 := by omega
  clear ih hv hi hb xi
  simp only [ou]
  obtain ⟨ck, ⟨cx, cy, cw, ch⟩, aU, l⟩ := c
  simp only [] at S ⊢
  simp only [List.length_cons] at HI LI ⊢
  by_cases h0 : i < 0
  ·rw [if_pos (.inl h0)]
   have wO : decide (i < 0) = true := decide_eq_true h0
   go_enter Try.func92, Try.ntmps92
   go_wp2_with (first
    | (refine boxS 2 _ 26 S ?_; clear S; intro b2 dG S)
    | (refine boxS 4 _ 26 S ?_; clear S; intro b4 dW S; have f_ := (S.out.cell _ (.head _)).1)
    | fail)
   go_quiet (fail)
   clear f_
   replace S := ae.mk (S.out.call (eH (Below.refl _ _) nq))
   generalize dW.drewN nq = Va at S ⊢
   go_wp2_with (first
    | (refine gY 26 4 23 #[.int .u8 0, .int .i64 0, .int .i64 0, .int .i64 0, .int .i64 0, .int .i64 0, .slice none 0 0] 0 7 S ?_; clear S; intro iT S)
    | fail)
   refine bodyPost_ret (fC rfl _ _ b4 26 _ (0, 0) _ rfl (S.out.blk _ (.head _) _ rfl) Try.underlying26 rfl (by kernel_rfl)) rfl ?_
   exact ⟨_, _, rfl, Kd.Kq _ _ _ _ _, S.out.below⟩
  ·by_cases h1 : i ≥ (l.length : Int)
   ·rw [if_pos (.inr h1)]
    have wO : decide (i < 0) = false := decide_eq_false h0
    have h1b : decide (i ≥ (l.length : Int)) = true := decide_eq_true h1
    have h1c : decide ((l.length : Int) ≤ i) = true := decide_eq_true h1
    go_enter Try.func92, Try.ntmps92
    go_wp2_with (first
     | (refine boxS 2 _ 26 S ?_; clear S; intro b2 dG S)
     | (refine boxS 4 _ 26 S ?_; clear S; intro b4 dW S; have f_ := (S.out.cell _ (.head _)).1; have eP := (S.out.at bI 6).trans rfl)
     | fail)
    go_quiet (fail)
    clear f_ eP
    replace S := ae.mk (S.out.call (eH (Below.refl _ _) nq))
    generalize dW.drewN nq = Va at S ⊢
    go_wp2_with (first
     | (refine gY 26 4 23 #[.int .u8 0, .int .i64 0, .int .i64 0, .int .i64 0, .int .i64 0, .int .i64 0, .slice none 0 0] 0 7 S ?_; clear S; intro iT S)
     | fail)
    refine bodyPost_ret (fC rfl _ _ b4 26 _ (0, 0) _ rfl (S.out.blk _ (.head _) _ rfl) Try.underlying26 rfl (by kernel_rfl)) rfl ?_
    exact ⟨_, _, rfl, Kd.Kq _ _ _ _ _, S.out.below⟩
   ·rw [if_neg (fun h => h.elim h0 h1)]
    have wO : decide (i < 0) = false := decide_eq_false h0
    have h1b : decide (i ≥ (l.length : Int)) = false := decide_eq_false h1
    have h1c : decide ((l.length : Int) ≤ i) = false := decide_eq_false h1
    have h0z : 0 ≤ i := by omega
    have h1z : i < (l.length : Int) := by omega
    obtain ⟨jT, ua, uc, ek, S1⟩ := S.out.elem (.head _) i h0z h1z
    subst ek
    replace S := ae.mk S1
    clear S1
    generalize aA l i = k at S ⊢
    obtain ⟨i0, hi0, _, hsz, _⟩ := info_parts info3
    have hcut := MO (P := Try.prog) 41 3 .i64 Try.underlying41 hi0 1 hsz (some ER) (is.length + 1) cb 1 (by omega) (by omega)
    have hdrop := Kd.Ry HI.out (m := 1) (by rw [List.length_cons]; omega) LI.out
    obtain ⟨A2, hA2⟩ : ∃ A2, A2 = (if cb = (1 : Int).toNat then (some ER) else ((some ER) : Option Addr).map (·.add ((1 : Int).toNat * 1))) := ⟨_, rfl⟩
    obtain ⟨c2, hc2⟩ : ∃ c2, c2 = cb - (1 : Int).toNat := ⟨_, rfl⟩
    rw [← hA2, ← hc2, show is.length + 1 - (1 : Int).toNat = is.length by simp] at hcut
    have HI2 := ae.mk (show Kd.C (Kd.int .i64) w A2 is.length is by rw [hA2]; exact hdrop)
    have LI2 := ae.mk (show is.length ≤ c2 by have h3 := LI.out; rw [hc2]; simp; omega)
    have Qa := ae.mk hcut
    clear hdrop hA2 hc2 hi0 hsz hcut h0 h1
    have Ju := fun Q W h1 h2 => IH.out k Q ua uc A2 c2 W h1 h2 LI2.out
    cases hp : ou k is with
    | none =>
     simp only [hp] at Ju ⊢
     have hcut := Qa.out
     go_enter Try.func92, Try.ntmps92
     go_wp2_with (first
      | (refine boxS 2 _ 26 S ?_; clear S; intro b2 dG S)
      | (refine boxS 4 _ 26 S ?_; clear S; intro b4 dW S; have JW := (S.out.cell _ Ut).1; have eP := (S.out.at bI 6).trans rfl)
      | fail)
     go_quiet (fail)
     clear JW eP
     replace S := ae.mk (S.out.call (eH (Below.refl _ _) nq))
     generalize dW.drewN nq = Va at S ⊢
     go_wp2
     refine iW (n := 14) (S := fun w' => St w _ _ _ _ _ w') (ds := [12]) (bA 14 0) (by kernel_rfl) rfl rfl (S.out.call (bJ (Below.refl _ _))) (fun hHeld => ?_); refine eX xE.Jb xE.Eu (fun aj dZ => ?_)
     replace S := ae.mk (S.out.call (bJ (Below.refl _ _)))
     generalize Va.drew = wd4 at S hHeld ⊢
     refine ay 0 24 (bA 14 1) aj ?_
     refine dO 1 25 (bA 14 3) aj dZ hHeld ?_ (hv := by intro w' hs_; have eP := (hs_.at bI 6).trans rfl; go_simp; with_reducible rfl)
     refine ay 2 26 (bA 14 7) aj ?_
     refine ay 3 27 (bA 14 15) aj ?_
     refine dO 4 28 (bA 14 31) aj dZ hHeld ?_ (hv := by intro w' hs_; have JW := (hs_.cell _ Ut).1; go_simp; with_reducible rfl)
     refine ay 5 29 (bA 14 63) aj ?_
     refine dO 6 30 (bA 14 127) aj dZ hHeld ?_ (hv := by intro w' hs_; have f_ := (hs_.cell _ (.head _)).1; have iy := (hs_.cell _ bI).1; have jh := (hs_.cell _ dR).1; have iY := (hs_.cell _ lG).1; have iZ := (hs_.cell _ qM).1; have kE := (hs_.cell _ CQ).1; have kF := (hs_.cell _ CS).1; go_simp; with_reducible rfl)
     refine ay 7 31 (bA 14 255) aj ?_
     refine ay 8 32 (bA 14 511) aj ?_
     refine jr (i := 9) (N := some 33) (bA 14 1023) rfl rfl (dF aj.out (by kernel_rfl)) (by decide) (fun K hK => ?_)
     refine ik Try.func92 (by kernel_rfl) rfl #[.agg #[.int .u8 k.f0, .int .i64 k.f1.f0, .int .i64 k.f1.f1, .int .i64 k.f1.f2, .int .i64 k.f1.f3, .int .i64 k.f2, .slice ua k.f3.length uc], .slice A2 is.length c2] (by rfl) rfl rfl (by (try simp only [List.map_toArray, List.map_cons, List.map_nil]); first | done | rfl) ?_
     refine (Ju _ _ (fM (S.out.tree _ (.head _))) (Kd.gX HI2.out S.out.below)).mono ?_
     rintro e mP ⟨E_, FM, rfl, h1, hb⟩
     refine ⟨_, rfl, ?_⟩
     replace S := ae.mk (S.out.res h1 hb)
     clear h1 hb
     refine hK.out _ _ S.out.dE (fun hHeld => ?_)
     clear hK K
     refine ed 33 ?_
     refine ay 10 34 (bA 14 2047) aj ?_
     refine ay 11 35 (bA 14 4095) aj ?_
     refine ny (i := 12) (N := none) (bA 14 8191) rfl rfl (dF aj.out (by kernel_rfl)) (by decide) (fun K hK => ?_)
     refine oH 0 rfl 26 (.tmp 4) (.tmp 34) rfl #[.int .u8 0, .int .i64 0, .int .i64 0, .int .i64 0, .int .i64 0, .int .i64 0, .slice E_ (([] : List ai).length) FM] (j := 0) (u := .agg #[.int .u8 0, .int .i64 0, .int .i64 0, .int .i64 0, .int .i64 0, .int .i64 0, .slice E_ (([] : List ai).length) FM]) (bK := [.int .u8 0, .int .i64 0, .int .i64 0, .int .i64 0, .int .i64 0, .int .i64 0, .slice E_ (([] : List ai).length) FM]) S.out (by rfl) rfl rfl rfl rfl (by kernel_rfl) (by simp [Value.oneCell']) (by first | decide | simp) rfl ?_
     intro Bq S1
     simp only [List.set_cons_zero, List.set_cons_succ] at S1
     replace S := ae.mk S1
     clear S1
     refine hK.out _ _ ?_
     clear hK K
     refine ay 13 5 (bA 14 16383) aj ?_
     refine jK (gQ aj.out (by kernel_rfl)) ?_
     clear hHeld
     go_wp2
     refine bodyPost_ret (fC rfl _ _ b4 26 _ (0, 0) _ rfl (S.out.blk _ (.head _) _ rfl) Try.underlying26 rfl (by kernel_rfl)) rfl ?_
     exact ⟨_, _, rfl, S.out.WQ (.head _), S.out.below⟩
    | some z =>
     simp only [hp] at Ju ⊢
     have hcut := Qa.out
     go_enter Try.func92, Try.ntmps92
     go_wp2_with (first
      | (refine boxS 2 _ 26 S ?_; clear S; intro b2 dG S)
      | (refine boxS 4 _ 26 S ?_; clear S; intro b4 dW S; have JW := (S.out.cell _ Ut).1; have eP := (S.out.at bI 6).trans rfl)
      | fail)
     go_quiet (fail)
     clear JW eP
     replace S := ae.mk (S.out.call (eH (Below.refl _ _) nq))
     generalize dW.drewN nq = Va at S ⊢
     go_wp2
     refine iW (n := 14) (S := fun w' => St w _ _ _ _ _ w') (ds := [12]) (bA 14 0) (by kernel_rfl) rfl rfl (S.out.call (bJ (Below.refl _ _))) (fun hHeld => ?_); refine eX xE.Jb xE.Eu (fun aj dZ => ?_)
     replace S := ae.mk (S.out.call (bJ (Below.refl _ _)))
     generalize Va.drew = wd4 at S hHeld ⊢
     refine ay 0 24 (bA 14 1) aj ?_
     refine dO 1 25 (bA 14 3) aj dZ hHeld ?_ (hv := by intro w' hs_; have eP := (hs_.at bI 6).trans rfl; go_simp; with_reducible rfl)
     refine ay 2 26 (bA 14 7) aj ?_
     refine ay 3 27 (bA 14 15) aj ?_
     refine dO 4 28 (bA 14 31) aj dZ hHeld ?_ (hv := by intro w' hs_; have JW := (hs_.cell _ Ut).1; go_simp; with_reducible rfl)
     refine ay 5 29 (bA 14 63) aj ?_
     refine dO 6 30 (bA 14 127) aj dZ hHeld ?_ (hv := by intro w' hs_; have f_ := (hs_.cell _ (.head _)).1; have iy := (hs_.cell _ bI).1; have jh := (hs_.cell _ dR).1; have iY := (hs_.cell _ lG).1; have iZ := (hs_.cell _ qM).1; have kE := (hs_.cell _ CQ).1; have kF := (hs_.cell _ CS).1; go_simp; with_reducible rfl)
     refine ay 7 31 (bA 14 255) aj ?_
     refine ay 8 32 (bA 14 511) aj ?_
     refine jr (i := 9) (N := some 33) (bA 14 1023) rfl rfl (dF aj.out (by kernel_rfl)) (by decide) (fun K hK => ?_)
     refine ik Try.func92 (by kernel_rfl) rfl #[.agg #[.int .u8 k.f0, .int .i64 k.f1.f0, .int .i64 k.f1.f1, .int .i64 k.f1.f2, .int .i64 k.f1.f3, .int .i64 k.f2, .slice ua k.f3.length uc], .slice A2 is.length c2] (by rfl) rfl rfl (by (try simp only [List.map_toArray, List.map_cons, List.map_nil]); first | done | rfl) ?_
     refine (Ju _ _ (fM (S.out.tree _ (.head _))) (Kd.gX HI2.out S.out.below)).mono ?_
     rintro e mP ⟨E_, FM, rfl, h1, hb⟩
     refine ⟨_, rfl, ?_⟩
     replace S := ae.mk (S.out.res h1 hb)
     clear h1 hb
     refine hK.out _ _ S.out.dE (fun hHeld => ?_)
     clear hK K
     refine ed 33 ?_
     refine ay 10 34 (bA 14 2047) aj ?_
     refine ay 11 35 (bA 14 4095) aj ?_
     refine ny (i := 12) (N := none) (bA 14 8191) rfl rfl (dF aj.out (by kernel_rfl)) (by decide) (fun K hK => ?_)
     refine oH 0 rfl 26 (.tmp 4) (.tmp 34) rfl #[.int .u8 z.f0, .int .i64 z.f1.f0, .int .i64 z.f1.f1, .int .i64 z.f1.f2, .int .i64 z.f1.f3, .int .i64 z.f2, .slice E_ z.f3.length FM] (j := 0) (u := .agg #[.int .u8 z.f0, .int .i64 z.f1.f0, .int .i64 z.f1.f1, .int .i64 z.f1.f2, .int .i64 z.f1.f3, .int .i64 z.f2, .slice E_ z.f3.length FM]) (bK := [.int .u8 z.f0, .int .i64 z.f1.f0, .int .i64 z.f1.f1, .int .i64 z.f1.f2, .int .i64 z.f1.f3, .int .i64 z.f2, .slice E_ z.f3.length FM]) S.out (by rfl) rfl rfl rfl rfl (by kernel_rfl) (by simp [Value.oneCell']) (by first | decide | simp) rfl ?_
     intro Bq S1
     simp only [List.set_cons_zero, List.set_cons_succ] at S1
     replace S := ae.mk S1
     clear S1
     refine hK.out _ _ ?_
     clear hK K
     refine ay 13 5 (bA 14 16383) aj ?_
     refine jK (gQ aj.out (by kernel_rfl)) ?_
     clear hHeld
     go_wp2
     refine bodyPost_ret (fC rfl _ _ b4 26 _ (0, 0) _ rfl (S.out.blk _ (.head _) _ rfl) Try.underlying26 rfl (by kernel_rfl)) rfl ?_
     exact ⟨_, _, rfl, S.out.WQ (.head _), S.out.below⟩
section
variable {W : World} {b : Nat} {P : Nat → Prop} {A B : Option Addr} {cc cb : Nat}
theorem yO (c : ai) (path : List Int) (z : ai) (hz : ou c path = some z) (hV : Kd.V k26 26 W b P (.slice A c.f3.length cc) c.f3) (hi : Kd.C (Kd.int .i64) W B path.length path) (hb : path.length ≤ cb) :
  Calls Try.prog 92 #[.agg #[.int .u8 c.f0, .int .i64 c.f1.f0, .int .i64 c.f1.f1, .int .i64 c.f1.f2, .int .i64 c.f1.f3, .int .i64 c.f2, .slice A c.f3.length cc], .slice B path.length cb] W fun e w' => ∃ A2 c2, e = .returned (.tuple #[.agg #[.int .u8 z.f0, .int .i64 z.f1.f0, .int .i64 z.f1.f1, .int .i64 z.f1.f2, .int .i64 z.f1.f3, .int .i64 z.f2, .slice A2 z.f3.length c2], .bool true]) ∧ Kd.V k26 26 w' W.heap.size (fun k => P k ∨ W.heap.size ≤ k) (.slice A2 z.f3.length c2) z.f3 ∧ Below W.heap.size W w' := by
 have h := agL path c P A cc B cb W (fM hV) hi hb
 rw [hz] at h
 exact h
end
theorem aaA : ∀ (is : List Int) (c kid : ai) (P : Nat → Prop) (A : Option Addr) (cc : Nat) (Ak : Option Addr) (AV : Nat) (B : Option Addr) (cb : Nat) (w : World), sz c ≤ 1000000 → sz kid ≤ 1000000 →
  Kd.V k26 26 w w.heap.size P (.slice A c.f3.length cc) c.f3 → Kd.V k26 26 w w.heap.size P (.slice Ak kid.f3.length AV) kid.f3 → Kd.C (Kd.int .i64) w B is.length is → is.length ≤ cb → xe kid is c ≠ none →
  Calls Try.prog 102 #[.agg #[.int .u8 c.f0, .int .i64 c.f1.f0, .int .i64 c.f1.f1, .int .i64 c.f1.f2, .int .i64 c.f1.f3, .int .i64 c.f2, .slice A c.f3.length cc], .agg #[.int .u8 kid.f0, .int .i64 kid.f1.f0, .int .i64 kid.f1.f1, .int .i64 kid.f1.f2, .int .i64 kid.f1.f3, .int .i64 kid.f2, .slice Ak kid.f3.length AV], .slice B is.length cb] w (Vo w P (xe kid is c)) := by
 intro is
 induction is with
 | nil =>
  intro c kid P A cc Ak AV B cb w hz Ue hv hvk hi hb _
  show Calls Try.prog 102 #[.agg #[.int .u8 c.f0, .int .i64 c.f1.f0, .int .i64 c.f1.f1, .int .i64 c.f1.f2, .int .i64 c.f1.f3, .int .i64 c.f2, .slice A c.f3.length cc], .agg #[.int .u8 kid.f0, .int .i64 kid.f1.f0, .int .i64 kid.f1.f1, .int .i64 kid.f1.f2, .int .i64 kid.f1.f3, .int .i64 kid.f2, .slice Ak kid.f3.length AV], .slice B 0 cb] w (Vo w P (some kid))
  have S := ae.mk (St.start (ts := [(.slice A c.f3.length cc, c.f3), (.slice Ak kid.f3.length AV, kid.f3)]) (b0 := w.heap.size) (w := w) (P := P) (fun t ht => by
   rcases List.mem_cons.1 ht with rfl | ht
   ·exact hv
   ·rw [List.mem_singleton.1 ht]; exact hvk))
  have HZ := ae.mk hz
  have HZK := ae.mk Ue
  clear hz Ue hv hvk hi hb
  obtain ⟨ck, ⟨cx, cy, cw, ch⟩, aU, l⟩ := c
  obtain ⟨kk, ⟨kx, ky, kw, kh⟩, kid, m⟩ := kid
  simp only [] at S ⊢
  go_enter Try.func102, Try.ntmps102
  go_wp2_with (first
   | (refine boxS 3 _ 26 S ?_; clear S; intro b3 dG S)
   | (refine boxS 4 _ 26 S ?_; clear S; intro b4 dW S)
   | (refine boxS 6 _ 26 S ?_; clear S; intro b6 fZ S; obtain ⟨rf, n_, oh, rq, ru, ry, pM⟩ := St.eF S bI)
   | (refine iG (some 15) Try.func151 (FI 1000000 ⟨kk, ⟨kx, ky, kw, kh⟩, kid, m⟩ HZK.out (Nat.le_refl _) _ Ak AV _ (S.out.tree _ bI)) ?_; rintro e iT ⟨v, rfl, h1, hb⟩; refine ⟨_, rfl, ?_⟩; obtain ⟨agB, agQ, ev⟩ := Kd.jB h1; subst ev; replace S := ae.mk (S.out.yB h1 hb); clear h1 hb; clear rf n_ oh rq ru ry pM)
   | (refine gY 26 6 15 #[.int .u8 kk, .int .i64 kx, .int .i64 ky, .int .i64 kw, .int .i64 kh, .int .i64 kid, .slice agB m.length agQ] 0 7 S ?_; clear S; intro mP S)
   | fail)
  refine bodyPost_ret (fC rfl _ _ b6 26 _ (0, 0) _ rfl (S.out.blk _ (.head _) _ rfl) Try.underlying26 rfl (by kernel_rfl)) rfl ?_
  exact ⟨_, _, rfl, S.out.yz, S.out.below⟩
 | cons i is ih =>
  intro c kid P A cc Ak AV B cb w hz Ue hv hvk hi hb hne
  have IH := ae.mk ih
  have HI := ae.mk hi
  have LI := ae.mk hb
  have S := ae.mk (St.start (ts := [(.slice A c.f3.length cc, c.f3), (.slice Ak kid.f3.length AV, kid.f3)]) (b0 := w.heap.size) (w := w) (P := P) (fun t ht => by
   rcases List.mem_cons.1 ht with rfl | ht
   ·exact hv
   ·rw [List.mem_singleton.1 ht]; exact hvk))
  obtain ⟨ER, rfl, xi⟩ := Kd.iU hi 0 (by omega) (by simp)
  rw [show ((0 : Int)).toNat = 0 from rfl, Addr.add_zero'] at xi
  have xi : w.cell? ER = some (.int .i64 i) := xi
  replace S := ae.mk (S.out.yT xi)
  have hlen0 : (0 : Int) < ((is.length : Int) + 1) := by omega
  have hl0 : ((is.length + 1 : Nat) : Int) = (is.length : Int) + 1 := by omega
  have HZ := ae.mk hz
  have HZK := ae.mk Ue
  have CZ := ae.mk hne
  clear ih hv hvk hi hb hne xi hz Ue
  simp only [xe] at CZ ⊢
  obtain ⟨ck, ⟨cx, cy, cw, ch⟩, aU, l⟩ := c
  obtain ⟨kk, ⟨kx, ky, kw, kh⟩, kid, m⟩ := kid
  simp only [] at S CZ ⊢
  simp only [List.length_cons] at HI LI ⊢
  have h0 : ¬ i < 0 := fun h => CZ.out (if_pos (.inl h))
  by_cases h1 : i ≥ (l.length : Int)
  ·exact absurd (if_pos (.inr h1)) CZ.out
  ·rw [if_neg (fun h => h.elim h0 h1)]
   have hne := CZ.out
   rw [if_neg (fun h => h.elim h0 h1)] at hne
   have wO : decide (i < 0) = false := decide_eq_false h0
   have h1b : decide (i ≥ (l.length : Int)) = false := decide_eq_false h1
   have h1c : decide ((l.length : Int) ≤ i) = false := decide_eq_false h1
   have h0z : 0 ≤ i := by omega
   have h1z : i < (l.length : Int) := by omega
   obtain ⟨jT, ua, uc, ek, S1⟩ := S.out.elem (.head _) i h0z h1z
   subst ek
   replace S := ae.mk S1
   have kM := ae.mk (show sz (aA l i) ≤ 1000000 by have := uK (Hr l i h0z h1z); have := HZ.out; rw [cO] at this; simp only [] at this; omega)
   clear S1
   generalize aA l i = k at S kM hne ⊢
   obtain ⟨i0, hi0, _, hsz, _⟩ := info_parts info3
   have hcut := MO (P := Try.prog) 41 3 .i64 Try.underlying41 hi0 1 hsz (some ER) (is.length + 1) cb 1 (by omega) (by omega)
   have hdrop := Kd.Ry HI.out (m := 1) (by rw [List.length_cons]; omega) LI.out
   obtain ⟨A2, hA2⟩ : ∃ A2, A2 = (if cb = (1 : Int).toNat then (some ER) else ((some ER) : Option Addr).map (·.add ((1 : Int).toNat * 1))) := ⟨_, rfl⟩
   obtain ⟨c2, hc2⟩ : ∃ c2, c2 = cb - (1 : Int).toNat := ⟨_, rfl⟩
   rw [← hA2, ← hc2, show is.length + 1 - (1 : Int).toNat = is.length by simp] at hcut
   have HI2 := ae.mk (show Kd.C (Kd.int .i64) w A2 is.length is by rw [hA2]; exact hdrop)
   have LI2 := ae.mk (show is.length ≤ c2 by have h3 := LI.out; rw [hc2]; simp; omega)
   have Qa := ae.mk hcut
   clear hdrop hA2 hc2 hi0 hsz hcut h0 h1
   have H0Z := ae.mk h0z
   have H1Z := ae.mk h1z
   cases hp : xe ⟨kk, ⟨kx, ky, kw, kh⟩, kid, m⟩ is k with
   | none => rw [hp] at hne; exact absurd rfl hne
   | some z =>
    have Ju := fun Q W h1 h2 h3 => IH.out k ⟨kk, ⟨kx, ky, kw, kh⟩, kid, m⟩ Q ua uc Ak AV A2 c2 W kM.out HZK.out h1 h2 h3 LI2.out (by rw [hp]; simp)
    simp only [hp] at Ju ⊢
    clear hne
    have hcut := Qa.out
    go_enter Try.func102, Try.ntmps102
    go_wp2_with (first
     | (refine boxS 3 _ 26 S ?_; clear S; intro b3 dG S)
     | (refine boxS 4 _ 26 S ?_; clear S; intro b4 dW S)
     | (refine boxS 6 _ 26 S ?_; clear S; intro b6 fZ S; have JW := (S.out.cell _ Ut).1; have bC := (S.out.at dR 6).trans rfl)
     | fail)
    clear JW bC
    refine iW (n := 15) (S := fun w' => St w _ _ _ _ _ w') (ds := [13]) (bA 15 0) (by kernel_rfl) rfl rfl (S.out.call (bJ (Below.refl _ _))) (fun hHeld => ?_); refine eX xR.tab6 xR.Gz (fun aj dZ => ?_)
    replace S := ae.mk (S.out.call (bJ (Below.refl _ _)))
    generalize fZ.drew = wd4 at S hHeld ⊢
    refine ay 0 30 (bA 15 1) aj ?_
    refine dO 1 31 (bA 15 3) aj dZ hHeld ?_ (hv := by intro w' hs_; have bC := (hs_.at dR 6).trans rfl; go_simp; with_reducible rfl)
    refine ay 2 32 (bA 15 7) aj ?_
    refine ay 3 33 (bA 15 15) aj ?_
    refine dO 4 34 (bA 15 31) aj dZ hHeld ?_ (hv := by intro w' hs_; have f_ := (hs_.cell _ (.head _)).1; have iy := (hs_.cell _ bI).1; have jh := (hs_.cell _ dR).1; have iY := (hs_.cell _ lG).1; have iZ := (hs_.cell _ qM).1; have kE := (hs_.cell _ CQ).1; have kF := (hs_.cell _ CS).1; go_simp; with_reducible rfl)
    refine dO 5 35 (bA 15 63) aj dZ hHeld ?_ (hv := by intro w' hs_; have rf := (hs_.at bI 0).trans rfl; have n_ := (hs_.at bI 1).trans rfl; have oh := (hs_.at bI 2).trans rfl; have rq := (hs_.at bI 3).trans rfl; have ru := (hs_.at bI 4).trans rfl; have ry := (hs_.at bI 5).trans rfl; have pM := (hs_.at bI 6).trans rfl; go_simp; with_reducible rfl)
    refine ay 6 36 (bA 15 127) aj ?_
    refine ay 7 37 (bA 15 255) aj ?_
    refine zV (σ := Option Addr × Nat × Nat) 2 (bA 15 8191) (fun s_ => [(38, .tuple #[.agg #[.int .u8 z.f0, .int .i64 z.f1.f0, .int .i64 z.f1.f1, .int .i64 z.f1.f2, .int .i64 z.f1.f3, .int .i64 z.f2, .slice s_.1 z.f3.length s_.2.1], .bool true]), (29, .tuple #[.agg #[.int .u8 z.f0, .int .i64 z.f1.f0, .int .i64 z.f1.f1, .int .i64 z.f1.f2, .int .i64 z.f1.f3, .int .i64 z.f2, .slice s_.1 z.f3.length s_.2.1], .bool true]), (39, .agg #[.int .u8 z.f0, .int .i64 z.f1.f0, .int .i64 z.f1.f1, .int .i64 z.f1.f2, .int .i64 z.f1.f3, .int .i64 z.f2, .slice s_.1 z.f3.length s_.2.1]), (40, .bool true), (9, .pointer (some ⟨s_.2.2, 0, none⟩))]) (fun s_ w' => St w P [(some s_.2.2, .cells #[.int .u8 0, .int .i64 0, .int .i64 0, .int .i64 0, .int .i64 0, .int .i64 0, .slice none 0 0] 26 (0, 0)), (some b6, .cells #[.int .u8 0, .int .i64 0, .int .i64 0, .int .i64 0, .int .i64 0, .int .i64 0, .slice none 0 0] 26 (0, 0)), (some b4, .cells #[.int .u8 kk, .int .i64 kx, .int .i64 ky, .int .i64 kw, .int .i64 kh, .int .i64 kid, .slice Ak m.length AV] 26 (0, 0)), (some b3, .cells #[.int .u8 ck, .int .i64 cx, .int .i64 cy, .int .i64 cw, .int .i64 ch, .int .i64 aU, .slice (some jT) l.length cc] 26 (0, 0))] [] [(.slice s_.1 z.f3.length s_.2.1, z.f3), (.slice ua k.f3.length uc, k.f3), (.slice (some jT) l.length cc, l), (.slice Ak m.length AV, m)] [((jT.add (i.toNat * 7)), .int .u8 k.f0), (⟨(jT.add (i.toNat * 7)).block, (jT.add (i.toNat * 7)).off + 1, none⟩, .int .i64 k.f1.f0), (⟨(jT.add (i.toNat * 7)).block, (jT.add (i.toNat * 7)).off + 2, none⟩, .int .i64 k.f1.f1), (⟨(jT.add (i.toNat * 7)).block, (jT.add (i.toNat * 7)).off + 3, none⟩, .int .i64 k.f1.f2), (⟨(jT.add (i.toNat * 7)).block, (jT.add (i.toNat * 7)).off + 4, none⟩, .int .i64 k.f1.f3), (⟨(jT.add (i.toNat * 7)).block, (jT.add (i.toNat * 7)).off + 5, none⟩, .int .i64 k.f2), (⟨(jT.add (i.toNat * 7)).block, (jT.add (i.toNat * 7)).off + 6, none⟩, .slice ua k.f3.length uc), (ER, .int .i64 i)] w') ?_ ?_
    rotate_left
    ·intro kT
     refine Ei (i := 8) (j := 12) (Ni := some 38) (Nj := some 9) (bA 15 511) (bA 15 4351) rfl rfl rfl rfl (yf aj.out (by kernel_rfl)) (by decide) (by decide) (fun K hK => ?_) (fun K hK => ?_)
     ·skip
      refine ik Try.func102 (by kernel_rfl) rfl #[.agg #[.int .u8 k.f0, .int .i64 k.f1.f0, .int .i64 k.f1.f1, .int .i64 k.f1.f2, .int .i64 k.f1.f3, .int .i64 k.f2, .slice ua k.f3.length uc], .agg #[.int .u8 kk, .int .i64 kx, .int .i64 ky, .int .i64 kw, .int .i64 kh, .int .i64 kid, .slice Ak m.length AV], .slice A2 is.length c2] (by rfl) rfl rfl (by (try simp only [List.map_toArray, List.map_cons, List.map_nil]); first | done | rfl) ?_
      refine (Ju _ _ (fM (S.out.tree _ (.head _))) (fM (S.out.tree _ dR)) (Kd.gX HI2.out S.out.below)).mono ?_
      rintro e mP ⟨Fa, FN, rfl, h1, hb⟩
      refine ⟨_, rfl, ?_⟩
      replace S := ae.mk (S.out.res (Kd.qK (base' := 0) h1) hb)
      clear h1 hb
      refine hK.out _ _ S.out.dE (fun hHeld => ?_)
      clear hK K
      refine ed 38 ?_
      refine ay 9 29 (bA 15 1023) aj ?_
      refine ay 10 39 (bA 15 2047) aj ?_
      refine ay 11 40 (bA 15 4095) aj ?_
      refine jr (i := 12) (N := some 9) (bA 15 8191) rfl rfl (dF aj.out (by kernel_rfl)) (by decide) (fun K hK => ?_)
      refine jH ?hg (N := 9) ?hd (cs := #[.int .u8 0, .int .i64 0, .int .i64 0, .int .i64 0, .int .i64 0, .int .i64 0, .slice none 0 0]) (t := 26) ?hr ?_; (case hd => rfl); (case hg => rfl); (case hr => first | (go_simp; done) | (go_simp; rfl))
      intro b9 hg Bq hbox hb
      replace S := ae.mk (S.out.box hg hbox hb)
      clear hg hbox hb
      refine hK.out _ _ S.out.dQ.dE (fun hHeld => ?_)
      clear hK K
      refine ed 9 ?_
      exact mf (by simp only [iM, Act.put, List.setIfInBounds_toArray, List.set_cons_zero, List.set_cons_succ] <;> rfl) (kT (Fa, FN, b9) _ S.out)
     ·skip
      refine jH ?hg (N := 9) ?hd (cs := #[.int .u8 0, .int .i64 0, .int .i64 0, .int .i64 0, .int .i64 0, .int .i64 0, .slice none 0 0]) (t := 26) ?hr ?_; (case hd => rfl); (case hg => rfl); (case hr => first | (go_simp; done) | (go_simp; rfl))
      intro b9 hg yG hbox hb
      replace S := ae.mk (S.out.box hg hbox hb)
      clear hg hbox hb
      refine hK.out _ _ S.out.dQ (fun hHeld => ?_)
      clear hK K
      refine ed 9 ?_
      refine jr (i := 8) (N := some 38) (bA 15 4607) rfl rfl (dF aj.out (by kernel_rfl)) (by decide) (fun K hK => ?_)
      refine ik Try.func102 (by kernel_rfl) rfl #[.agg #[.int .u8 k.f0, .int .i64 k.f1.f0, .int .i64 k.f1.f1, .int .i64 k.f1.f2, .int .i64 k.f1.f3, .int .i64 k.f2, .slice ua k.f3.length uc], .agg #[.int .u8 kk, .int .i64 kx, .int .i64 ky, .int .i64 kw, .int .i64 kh, .int .i64 kid, .slice Ak m.length AV], .slice A2 is.length c2] (by rfl) rfl rfl (by (try simp only [List.map_toArray, List.map_cons, List.map_nil]); first | done | rfl) ?_
      refine (Ju _ _ (fM (S.out.tree _ (.head _))) (fM (S.out.tree _ dR)) (Kd.gX HI2.out S.out.below)).mono ?_
      rintro e zK ⟨Fa, FN, rfl, h1, hb⟩
      refine ⟨_, rfl, ?_⟩
      replace S := ae.mk (S.out.res (Kd.qK (base' := 0) h1) hb)
      clear h1 hb
      refine hK.out _ _ S.out.dQ.dE (fun hHeld => ?_)
      clear hK K
      refine ed 38 ?_
      refine ay 9 29 (bA 15 5119) aj ?_
      refine ay 10 39 (bA 15 6143) aj ?_
      refine ay 11 40 (bA 15 8191) aj ?_
      exact mf (by simp only [iM, Act.put, List.setIfInBounds_toArray, List.set_cons_zero, List.set_cons_succ] <;> rfl) (kT (Fa, FN, b9) _ S.out)
    rintro ⟨Fa, FN, b9⟩ wj9 S1
    simp only [iM, Act.put, List.setIfInBounds_toArray, List.set_cons_zero, List.set_cons_succ]
    replace S := ae.mk S1
    clear S1 hHeld
    have hHeld := S.out.dQ.dE
    refine ny (i := 13) (N := none) (bA 15 16383) rfl rfl (dF aj.out (by kernel_rfl)) (by decide) (fun K hK => ?_)
    refine oH 0 rfl 26 (.tmp 9) (.tmp 39) rfl #[.int .u8 z.f0, .int .i64 z.f1.f0, .int .i64 z.f1.f1, .int .i64 z.f1.f2, .int .i64 z.f1.f3, .int .i64 z.f2, .slice Fa z.f3.length FN] (j := 0) (u := .agg #[.int .u8 z.f0, .int .i64 z.f1.f0, .int .i64 z.f1.f1, .int .i64 z.f1.f2, .int .i64 z.f1.f3, .int .i64 z.f2, .slice Fa z.f3.length FN]) (bK := [.int .u8 z.f0, .int .i64 z.f1.f0, .int .i64 z.f1.f1, .int .i64 z.f1.f2, .int .i64 z.f1.f3, .int .i64 z.f2, .slice Fa z.f3.length FN]) S.out (by rfl) rfl rfl rfl rfl (by kernel_rfl) (by simp [Value.oneCell']) (by first | decide | simp) rfl ?_
    intro Aw S1
    simp only [List.set_cons_zero, List.set_cons_succ] at S1
    replace S := ae.mk S1
    clear S1
    refine hK.out _ _ ?_
    clear hK K
    refine ay 14 10 (bA 15 32767) aj ?_
    refine jK (gQ aj.out (by kernel_rfl)) ?_
    clear hHeld
    obtain ⟨a_, aW, aY, aX, bM, bP, bC⟩ := St.eF S lG
    go_wp2_with (first
     | (refine iG (some 45) Try.func151 (FI 1000000 ⟨ck, ⟨cx, cy, cw, ch⟩, aU, l⟩ HZ.out (Nat.le_refl _) _ (some jT) cc _ (fM (S.out.tree _ dR))) ?_; rintro e Oo ⟨v, rfl, h1, hb⟩; refine ⟨_, rfl, ?_⟩; obtain ⟨g45, XT, ev, _⟩ := Kd.xJ h1 (by have := H1Z.out; have := H0Z.out; simp only []; omega); subst ev; replace S := ae.mk (S.out.yB h1 hb); clear h1 hb; clear a_ aW aY aX bM bP bC)
     | (refine W9 26 3 45 #[.int .u8 ck, .int .i64 cx, .int .i64 cy, .int .i64 cw, .int .i64 ch, .int .i64 aU, .slice (some ⟨g45, 0, none⟩) l.length XT] 0 7 S ?_; clear S; intro aeu S; obtain ⟨l_, qx, mZ, qy, vY, vZ, sZ⟩ := St.eF S (.head _); have bC := (S.out.at lG 6).trans rfl)
     | ((with_reducible refine lH (.store 26 (.tmp 50) (.tmp 49)) rfl ?_); go_loud (refine aei i z (.tmp 50) (.tmp 49) rfl S.out H0Z.out H1Z.out ?sA ?sX (by kernel_rfl) (.head _) rfl rfl ?_; (case sA => first | rfl | (go_simp; rfl)); (case sX => rfl); intro aev S1; replace S := ae.mk S1; clear S1); clear l_ qx mZ qy vY vZ sZ bC; obtain ⟨a_, aW, aY, aX, bM, bP, bC⟩ := St.eF S lG)
     | (refine Ai 26 6 51 #[.int .u8 ck, .int .i64 cx, .int .i64 cy, .int .i64 cw, .int .i64 ch, .int .i64 aU, .slice (some ⟨g45, 0, none⟩) l.length XT] 0 7 S ?_; clear S; intro aew S; clear a_ aW aY aX bM bP bC)
     | fail)
    refine bodyPost_ret (fC rfl _ _ b6 26 _ (0, 0) _ rfl (S.out.blk _ bI _ rfl) Try.underlying26 rfl (by kernel_rfl)) rfl ?_
    simp only [Vo, List.length_set]
    exact ⟨_, _, rfl, S.out.yz, S.out.below⟩
def aaQ.T5 : Bool × List (List Nat × List Nat) := (true, [([], []), ([0], [0]), ([], []), ([2], [2]), ([3], [3]), ([1, 4], [1, 4]), ([5], [5]), ([], []), ([], []), ([8], [8]), ([6, 7, 9], [6, 7, 9]), ([10], [10]), ([11], [11]), ([11], [11]), ([], []), ([14, 12, 10, 0, 1, 2, 3, 4, 5, 6, 7, 8, 9, 10, 11, 12, 14], [12, 14]), ([13, 15, 0, 1, 2, 3, 4, 5, 6, 7, 8, 9, 10, 11, 12, 13, 14, 15], [13])])
def aaQ.B5 : List Nat := [0, 1, 0, 4, 12, 31, 63, 0, 0, 256, 1023, 2047, 4095, 4095, 0, 24575, 65535]
def aaR.T9 : Bool × List (List Nat × List Nat) := (true, [([], []), ([], []), ([1], [1]), ([2], [2]), ([], []), ([0, 3, 0, 1, 2, 3, 4], [0, 3]), ([5, 4, 0, 1, 2, 3, 4], [4, 5])])
def aaR.B9 : List Nat := [0, 0, 2, 6, 0, 31, 63]
section
variable {W : World} {b b' : Nat} {P : Nat → Prop} {A A' B : Option Addr} {cc cc' cb : Nat}
theorem X9 (c kid : ai) (path : List Int) (z : ai) (hz : xe kid path c = some z) (hc : sz c ≤ 1000000) (hk : sz kid ≤ 1000000) (hV : Kd.V k26 26 W b P (.slice A c.f3.length cc) c.f3) (hV' : Kd.V k26 26 W b' P (.slice A' kid.f3.length cc') kid.f3) (hi : Kd.C (Kd.int .i64) W B path.length path) (hb : path.length ≤ cb) :
  Calls Try.prog 102 #[.agg #[.int .u8 c.f0, .int .i64 c.f1.f0, .int .i64 c.f1.f1, .int .i64 c.f1.f2, .int .i64 c.f1.f3, .int .i64 c.f2, .slice A c.f3.length cc], .agg #[.int .u8 kid.f0, .int .i64 kid.f1.f0, .int .i64 kid.f1.f1, .int .i64 kid.f1.f2, .int .i64 kid.f1.f3, .int .i64 kid.f2, .slice A' kid.f3.length cc'], .slice B path.length cb] W fun e w' => ∃ A2 c2, e = .returned (.tuple #[.agg #[.int .u8 z.f0, .int .i64 z.f1.f0, .int .i64 z.f1.f1, .int .i64 z.f1.f2, .int .i64 z.f1.f3, .int .i64 z.f2, .slice A2 z.f3.length c2], .bool true]) ∧ Kd.N k26 26 w' W.heap.size (fun k => P k ∨ W.heap.size ≤ k) (.slice A2 z.f3.length c2) z.f3 ∧ Below W.heap.size W w' := by
 have h := aaA path c kid P A cc A' cc' B cb W hc hk (fM hV) (fM hV') hi hb (by rw [hz]; simp)
 rw [hz] at h
 exact h
theorem SV (id : Int) (c : ai) (r : Option (List Int)) (h : fP id c = r) (hc : sz c ≤ 1000000) (hV : Kd.V k26 26 W b P (.slice A c.f3.length cc) c.f3) :
  Calls Try.prog 89 #[.agg #[.int .u8 c.f0, .int .i64 c.f1.f0, .int .i64 c.f1.f1, .int .i64 c.f1.f2, .int .i64 c.f1.f3, .int .i64 c.f2, .slice A c.f3.length cc], .int .i64 id] W (yK W (r.getD []) r.isSome) := by
 have h2 := Kd.kQ hV
 refine (acT id 1000000 c hc (Nat.le_refl _) A cc W h2.2.2 h2.2.1).mono (fun e w' ⟨v, he, hR, hB⟩ => ?_)
 rw [h] at he hR
 obtain ⟨A2, c2, rfl⟩ := Kd.gK hR
 exact ⟨A2, c2, he, hR, hB⟩
theorem Jz (id : Int) (c : ai) (p : List Int) (h : fP id c = some p) (hc : sz c ≤ 1000000) (hV : Kd.V k26 26 W b P (.slice A c.f3.length cc) c.f3) :
  Calls Try.prog 89 #[.agg #[.int .u8 c.f0, .int .i64 c.f1.f0, .int .i64 c.f1.f1, .int .i64 c.f1.f2, .int .i64 c.f1.f3, .int .i64 c.f2, .slice A c.f3.length cc], .int .i64 id] W (yK W p true) := SV id c (some p) h hc hV
theorem YP (id : Int) (c : ai) (h : fP id c = none) (hc : sz c ≤ 1000000) (hV : Kd.V k26 26 W b P (.slice A c.f3.length cc) c.f3) :
  Calls Try.prog 89 #[.agg #[.int .u8 c.f0, .int .i64 c.f1.f0, .int .i64 c.f1.f1, .int .i64 c.f1.f2, .int .i64 c.f1.f3, .int .i64 c.f2, .slice A c.f3.length cc], .int .i64 id] W (yK W [] false) := SV id c none h hc hV
theorem PL (id : Int) (c : ai) (r : Option (List Int)) (h : fP id c = r) (hc : sz c ≤ 1000000) (hV : Kd.V k26 26 W b P (.slice A c.f3.length cc) c.f3) :
  Calls Try.prog 90 #[.agg #[.int .u8 c.f0, .int .i64 c.f1.f0, .int .i64 c.f1.f1, .int .i64 c.f1.f2, .int .i64 c.f1.f3, .int .i64 c.f2, .slice A c.f3.length cc], .int .i64 id] W (yK W (r.getD []) r.isSome) := by
 have h2 := aaG id 1000000 c hc (Nat.le_refl _) b P A cc W hV
 rwa [h] at h2
theorem Hw (id : Int) (c : ai) (p : List Int) (h : fP id c = some p) (hc : sz c ≤ 1000000) (hV : Kd.V k26 26 W b P (.slice A c.f3.length cc) c.f3) :
  Calls Try.prog 90 #[.agg #[.int .u8 c.f0, .int .i64 c.f1.f0, .int .i64 c.f1.f1, .int .i64 c.f1.f2, .int .i64 c.f1.f3, .int .i64 c.f2, .slice A c.f3.length cc], .int .i64 id] W (yK W p true) := PL id c (some p) h hc hV
theorem Xf (id : Int) (c : ai) (h : fP id c = none) (hc : sz c ≤ 1000000) (hV : Kd.V k26 26 W b P (.slice A c.f3.length cc) c.f3) :
  Calls Try.prog 90 #[.agg #[.int .u8 c.f0, .int .i64 c.f1.f0, .int .i64 c.f1.f1, .int .i64 c.f1.f2, .int .i64 c.f1.f3, .int .i64 c.f2, .slice A c.f3.length cc], .int .i64 id] W (yK W [] false) := PL id c none h hc hV
end
theorem aec {kid x : ai} : ∀ (path : List Int) (c : ai), ou c path = some x → ∃ z, xe kid path c = some z := by
 intro path
 induction path with
 | nil => intro c _; exact ⟨kid, rfl⟩
 | cons i is ih =>
  intro c h
  simp only [ou] at h
  split at h
  ·cases h
  ·rename_i hi
   obtain ⟨z, hz⟩ := ih _ h
   refine ⟨⟨c.f0, c.f1, c.f2, c.f3.set i.toNat z⟩, ?_⟩
   simp only [xe]
   rw [if_neg hi, hz]
section
variable {Pr : Program} {ops : Array Oper} {rest : List Oper} {op : Oper} {a : Act} {Q : Exit → Act → World → Prop} {w W : World} {P : Nat → Prop} {bs : List (Option Nat × Obj)} {ow : List (Value × List ai)} {ts : List (Value × List ai)} {ro : List (Addr × Value)}
theorem EC (N : Option Tmp) {f : FuncId} {fn : Func} (hf : Pr.funcs[f]? = some fn) {ar : Array Operand} {Ej : Array TypeId} {args : Array Value} {l : List Int} {F : Option Addr → Nat → Value} (S : ae (St w P bs ow ts ro W))
  (hc : Calls Pr f args W fun e w' => ∃ A c, e = .returned (F A c) ∧ (Kd.int .i64).R 3 w' W.heap.size (fun _ => True) (.slice A l.length c) l ∧ Below W.heap.size W w')
  (h : ∀ A c o w1, ae (St w P (((Value.slice A l.length c).ownBlock, o) :: bs) ow ts ro w1) → ae (IR w.heap.size (.slice A l.length c) l o) → wpList Pr ops Q rest (a.put N (F A c)) w1) (hd : op.dst = N := by rfl) (hg : op.guard = none := by rfl) (hop : op.op = .call { callee := .value (.func f), args := ar, argTypes := Ej } := by rfl)
  (hname : (fn.name == "runtime.NumGoroutine") = false := by kernel_rfl) (hb : fn.body.isSome = true := by rfl) (hargs : ar.map a.eval = args := by ((try simp only [List.map_toArray, List.map_cons, List.map_nil]); first | done | rfl)) : wpList Pr ops Q (op :: rest) a W :=
 mM N hd hg hf hname hb args hop hargs (hc.mono fun e w1 ⟨A, c, he, h1, hb⟩ => by
  obtain ⟨o, S1, HI⟩ := S.out.Xe h1 hb
  exact ⟨_, he, h A c o w1 ⟨S1⟩ ⟨HI⟩⟩)
end
section
variable {base : Nat} {W : World} {A : Option Addr} {c : Nat} {l : List Int} {o : Obj} {w : World} {P : Nat → Prop} {bs : List (Option Nat × Obj)} {ow : List (Value × List ai)} {ts : List (Value × List ai)} {ro : List (Addr × Value)}
theorem Fh (HI : IR base (.slice A l.length c) l o) (S : St w P bs ow ts ro W) (hm : ((Value.slice A l.length c).ownBlock, o) ∈ bs) : Kd.C (Kd.int .i64) W A l.length l ∧ l.length ≤ c :=
 have h := Kd.dP (HI W (S.blk _ hm))
 ⟨h.2.2, h.2.1⟩
theorem eU {q : List Int} {m : Nat} (HI : IR base (.slice A l.length c) l o) (S : St w P bs ow ts ro W) (hm : ((Value.slice A l.length c).ownBlock, o) ∈ bs) (hq : q = l.take m ∧ m ≤ l.length) : Kd.C (Kd.int .i64) W A q.length q ∧ q.length ≤ c := by
 obtain ⟨h1, h2⟩ := Fh HI S hm
 rw [hq.1]
 exact ⟨Kd.abl h1 hq.2, by rw [List.length_take]; omega⟩
end
section
end
theorem St.join {w W W1 : World} {P : Nat → Prop} {bs : List (Option Nat × Obj)} {ts : List (Value × List ai)} {ro : List (Addr × Value)} {k : Option Nat} {o : Obj} {v : Value} {l : List ai} (S : St w P bs [] ts ro W) (T : St W (Ok w P (keys bs [])) [(k, o)] [(v, l)] [] [] W1) : St w P ((k, o) :: bs) [(v, l)] ts ro W1 := by
 have ke : ∀ x, x ∈ keys ((k, o) :: bs) [(v, l)] ↔ x ∈ keys [(k, o)] [(v, l)] ∨ x ∈ keys bs [] := fun x => by
  unfold keys
  simp only [List.filterMap_cons, List.filterMap_nil, List.flatMap_cons, List.flatMap_nil, List.append_nil]
  cases k <;> cases v.ownBlock <;> simp [or_comm, or_assoc]
 have hb : Below W.heap.size W W1 := T.below
 have hold : ∀ x, x ∈ keys bs [] → x < W.heap.size := fun x hx => S.lt hx
 have hnew : ∀ x, x ∈ keys [(k, o)] [(v, l)] → W.heap.size ≤ x := fun x hx => (T.new x hx).1
 refine ⟨ak S.below hb, fun p hp g hg => ?_, fun x hx => ?_, ?_, fun t ht => ?_, fun r hr => ?_, fun c hc => ?_⟩
 ·rcases List.mem_cons.1 hp with rfl | hp
  ·exact T.blk _ List.mem_cons_self g hg
  ·exact aJ (S.blk p hp g hg) hb
 ·rcases (ke x).1 hx with h | h
  ·exact ⟨Nat.le_trans S.below.size (hnew x h), (T.new x h).2⟩
  ·exact ⟨(S.new x h).1, Nat.lt_of_lt_of_le (S.new x h).2 hb.size⟩
 ·have h1 := T.nd
  have h2 := S.nd
  have e : keys ((k, o) :: bs) [(v, l)] = (k.toList ++ bs.filterMap (·.1)) ++ v.ownBlock.toList := by
   unfold keys
   simp only [List.filterMap_cons, List.flatMap_cons, List.flatMap_nil, List.append_nil]
   cases k <;> cases v.ownBlock <;> rfl
  have e1 : keys [(k, o)] [(v, l)] = k.toList ++ v.ownBlock.toList := by
   unfold keys
   simp only [List.filterMap_cons, List.filterMap_nil, List.flatMap_cons, List.flatMap_nil, List.append_nil]
   cases k <;> cases v.ownBlock <;> rfl
  have e2 : keys bs [] = bs.filterMap (·.1) := by unfold keys; simp
  rw [e1] at h1 hnew
  rw [e2] at h2 hold
  rw [e]
  obtain ⟨a1, a2, a3⟩ := List.nodup_append.1 h1
  refine List.nodup_append.2 ⟨List.nodup_append.2 ⟨a1, h2, fun x hx y hy => ?_⟩, a2, fun x hx y hy => ?_⟩
  ·rintro rfl
   have := hold x hy
   have := hnew x (List.mem_append_left _ hx)
   omega
  ·rcases List.mem_append.1 hx with hx | hx
   ·exact a3 x hx y hy
   ·rintro rfl
    have := hold x hx
    have := hnew x (List.mem_append_right _ hy)
    omega
 ·exact Kd.gy (Kd.jc (Kd.Et (S.tree t ht)) hb) (fun x h => ⟨h.1.1, fun hk => by
   rcases (ke x).1 hk with h2 | h2
   ·have := hnew x h2; have := h.2; omega
   ·exact h.1.2 h2⟩)
 ·rw [List.mem_singleton] at hr
  subst hr
  refine Kd.iI (Kd.uZ (T.own _ (List.mem_singleton.2 rfl)) S.below.size) (fun x h => Or.imp (fun h => ⟨?_, fun hk => ?_⟩) id h)
  ·rcases h.1 with h1 | h1
   ·exact h1.1
   ·exact .inr (Nat.le_trans S.below.size h1)
  ·rcases (ke x).1 hk with h2 | h2
   ·exact h.2 h2
   ·rcases h.1 with h1 | h1
    ·exact h1.2 h2
    ·have := hold x h2; omega
 ·have hlt := World.block_lt_of_cell? W _ (S.cell c hc).1
  exact ⟨(hb.cell hlt).trans (S.cell c hc).1, fun hk => by
   rcases (ke _).1 hk with h2 | h2
   ·have := hnew _ h2; omega
   ·exact (S.cell c hc).2 h2⟩
end Go.Proofs.Ytfdmfgaiblfbhaa.P
namespace Go.Proofs.Ytfdmfgaiblfbhaa.Pure
open Go.RowKit Go.Proofs.Ytfdmfgaiblfbhaa.P Go.Proofs.ag.aK Go.Proofs.ag.bG Go.Proofs.ag.bU
theorem JY : ∀ (a b : List ai), eG (a ++ b) = true → eG b = true := by
 intro a
 induction a with
 | nil => intro b h; exact h
 | cons x xs ih =>
  intro b h
  rw [List.cons_append] at h
  simp only [eG, Bool.and_eq_true] at h
  exact ih b h.2
theorem JZ (a b : List ai) (h : eG (a ++ b) = true) : eG a = true := by
 cases ha : eG a with
 | true => rfl
 | false => rw [yx a b ha] at h; cases h
theorem aav {c x : ai} (h : kV c = true) (hx : x ∈ c.f3) : kV x = true := by
 have hs := nC h
 have hok := o5 h
 have h1 := HY hx
 have h2 := cO c
 have hd : eG (lU c) = true := by
  unfold kV at h
  simp only [Bool.and_eq_true] at h
  exact h.2.2
 unfold kV
 rw [decide_eq_true (by omega), I4 hok hx, Bool.true_and, Bool.true_and]
 obtain ⟨p, q, e⟩ := List.append_of_mem hx
 have e2 : fH c = (c :: allL p) ++ (fH x ++ allL q) := by rw [pW, e, BG, lF]; rfl
 unfold lU at hd ⊢
 rw [e2, List.filter_append, List.filter_append] at hd
 exact JZ _ _ (JY _ _ hd)
theorem yc {c x : ai} (h : di c = true) (hx : x ∈ c.f3) : di x = true := by
 have hm := kJ h
 unfold di at h ⊢
 simp only [Bool.and_eq_true] at h
 rw [aav hm hx, Aj h.2 hx]
 rfl
theorem iV {ax : Int} (hax : ax = 1 ∨ ax = 2) {c : ai} (h : di c = true) : az ax c = aV ax c.f1 - b_ ax c ∧ 0 ≤ aV ax c.f1 - b_ ax c ∧ 1 ≤ b_ ax c ∧ aV ax c.f1 ≤ 10000 := by
 have hm := kJ h
 have hB : kH c = true := by
  unfold di at h
  simp only [Bool.and_eq_true] at h
  exact h.2
 have f := BU hax (sz c) c (Nat.le_refl _) (nC hm) (o5 hm)
 have g := f.2 hB
 have r := nD (tK (nH (o5 hm))) hax
 unfold az
 rw [if_pos ⟨hax, h⟩, wq (by omega) (by omega)]
 omega
end Go.Proofs.Ytfdmfgaiblfbhaa.Pure
namespace Go.Proofs.Ytfdmfgaiblfbhaa.P
open Go.RowKit Go.Proofs.ag.aK Go.Proofs.ag.bG Go.Proofs.ag.bU
theorem JU {c : ai} (hk : c.f0 = 2 ∨ c.f0 = 3) : jg c = c.f3.map (fun k => aV (c.f0 - 1) k.f1) := by
 unfold jg
 apply List.map_congr_left
 intro k _
 unfold szK qo aV
 rcases hk with h | h
 ·rw [if_pos h, if_pos (by omega)]
 ·rw [if_neg (by omega), if_neg (by omega), if_pos (by omega)]
theorem PT {a : Int} (ha : a = 2 ∨ a = 3) (r : dD) : tX (a - 1) r.f2 r.f3 = aV (a - 1) r ∧ tX (a - 1) r.f3 r.f2 = aV (4 - a) r := by
 rcases ha with h | h <;> simp [tX, aV, h]
theorem YL (c : ai) (hk : c.f0 = 2 ∨ c.f0 = 3) (hm : jV c.f1 = true) (hl : c.f3.length ≤ 20000) (hne : 0 < c.f3.length) (hs : (c.f3.map (fun k => aV (c.f0 - 1) k.f1)).sum + (c.f3.length : Int) - 1 = aV (c.f0 - 1) c.f1) (hp : ∀ k, k ∈ c.f3 → 1 ≤ aV (c.f0 - 1) k.f1) : (yw c).2.2 = true := by
 have ha : yF c.f0 = c.f0 - 1 := by unfold yF; omega
 have hax : yF c.f0 = 1 ∨ yF c.f0 = 2 := by omega
 have hlen : (jg c).length = c.f3.length := by simp [jg]
 have hm' : pF c.f1.f0 c.f1.f1 c.f1.f2 c.f1.f3 = true := hm
 have hsz := JU hk
 exact YJ hax hm' (fun e => by rw [e] at hlen; simp at hlen; omega) (by rw [hlen, hsz, ha, (PT hk c.f1).1]; omega) (fun m hm => by
  rw [hsz] at hm
  obtain ⟨k, hk2, rfl⟩ := List.mem_map.1 hm
  exact hp k hk2)
theorem UU (a X Y W H : Int) (ha : a = 2 ∨ a = 3) (hX : 0 ≤ X ∧ X ≤ 10000) (hY : 0 ≤ Y ∧ Y ≤ 10000) : ∀ (l : List ai) (off : Int), 0 ≤ off → off + (l.map (fun k => aV (a - 1) k.f1)).sum + (l.length : Int) ≤ 1000000 →
  (∀ k, k ∈ l → 1 ≤ aV (a - 1) k.f1 ∧ aV (4 - a) k.f1 = tX (a - 1) H W) →
  sD (fun k r => rG k.f1 r) (jv a l (if a = 2 then X + off else X) (if a = 2 then Y else Y + off)) (yu (a - 1) X Y W H off (l.map (fun k => aV (a - 1) k.f1))) = true := by
 intro l
 induction l with
 | nil => intro off _ _ _; rw [lX]; rfl
 | cons k ks ih =>
  intro off h0 hs hk
  have h1 := hk k (by simp)
  have hp := I8 (ks.map (fun k => aV (a - 1) k.f1)) (fun m hm => by
   obtain ⟨q, hq, rfl⟩ := List.mem_map.1 hm
   exact (hk q (by simp [hq])).1)
  rw [List.length_map] at hp
  rw [List.map_cons, List.sum_cons, List.length_cons] at hs
  have e := ih (off + aV (a - 1) k.f1 + 1) (by omega) (by omega) (fun q hq => hk q (by simp [hq]))
  have hb : off + aV (a - 1) k.f1 ≤ 1000000 := by omega
  rw [nG, List.map_cons]
  simp only [yu, sD, Bool.and_eq_true]
  rcases ha with rfl | rfl
  ·have hx : zH 2 k (X + off) = X + (off + aV (2 - 1) k.f1 + 1) := by
    simp only [zH, aV] at h1 hb ⊢
    simp at h1 hb ⊢
    rw [wp (x := k.f1.f2 + 1) (by omega) (by omega), wp (by omega) (by omega)]
    omega
   refine ⟨D9.2 ?_, ?_⟩
   ·rw [lD]
    simp [tX, aV] at h1 ⊢
    exact h1.2
   ·simp only [if_true] at e ⊢
    rw [hx]
    exact e
  ·have hy : zI 3 k (Y + off) = Y + (off + aV (3 - 1) k.f1 + 1) := by
    simp only [zI, aV] at h1 hb ⊢
    simp at h1 hb ⊢
    rw [wp (x := k.f1.f3 + 1) (by omega) (by omega), wp (by omega) (by omega)]
    omega
   refine ⟨D9.2 ?_, ?_⟩
   ·rw [lD]
    simp [tX, aV] at h1 ⊢
    exact h1.2
   ·simp only [show ¬ ((3 : Int) = 2) by decide, if_false] at e ⊢
    rw [hy]
    exact e
theorem aej (a : Int) (r : dD) (ha : a = 2 ∨ a = 3) (hr : jV r = true) : ∀ (l : List ai) (off : Int), 0 ≤ off → off + (l.map (fun k => aV (a - 1) k.f1)).sum + (l.length : Int) - 1 ≤ aV (a - 1) r →
  (∀ k, k ∈ l → 1 ≤ aV (a - 1) k.f1 ∧ aV (4 - a) k.f1 = aV (4 - a) r) →
  ∀ z, z ∈ jv a l (if a = 2 then r.f0 + off else r.f0) (if a = 2 then r.f1 else r.f1 + off) → ∃ k, k ∈ l ∧ ∃ x y, z = dA k x y ∧ jV ⟨x, y, k.f1.f2, k.f1.f3⟩ = true := by
 have hm := vC.1 hr
 intro l
 induction l with
 | nil => intro off _ _ _ z hz; rw [lX] at hz; cases hz
 | cons k ks ih =>
  intro off h0 hs hk z hz
  have h1 := hk k (by simp)
  have hp := I8 (ks.map (fun k => aV (a - 1) k.f1)) (fun m hm => by
   obtain ⟨q, hq, rfl⟩ := List.mem_map.1 hm
   exact (hk q (by simp [hq])).1)
  rw [List.length_map] at hp
  rw [List.map_cons, List.sum_cons, List.length_cons] at hs
  have hb : off + aV (a - 1) k.f1 ≤ aV (a - 1) r := by omega
  rw [nG] at hz
  rcases List.mem_cons.1 hz with rfl | hz
  ·refine ⟨k, by simp, _, _, rfl, vC.2 ?_⟩
   rcases ha with rfl | rfl
   ·simp [aV] at h1 hb hm ⊢
    omega
   ·simp [aV] at h1 hb hm ⊢
    omega
  ·have e : ∃ q, q ∈ ks ∧ ∃ x y, z = dA q x y ∧ jV ⟨x, y, q.f1.f2, q.f1.f3⟩ = true := by
    refine ih (off + aV (a - 1) k.f1 + 1) (by omega) (by omega) (fun q hq => hk q (by simp [hq])) z ?_
    rcases ha with rfl | rfl
    ·have hx : zH 2 k (r.f0 + off) = r.f0 + (off + aV (2 - 1) k.f1 + 1) := by
      simp [zH, aV] at h1 hb hm ⊢
      rw [wp (x := k.f1.f2 + 1) (by omega) (by omega), wp (by omega) (by omega)]
      omega
     simp only [if_true] at hz ⊢
     rw [hx] at hz
     exact hz
    ·have hy : zI 3 k (r.f1 + off) = r.f1 + (off + aV (3 - 1) k.f1 + 1) := by
      simp [zI, aV] at h1 hb hm ⊢
      rw [wp (x := k.f1.f3 + 1) (by omega) (by omega), wp (by omega) (by omega)]
      omega
     simp only [show ¬ ((3 : Int) = 2) by decide, if_false] at hz ⊢
     rw [hy] at hz
     exact hz
   obtain ⟨q, hq, e⟩ := e
   exact ⟨q, by simp [hq], e⟩
def xn (c : ai) : Prop := (fH c).all mg = true ∧ kH c = true
theorem FP {c : ai} (h1 : mg c = true) (h2 : mF c = true) (hk : ∀ k, k ∈ c.f3 → xn k) : xn c := by
 refine ⟨?_, ?_⟩
 ·rw [pW, List.all_cons, h1, Bool.true_and]
  have : ∀ l : List ai, (∀ k, k ∈ l → xn k) → (allL l).all mg = true := by
   intro l
   induction l with
   | nil => intro _; rw [pz]; rfl
   | cons x xs ih => intro h; rw [lF, List.all_append, (h x (by simp)).1, ih (fun k hk => h k (by simp [hk]))]; rfl
  exact this c.f3 hk
 ·rw [sU, h2, Bool.true_and]
  exact List.all_eq_true.2 fun k hk2 => (hk k hk2).2
theorem JL (a : Int) (r : dD) (l : List ai) (ha : a = 2 ∨ a = 3) (hr : jV r = true) (hl : 2 ≤ l.length) (hl2 : l.length ≤ 20000) (hs : (l.map (fun k => aV (a - 1) k.f1)).sum + (l.length : Int) - 1 = aV (a - 1) r)
  (hk : ∀ k, k ∈ l → 1 ≤ aV (a - 1) k.f1 ∧ aV (4 - a) k.f1 = aV (4 - a) r) (hg : ∀ k, k ∈ l → ∀ x y, jV ⟨x, y, k.f1.f2, k.f1.f3⟩ = true → xn (dA k x y)) : xn ⟨a, r, 0, jv a l r.f0 r.f1⟩ := by
 have hm := vC.1 hr
 have hsz : ∀ (l : List ai) (x y : Int) (f : ai → Int), (∀ k x y, f (dA k x y) = f k) → (jv a l x y).map f = l.map f := by
  intro l
  induction l with
  | nil => intro x y f _; rw [lX]
  | cons k ks ih => intro x y f hf; rw [nG, List.map_cons, List.map_cons, ih _ _ f hf, hf]
 have hin := aej a r ha hr l 0 (by omega) (by omega) hk
 have adR := UU a r.f0 r.f1 r.f2 r.f3 ha (by omega) (by omega) l 0 (by omega) (by have := nD hr (ax := a - 1) (by omega); omega) (fun k h => by rw [(PT ha r).2]; exact hk k h)
 have hxy : (if a = 2 then r.f0 + 0 else r.f0) = r.f0 ∧ (if a = 2 then r.f1 else r.f1 + 0) = r.f1 := by constructor <;> split <;> omega
 rw [hxy.1, hxy.2] at hin adR
 have hmap : ∀ l x y, (jv a l x y).map (fun k => aV (a - 1) k.f1) = l.map (fun k => aV (a - 1) k.f1) := fun l x y => hsz l x y _ (fun k x y => by rw [lD]; rfl)
 refine FP ?_ ?_ (fun z hz => ?_)
 ·unfold mg
  simp only [hr, sQ, Bool.true_and]
  rw [decide_eq_true (show 1 ≤ a ∧ a ≤ 3 by omega), decide_eq_true (show a = 1 → l.length = 0 ∧ (0 : Int) ≤ 0 ∧ (0 : Int) ≤ 2147483647 from fun h => by omega), decide_eq_true (show a > 1 → 2 ≤ l.length ∧ True from fun _ => ⟨hl, trivial⟩)]
  rfl
 ·have ht : (yw ⟨a, r, 0, jv a l r.f0 r.f1⟩).2.2 = true := YL _ ha hr (by rw [sQ]; exact hl2) (by rw [sQ]; omega) (by simp only []; rw [hmap, sQ]; exact hs) (fun k hk2 => by
   obtain ⟨q, hq, x, y, rfl, _⟩ := hin k hk2
   rw [lD]
   exact (hk q hq).1)
  obtain ⟨_, gp, _, _⟩ := Dn ht
  rw [JU (c := ⟨a, r, 0, jv a l r.f0 r.f1⟩) ha] at gp
  simp only [] at gp
  rw [hmap, show yF a = a - 1 by unfold yF; omega] at gp
  unfold mF BZ
  rw [ht, gp, adR]
  simp only [Bool.true_and, Bool.and_true, Bool.or_eq_true]
  right
  have : ∀ (ns : List Int) (off : Int), (yu (a - 1) r.f0 r.f1 r.f2 r.f3 off ns).length = ns.length := fun ns off => ML _ _ _ _ _ ns off
  rw [this, List.length_map, sQ]
  simp
 ·obtain ⟨q, hq, x, y, rfl, hm2⟩ := hin z hz
  exact hg q hq x y hm2
theorem Eh (l : List Int) : total l = l.sum := by
 induction l with
 | nil => rfl
 | cons x xs ih => simp only [total, List.sum_cons, ih]
theorem ael {b : Int} {gs : List Int} (hl : gs.length ≤ 100000) (h0 : -2147483647 ≤ b) (h1 : b ≤ 2147483647) (hg : ∀ g, g ∈ gs → 0 ≤ g ∧ g ≤ 2147483647) (hne : gs ≠ []) (hb : -gs.sum ≤ b) :
  (qP b gs).2 = true ∧ (qP b gs).1.length = gs.length ∧ (qP b gs).1.sum = b ∧ ∀ p, p ∈ gs.zip (qP b gs).1 → -p.1 ≤ p.2 := by
 rcases (Ec b gs hl h0 h1).1 with ⟨e, h⟩ | ⟨e, _, _, hb0⟩ | ⟨qs, e, _, _, hq, hgd, _, ho, _⟩
 ·exfalso
  rw [Eh] at h
  rcases h with h | h | h
  ·exact hne h
  ·exact h hg
  ·omega
 ·rw [e]
  refine ⟨rfl, sH _ _, ?_, ?_⟩
  ·rw [← Eh]
   exact OD b gs.length hb0 (List.length_pos_iff.2 hne)
  ·intro p hp
   obtain ⟨a1, a2⟩ := List.of_mem_zip hp
   have h2 := hg _ a1
   simp only [moreL, List.mem_map, List.mem_range] at a2
   obtain ⟨i, _, e2⟩ := a2
   have hn : (0 : Int) < (gs.length : Int) := by have := List.length_pos_iff.2 hne; omega
   have hd : 0 ≤ b / (gs.length : Int) := Int.ediv_nonneg hb0 (by omega)
   unfold qN at e2
   split at e2 <;> omega
 ·rw [e]
  refine ⟨rfl, by rw [← hq]; simp, by rw [← Eh, ← QS]; exact ho, fun p hp => ?_⟩
  simp only [] at hp
  rw [← hq, List.zip_map'] at hp
  obtain ⟨q, hq2, rfl⟩ := List.mem_map.1 hp
  exact (hgd q hq2).2.2.1
theorem LQ (ax : Int) : ∀ (l : List ai) (ss : List Int) (ns : Nat → Int) (i : Nat), ss.length = l.length → (∀ j, j < l.length → ns (i + j) = ss.getD j 0) → kR ax l ns i = (l.zip ss).map fun p => fF ax p.1 p.2 := by
 intro l
 induction l with
 | nil => intro ss ns i _ _; rw [rW]; rfl
 | cons k ks ih =>
  intro ss ns i hl hn
  cases ss with
  | nil => simp at hl
  | cons s ss =>
   have h0 := hn 0 (by simp)
   rw [Nat.add_zero] at h0
   rw [u_, List.zip_cons_cons, List.map_cons, h0, ih ss ns (i + 1) (by simpa using hl) (fun j hj => by
    have := hn (j + 1) (by simpa using hj)
    rw [show i + 1 + j = i + (j + 1) by omega, this]
    rfl)]
   rfl
theorem P5 (f : ai → Int) : ∀ (l : List ai) (ss : List Int), ss.length = l.length → ((l.zip ss).map fun p => f p.1 + p.2).sum = (l.map f).sum + ss.sum := by
 intro l
 induction l with
 | nil => intro ss h; cases ss with
  | nil => rfl
  | cons s ss => simp at h
 | cons k ks ih =>
  intro ss h
  cases ss with
  | nil => simp at h
  | cons s ss =>
   rw [List.zip_cons_cons, List.map_cons, List.map_cons, List.sum_cons, List.sum_cons, List.sum_cons, ih ss (by simpa using h)]
   show f k + s + _ = _
   omega
theorem zip_fst (f : ai → Int) : ∀ (l : List ai) (ss : List Int), ss.length = l.length → ((l.zip ss).map fun p => f p.1) = l.map f := by
 intro l
 induction l with
 | nil => intro ss h; rfl
 | cons k ks ih =>
  intro ss h
  cases ss with
  | nil => simp at h
  | cons s ss => rw [List.zip_cons_cons, List.map_cons, List.map_cons, ih ss (by simpa using h)]
theorem Du {ax : Int} (hax : ax = 1 ∨ ax = 2) {r : dD} {b : Int} (h0 : 0 ≤ aV ax r + b) (h1 : aV ax r + b ≤ 100000) : aV ax (grow ax b r) = aV ax r + b ∧ aV (3 - ax) (grow ax b r) = aV (3 - ax) r := by
 rcases hax with rfl | rfl
 ·simp [aV, grow] at h0 h1 ⊢
  exact wp (by omega) (by omega)
 ·simp [aV, grow] at h0 h1 ⊢
  exact wp (by omega) (by omega)
theorem Gh {c : ai} (h : di c = true) : kH c = true := by
 unfold di at h
 simp only [Bool.and_eq_true] at h
 exact h.2
theorem X8 {c : ai} (h : mg c = true) (hk : c.f0 = 2 ∨ c.f0 = 3) : c.f2 = 0 := by
 unfold mg at h
 simp only [Bool.and_eq_true, decide_eq_true_eq] at h
 exact (h.2 (by omega)).2
theorem Uj {ax : Int} (hax : ax = 1 ∨ ax = 2) : ∀ (N : Nat) (c : ai), sz c ≤ N → di c = true → ∀ b, b_ ax c ≤ aV ax c.f1 + b → aV ax c.f1 + b ≤ 10000 → ∀ x y, jV ⟨x, y, (grow ax b c.f1).f2, (grow ax b c.f1).f3⟩ = true → xn (dA (fF ax c b) x y) := by
 intro N
 induction N with
 | zero => intro c h; rw [cO] at h; omega
 | succ N ih =>
  intro c hc ht b hb1 hb2 x y hr
  have hm := kJ ht
  have hok := nH (o5 hm)
  have hsm := nC hm
  have hB := Gh ht
  have hsz := cO c
  have hlen := iq c.f3
  rw [yU, lD]
  simp only []
  rcases w_ hok with ⟨h1, h2⟩ | ⟨h1, h2⟩
  ·rw [List.eq_nil_of_length_eq_zero h2, rW, lX]
   refine FP ?_ ?_ (fun k hk => by cases hk)
   ·unfold mg at hok ⊢
    simp only [Bool.and_eq_true, decide_eq_true_eq, h1] at hok ⊢
    exact ⟨⟨⟨hr, by omega⟩, fun _ => ⟨rfl, (hok.1.2 trivial).2⟩⟩, fun h => by omega⟩
   ·unfold mF BZ
    simp [h1]
  ·have Td : mF c = true := by rw [sU, Bool.and_eq_true] at hB; exact hB.1
   obtain ⟨g1, g2⟩ := BR Td h1 (by omega)
   have FU : ∀ k, k ∈ c.f3 → sz k ≤ N ∧ di k = true ∧ az ax k = aV ax k.f1 - b_ ax k ∧ 0 ≤ aV ax k.f1 - b_ ax k ∧ 1 ≤ b_ ax k ∧ aV ax k.f1 ≤ 10000 ∧ ∀ a, a = 1 ∨ a = 2 → 1 ≤ aV a k.f1 := fun k hk => by
    have q := Pure.yc ht hk
    have q2 := Pure.iV hax q
    have q3 := HY hk
    exact ⟨by omega, q, q2.1, q2.2.1, q2.2.2.1, q2.2.2.2, fun a ha => (nD (tK (nH (o5 (kJ q)))) ha).1⟩
   rw [X8 hok h1]
   have hw1 : 0 ≤ aV ax c.f1 + b := by
    have := (Pure.iV hax ht).2.2.1
    omega
   have hgr := Du hax (r := c.f1) (b := b) hw1 (by omega)
   have fin : ∀ ss : List Int, ss.length = c.f3.length → kR ax c.f3 (JM ax c.f0 c.f3 b) 0 = (c.f3.zip ss).map (fun p => fF ax p.1 p.2) → (∀ p, p ∈ c.f3.zip ss → b_ ax p.1 ≤ aV ax p.1.f1 + p.2 ∧ aV ax p.1.f1 + p.2 ≤ 10000) →
     (c.f0 - 1 = ax → ss.sum = b) → (4 - c.f0 = ax → ∀ p, p ∈ c.f3.zip ss → p.2 = b) → xn ⟨c.f0, ⟨x, y, (grow ax b c.f1).f2, (grow ax b c.f1).f3⟩, 0, jv c.f0 (kR ax c.f3 (JM ax c.f0 c.f3 b) 0) x y⟩ := by
    intro ss hss Nh hp hal hcr
    have hf1 : ∀ p : ai × Int, (fF ax p.1 p.2).f1 = grow ax p.2 p.1.f1 := fun p => by rw [yU]
    have hpk : ∀ p, p ∈ c.f3.zip ss → p.1 ∈ c.f3 := fun p hq => (List.of_mem_zip hq).1
    have hps : ∀ p, p ∈ c.f3.zip ss → aV ax (fF ax p.1 p.2).f1 = aV ax p.1.f1 + p.2 ∧ aV (3 - ax) (fF ax p.1 p.2).f1 = aV (3 - ax) p.1.f1 := fun p hq => by
     rw [hf1]
     have := (FU _ (hpk p hq)).2.2.2.2.1
     have := hp p hq
     exact Du hax (by omega) (by omega)
    rw [Nh]
    refine JL c.f0 ⟨x, y, (grow ax b c.f1).f2, (grow ax b c.f1).f3⟩ _ h1 hr (by simp [hss]; omega) (by simp [hss]; omega) ?_ ?_ ?_
    ·have e0 : ∀ a, aV a ⟨x, y, (grow ax b c.f1).f2, (grow ax b c.f1).f3⟩ = aV a (grow ax b c.f1) := fun a => rfl
     rw [e0, List.map_map, List.length_map, List.length_zip, hss, Nat.min_self]
     by_cases e : c.f0 - 1 = ax
     ·rw [e] at g1 ⊢
      have e2 : List.map ((fun k => aV ax k.f1) ∘ fun p : ai × Int => fF ax p.1 p.2) (c.f3.zip ss) = List.map (fun p => aV ax p.1.f1 + p.2) (c.f3.zip ss) := List.map_congr_left (fun p hq => (hps p hq).1)
      rw [hgr.1, e2, P5 (fun k => aV ax k.f1) _ _ hss, hal e]
      omega
     ·have e2 : c.f0 - 1 = 3 - ax := by omega
      rw [e2] at g1 ⊢
      have e3 : List.map ((fun k => aV (3 - ax) k.f1) ∘ fun p : ai × Int => fF ax p.1 p.2) (c.f3.zip ss) = List.map (fun p => aV (3 - ax) p.1.f1) (c.f3.zip ss) := List.map_congr_left (fun p hq => (hps p hq).2)
      rw [hgr.2, e3, zip_fst (fun k => aV (3 - ax) k.f1) _ _ hss]
      exact g1
    ·intro k hk
     obtain ⟨p, hq, rfl⟩ := List.mem_map.1 hk
     have q1 := hps p hq
     have q2 := FU _ (hpk p hq)
     have q3 := hp p hq
     have q4 := g2 _ (hpk p hq)
     have e0 : ∀ a, aV a ⟨x, y, (grow ax b c.f1).f2, (grow ax b c.f1).f3⟩ = aV a (grow ax b c.f1) := fun a => rfl
     rw [e0]
     by_cases e : c.f0 - 1 = ax
     ·rw [show 4 - c.f0 = 3 - ax by omega, e, hgr.2, q1.1, q1.2]
      rw [show 3 - (c.f0 - 1) = 3 - ax by omega] at q4
      exact ⟨by omega, q4⟩
     ·have e2 : c.f0 - 1 = 3 - ax := by omega
      have e3 : 4 - c.f0 = ax := by omega
      rw [e2, e3, hgr.1, q1.1, q1.2]
      rw [show 3 - (c.f0 - 1) = ax by omega] at q4
      exact ⟨q2.2.2.2.2.2.2 _ (by omega), by rw [q4, hcr e3 p hq]⟩
    ·intro k hk x' y' hm2
     obtain ⟨p, hq, rfl⟩ := List.mem_map.1 hk
     have q2 := FU _ (hpk p hq)
     have q3 := hp p hq
     rw [hf1] at hm2
     exact ih p.1 q2.1 q2.2.1 p.2 q3.1 q3.2 x' y' hm2
   have hrs := nD hr hax
   rw [show aV ax ⟨x, y, (grow ax b c.f1).f2, (grow ax b c.f1).f3⟩ = aV ax (grow ax b c.f1) from rfl, hgr.1] at hrs
   by_cases e : c.f0 - 1 = ax
   ·have ha : fD ax c.f0 = true := by
     unfold fD
     simp
     omega
    have hgs : c.f3.map (az ax) = c.f3.map (fun k => aV ax k.f1 - b_ ax k) := List.map_congr_left (fun k hk => (FU k hk).2.2.1)
    have hsub : ∀ l : List ai, (l.map (fun k => aV ax k.f1 - b_ ax k)).sum = (l.map (fun k => aV ax k.f1)).sum - lY ax l := by
     intro l
     induction l with
     | nil => rw [sS]; rfl
     | cons k ks ihk => rw [List.map_cons, List.map_cons, List.sum_cons, List.sum_cons, o9, ihk]; omega
    rw [oU, if_neg (by omega), ha, if_pos rfl] at hb1
    rw [e] at g1
    obtain ⟨s1, s2, s3, s4⟩ := ael (b := b) (gs := c.f3.map (az ax)) (by simp; omega) (by have := nD (tK hok) hax; omega) (by have := nD (tK hok) hax; omega) (fun g hg => by
     obtain ⟨k, hk, rfl⟩ := List.mem_map.1 hg
     have := FU k hk
     omega) (fun h => by rw [List.map_eq_nil_iff] at h; rw [h] at h2; simp at h2) (by rw [hgs, hsub]; omega)
    rw [List.length_map] at s2
    have hz : ∀ p, p ∈ c.f3.zip (qP b (c.f3.map (az ax))).1 → -(az ax p.1) ≤ p.2 := fun p hp => s4 (az ax p.1, p.2) (by
     rw [List.zip_map_left]
     exact List.mem_map.2 ⟨p, hp, rfl⟩)
    have hle : ∀ p, p ∈ c.f3.zip (qP b (c.f3.map (az ax))).1 → b_ ax p.1 ≤ aV ax p.1.f1 + p.2 := fun p hp => by
     have q1 := hz p hp
     have q2 := FU p.1 (List.of_mem_zip hp).1
     omega
    refine fin (qP b (c.f3.map (az ax))).1 s2 (LQ ax _ _ _ _ s2 (fun j hj => ?_)) (fun p hp => ⟨hle p hp, ?_⟩) (fun _ => s3) (fun h => by omega)
    ·rw [Nat.zero_add]
     unfold JM
     rw [if_pos ⟨s1, ha⟩]
     rfl
    ·
     have q := P5 (fun k => aV ax k.f1) c.f3 (qP b (c.f3.map (az ax))).1 s2
     rw [s3] at q
     obtain ⟨u, v, huv⟩ := List.append_of_mem hp
     have hpos : ∀ z : List (ai × Int), (∀ p, p ∈ z → p ∈ c.f3.zip (qP b (c.f3.map (az ax))).1) → 0 ≤ (z.map fun p => aV ax p.1.f1 + p.2).sum := by
      intro z
      induction z with
      | nil => intro _; simp
      | cons w ws ihw =>
       intro hw
       have a1 := ihw (fun p hp => hw p (by simp [hp]))
       have a2 := hle w (hw w (by simp))
       have a3 := (FU w.1 (List.of_mem_zip (hw w (by simp))).1).2.2.2.2.1
       rw [List.map_cons, List.sum_cons]
       omega
     have p1 := hpos u (fun p hp => by rw [huv]; simp [hp])
     have p2 := hpos v (fun p hp => by rw [huv]; simp [hp])
     rw [huv, List.map_append, List.map_cons, List.sum_append, List.sum_cons] at q
     omega
   ·have ha : fD ax c.f0 = false := by
     unfold fD
     simp
     omega
    have e3 : 4 - c.f0 = ax := by omega
    rw [oU, if_neg (by omega), ha, if_neg (by simp)] at hb1
    have afv : ∀ k, k ∈ c.f3 → b_ ax k ≤ lJ ax 0 c.f3 := fun k hk => by
     obtain ⟨u, v, huv⟩ := List.append_of_mem hk
     rw [huv, Uy, kD]
     exact Int.le_trans (Ul _ _) NU
    have hrep : ∀ p, p ∈ c.f3.zip (List.replicate c.f3.length b) → p.2 = b := fun p hp => (List.mem_replicate.1 (List.of_mem_zip hp).2).2
    refine fin (List.replicate c.f3.length b) (by simp) (LQ ax _ _ _ _ (by simp) (fun j hj => ?_)) (fun p hp => ?_) (fun h => absurd h e) (fun _ => hrep)
    ·unfold JM
     rw [if_neg (by rw [ha]; simp)]
     simp [List.getD_eq_getElem?_getD, hj]
    ·have q := (List.of_mem_zip hp).1
     rw [hrep p hp]
     have q1 := afv p.1 q
     have q2 := g2 p.1 q
     rw [show 3 - (c.f0 - 1) = ax by omega] at q2
     omega
mutual
inductive nZ : ai → ai → Prop
 | node (a : Int) (r r' : dD) (d : Int) (l l' : List ai) : sV l l' → nZ ⟨a, r, d, l⟩ ⟨a, r', d, l'⟩
inductive sV : List ai → List ai → Prop
 | nil : sV [] []
 | cons {k k' : ai} {l l' : List ai} : nZ k k' → sV l l' → sV (k :: l) (k' :: l')
end
def tag (d : ai) : Int × Int := (d.f0, d.f2)
mutual
theorem DY : ∀ {c d : ai}, nZ c d → (fH c).map tag = (fH d).map tag
 | _, _, .node a r r' d l l' h => by
  rw [pW, pW, List.map_cons, List.map_cons]
  exact congr (congrArg List.cons rfl) (JJ h)
theorem JJ : ∀ {l l' : List ai}, sV l l' → (allL l).map tag = (allL l').map tag
 | _, _, .nil => rfl
 | _, _, .cons h hs => by rw [lF, lF, List.map_append, List.map_append, DY h, JJ hs]
end
theorem JH : ∀ {l l' : List ai}, sV l l' → l.length = l'.length
 | _, _, .nil => rfl
 | _, _, .cons _ hs => by rw [List.length_cons, List.length_cons, JH hs]
mutual
theorem xw {ax : Int} : ∀ {c d : ai}, nZ c d → b_ ax c = b_ ax d
 | _, _, .node a r r' d l l' h => by
  rw [oU, oU]
  simp only []
  rw [JH h, JI h, G6 h]
theorem JI {ax : Int} : ∀ {l l' : List ai}, sV l l' → lY ax l = lY ax l'
 | _, _, .nil => rfl
 | _, _, .cons h hs => by rw [o9, o9, xw h, JI hs]
theorem G6 {ax : Int} : ∀ {l l' : List ai} {m : Int}, sV l l' → lJ ax m l = lJ ax m l'
 | _, _, _, .nil => rfl
 | _, _, _, .cons h hs => by rw [kD, kD, xw h, G6 hs]
end
theorem FX {c d : ai} (h : nZ c d) : sz c = sz d := by
 have := congrArg List.length (DY h)
 rwa [List.length_map, List.length_map] at this
theorem QQ : ∀ (N : Nat), (∀ c : ai, sz c ≤ N → ∀ d e, nZ c d → nZ d e → nZ c e) ∧ (∀ l : List ai, dJ l ≤ N → ∀ m n, sV l m → sV m n → sV l n) := by
 intro N
 induction N with
 | zero =>
  refine ⟨fun c h => by rw [cO] at h; omega, fun l h m n h1 h2 => ?_⟩
  cases h1 with
  | nil => exact h2
  | cons a b => rw [bY, cO] at h; omega
 | succ N ih =>
  have hC : ∀ c : ai, sz c ≤ N + 1 → ∀ d e, nZ c d → nZ d e → nZ c e := by
   intro c h d e h1 h2
   cases h1 with
   | node a r r' i l l' h3 =>
    cases h2 with
    | node _ _ r2 _ _ l2 h4 => exact .node _ _ _ _ _ _ (ih.2 l (by rw [cO] at h; simp only [] at h; omega) _ _ h3 h4)
  refine ⟨hC, fun l => ?_⟩
  induction l with
  | nil => intro _ m n h1 h2; cases h1; exact h2
  | cons x xs ihl =>
   intro h m n h1 h2
   rw [bY] at h
   cases h1 with
   | cons a b =>
    cases h2 with
    | cons a2 b2 => exact .cons (hC x (by omega) _ _ a a2) (ihl (by omega) _ _ b b2)
theorem Vr (ax : Int) : ∀ (N : Nat), (∀ c : ai, sz c ≤ N → ∀ b, nZ c (fF ax c b)) ∧ (∀ l : List ai, dJ l ≤ N → ∀ ns i, sV l (kR ax l ns i)) := by
 intro N
 induction N with
 | zero =>
  refine ⟨fun c h => by rw [cO] at h; omega, fun l h ns i => ?_⟩
  cases l with
  | nil => rw [rW]; exact .nil
  | cons x xs => rw [bY, cO] at h; omega
 | succ N ih =>
  have hC : ∀ c : ai, sz c ≤ N + 1 → ∀ b, nZ c (fF ax c b) := by
   intro c h b
   rw [yU]
   obtain ⟨a, r, d, l⟩ := c
   exact .node _ _ _ _ _ _ (ih.2 l (by rw [cO] at h; simp only [] at h; omega) _ _)
  refine ⟨hC, fun l => ?_⟩
  induction l with
  | nil => intro _ ns i; rw [rW]; exact .nil
  | cons x xs ihl =>
   intro h ns i
   rw [bY] at h
   rw [u_]
   exact .cons (hC x (by omega) _) (ihl (by omega) _ _)
theorem F_ : ∀ (N : Nat), (∀ c : ai, sz c ≤ N → ∀ x y, nZ c (dA c x y)) ∧ (∀ l : List ai, dJ l ≤ N → ∀ a x y, sV l (jv a l x y)) := by
 intro N
 induction N with
 | zero =>
  refine ⟨fun c h => by rw [cO] at h; omega, fun l h a x y => ?_⟩
  cases l with
  | nil => rw [lX]; exact .nil
  | cons x xs => rw [bY, cO] at h; omega
 | succ N ih =>
  have hC : ∀ c : ai, sz c ≤ N + 1 → ∀ x y, nZ c (dA c x y) := by
   intro c h x y
   rw [lD]
   obtain ⟨a, r, d, l⟩ := c
   exact .node _ _ _ _ _ _ (ih.2 l (by rw [cO] at h; simp only [] at h; omega) _ _ _)
  refine ⟨hC, fun l => ?_⟩
  induction l with
  | nil => intro _ a x y; rw [lX]; exact .nil
  | cons z zs ihl =>
   intro h a x y
   rw [bY] at h
   rw [nG]
   exact .cons (hC z (by omega) _ _) (ihl (by omega) _ _ _)
theorem MP : ∀ {a b : List ai}, a.map (·.f2) = b.map (·.f2) → eG a = eG b := by
 intro a
 induction a with
 | nil => intro b h; cases b with
  | nil => rfl
  | cons y ys => cases h
 | cons x xs ih =>
  intro b h
  cases b with
  | nil => cases h
  | cons y ys =>
   simp only [List.map_cons, List.cons.injEq] at h
   unfold eG
   rw [ih h.2, h.1]
   congr 1
   have e : ∀ l : List ai, (l.all fun z => decide (z.f2 ≠ y.f2)) = (l.map (·.f2)).all fun i => decide (i ≠ y.f2) := fun l => by rw [List.all_map]; rfl
   rw [e, e, h.2]
theorem WC {c d : ai} (h : nZ c d) : (lU c).map (·.f2) = (lU d).map (·.f2) := by
 have e : ∀ l : List ai, (l.filter fun x => decide (x.f0 = 1)).map (·.f2) = ((l.map tag).filter fun p => decide (p.1 = 1)).map (·.2) := by
  intro l
  induction l with
  | nil => rfl
  | cons x xs ih =>
   rw [List.map_cons, List.filter_cons, List.filter_cons]
   have ht : (decide ((tag x).1 = 1)) = decide (x.f0 = 1) := rfl
   rw [ht]
   cases decide (x.f0 = 1) with
   | true => simp only [if_true, List.map_cons, ih]; rfl
   | false => simp only [Bool.false_eq_true, if_false, ih]
 unfold lU
 rw [e, e, DY h]
theorem G_ {c d : ai} (h : nZ c d) (hc : di c = true) (hd : xn d) : di d = true := by
 have hm := kJ hc
 unfold kV at hm
 simp only [Bool.and_eq_true, decide_eq_true_eq] at hm
 unfold di kV
 rw [hd.1, hd.2, decide_eq_true (by rw [← FX h]; exact hm.1), ← MP (WC h), hm.2.2]
 rfl
theorem Xk : ∀ (N : Nat) (c : ai), sz c ≤ N → di c = true → ∀ x y, jV ⟨x, y, c.f1.f2, c.f1.f3⟩ = true → xn (dA c x y) := by
 intro N
 induction N with
 | zero => intro c h; rw [cO] at h; omega
 | succ N ih =>
  intro c hc ht x y hr
  have hm := kJ ht
  have hok := nH (o5 hm)
  have hsm := nC hm
  have hB := Gh ht
  have hsz := cO c
  have hlen := iq c.f3
  rw [lD]
  rcases w_ hok with ⟨h1, h2⟩ | ⟨h1, h2⟩
  ·rw [List.eq_nil_of_length_eq_zero h2, lX]
   refine FP ?_ ?_ (fun k hk => by cases hk)
   ·unfold mg at hok ⊢
    simp only [Bool.and_eq_true, decide_eq_true_eq, h1] at hok ⊢
    exact ⟨⟨⟨hr, by omega⟩, fun _ => ⟨rfl, (hok.1.2 trivial).2⟩⟩, fun h => by omega⟩
   ·unfold mF BZ
    simp [h1]
  ·have Td : mF c = true := by rw [sU, Bool.and_eq_true] at hB; exact hB.1
   obtain ⟨g1, g2⟩ := BR Td h1 (by omega)
   rw [X8 hok h1]
   refine JL c.f0 ⟨x, y, c.f1.f2, c.f1.f3⟩ c.f3 h1 hr h2 (by omega) g1 (fun k hk => ?_) (fun k hk x' y' hm2 => ?_)
   ·have q := Pure.yc ht hk
    have r := tK (nH (o5 (kJ q)))
    refine ⟨(nD r (by omega)).1, ?_⟩
    have := g2 k hk
    rwa [show 3 - (c.f0 - 1) = 4 - c.f0 by omega] at this
   ·exact ih k (by have := HY hk; omega) (Pure.yc ht hk) x' y' hm2
theorem UX {c : ai} (h : di c = true) {x y : Int} (hr : jV ⟨x, y, c.f1.f2, c.f1.f3⟩ = true) : di (dA c x y) = true :=
 G_ ((F_ (sz c)).1 c (Nat.le_refl _) x y) h (Xk _ c (Nat.le_refl _) h x y hr)
noncomputable def yt (ax n : Int) (k : ai) : ai := aZ ax (dA k 0 0) n
theorem Sr {ax n : Int} {k : ai} (hax : ax = 1 ∨ ax = 2) (ht : di k = true) (h0 : -(az ax k) ≤ n) (h1 : aV ax k.f1 + n ≤ 10000) :
  di (yt ax n k) = true ∧ aV ax (yt ax n k).f1 = aV ax k.f1 + n ∧ az ax (yt ax n k) = az ax k + n ∧ sz (yt ax n k) = sz k := by
 have hm := kJ ht
 have hr := vC.1 (show pF k.f1.f0 k.f1.f1 k.f1.f2 k.f1.f3 = true from tK (nH (o5 hm)))
 have g := Pure.iV hax ht
 have hz : jV ⟨0, 0, k.f1.f2, k.f1.f3⟩ = true := show pF 0 0 k.f1.f2 k.f1.f3 = true from vC.2 (by omega)
 have ht0 := UX ht hz
 have e0 : (dA k 0 0).f1 = ⟨0, 0, k.f1.f2, k.f1.f3⟩ := by rw [lD]
 have es : ∀ a, aV a (dA k 0 0).f1 = aV a k.f1 := fun a => by rw [e0]; rfl
 have hl0 := (F_ (sz k)).1 k (Nat.le_refl _) 0 0
 have g0 := Pure.iV hax ht0
 have el : b_ ax (dA k 0 0) = b_ ax k := (xw hl0).symm
 rw [es, el] at g0
 have hsz : aV ax k.f1 = k.f1.f2 ∨ aV ax k.f1 = k.f1.f3 := by unfold aV; rcases hax with h | h <;> simp [h]
 have hbad : yj ax (dA k 0 0) = false := by
  unfold yj
  rw [ht0]
  rcases hax with h | h <;> simp [h]
 have hout : yl ax (dA k 0 0) n = false := by
  unfold yl
  rw [g0.1, e0]
  simp only []
  have hw : wrap64 (-(aV ax k.f1 - b_ ax k)) = -(aV ax k.f1 - b_ ax k) := by unfold wrap64; omega
  have hs : aV ax ⟨0, 0, wrap64 (0 + k.f1.f2), wrap64 (0 + k.f1.f3)⟩ = aV ax k.f1 := by
   rw [show wrap64 (0 + k.f1.f2) = k.f1.f2 by unfold wrap64; omega, show wrap64 (0 + k.f1.f3) = k.f1.f3 by unfold wrap64; omega]
   rfl
  rw [hs, show wrap64 (10000 - aV ax k.f1) = 10000 - aV ax k.f1 by unfold wrap64; omega, hw]
  rw [decide_eq_false (by omega), decide_eq_false (by omega)]
  rfl
 have Nh : yt ax n k = dA (fF ax (dA k 0 0) n) 0 0 := by
  unfold yt aZ
  rw [hbad, hout, e0]
  simp
 have hgr := Du hax (r := (dA k 0 0).f1) (b := n) (by rw [es]; omega) (by rw [es]; omega)
 have ef1 : (fF ax (dA k 0 0) n).f1 = grow ax n (dA k 0 0).f1 := by rw [yU]
 have eg : (yt ax n k).f1 = ⟨0, 0, (grow ax n (dA k 0 0).f1).f2, (grow ax n (dA k 0 0).f1).f3⟩ := by rw [Nh, lD, ef1]
 have hsize : aV ax (yt ax n k).f1 = aV ax k.f1 + n := by rw [eg]; rw [es] at hgr; exact hgr.1
 have hmay : jV ⟨0, 0, (grow ax n (dA k 0 0).f1).f2, (grow ax n (dA k 0 0).f1).f3⟩ = true := by
  show pF 0 0 (grow ax n (dA k 0 0).f1).f2 (grow ax n (dA k 0 0).f1).f3 = true
  refine vC.2 ?_
  have h3 := hgr.1
  have h4 := hgr.2
  rw [es] at h3 h4
  generalize grow ax n (dA k 0 0).f1 = G at h3 h4 ⊢
  have h5 : 1 ≤ aV ax k.f1 + n := by omega
  unfold aV at h3 h4 h1 h5
  rcases hax with rfl | rfl
  ·simp at h3 h4 h1 h5; omega
  ·simp at h3 h4 h1 h5; omega
 have afs : xn (yt ax n k) := by
  rw [Nh]
  exact Uj hax _ (dA k 0 0) (Nat.le_refl _) ht0 n (by rw [es, el]; omega) (by rw [es]; omega) 0 0 hmay
 have hl1 : nZ (dA k 0 0) (yt ax n k) := by
  rw [Nh]
  exact (QQ _).1 _ (Nat.le_refl _) _ _ ((Vr ax _).1 _ (Nat.le_refl _) n) ((F_ _).1 _ (Nat.le_refl _) 0 0)
 have htt := G_ hl1 ht0 afs
 have g1 := Pure.iV hax htt
 refine ⟨htt, hsize, ?_, by rw [← FX hl1, ← FX hl0]⟩
 rw [g1.1, hsize, ← xw hl1, el, g.1]
 omega
def kd (L : List ai) (i : Nat) : ai := L.getD i z26
theorem lL {L : List ai} {i : Nat} (h : i < L.length) : kd L i ∈ L := by
 unfold kd
 rw [List.getD_eq_getElem?_getD, List.getElem?_eq_getElem h, Option.getD_some]
 exact List.getElem_mem _
theorem Kt (L : List ai) (i : Nat) : aA L (i : Int) = kd L i := by unfold kd aA; rw [Int.toNat_natCast]
theorem NL {L : List ai} {i j : Nat} {k : ai} (h : i < L.length) : kd (L.set i k) j = if j = i then k else kd L j := by
 unfold kd
 rw [List.getD_eq_getElem?_getD, List.getD_eq_getElem?_getD, List.getElem?_set]
 by_cases e : i = j
 ·subst e; rw [if_pos rfl, if_pos rfl, if_pos h]; rfl
 ·rw [if_neg e, if_neg (fun x => e x.symm)]
theorem aaO (f : ai → Int) : ∀ {L : List ai} {i : Nat} {k : ai}, i < L.length → ((L.set i k).map f).sum = (L.map f).sum - f (kd L i) + f k := by
 intro L
 induction L with
 | nil => intro i k h; simp at h
 | cons x xs ih =>
  intro i k h
  cases i with
  | zero => simp only [List.set_cons_zero, List.map_cons, List.sum_cons]; show _ = f x + _ - f x + f k; omega
  | succ i =>
   simp only [List.set_cons_succ, List.map_cons, List.sum_cons]
   rw [ih (by simpa using h)]
   show _ = f x + _ - f (kd xs i) + f k
   omega
theorem Xp : ∀ {L : List ai} {i : Nat} {k : ai}, i < L.length → sz k = sz (kd L i) → dJ (L.set i k) = dJ L := by
 intro L
 induction L with
 | nil => intro i k h; simp at h
 | cons x xs ih =>
  intro i k h hs
  cases i with
  | zero => rw [List.set_cons_zero, bY, bY, hs]; rfl
  | succ i => rw [List.set_cons_succ, bY, bY, ih (by simpa using h) hs]
theorem ad1 {f : ai → Int} : ∀ {L : List ai}, (∀ k, k ∈ L → 0 ≤ f k) → ∀ k, k ∈ L → f k ≤ (L.map f).sum := by
 intro L
 induction L with
 | nil => intro _ k h; cases h
 | cons x xs ih =>
  intro h k hk
  have h0 : ∀ l : List ai, (∀ k, k ∈ l → 0 ≤ f k) → 0 ≤ (l.map f).sum := by
   intro l
   induction l with
   | nil => intro _; exact Int.le_refl _
   | cons y ys ihl =>
    intro h
    have := h y (by simp)
    have := ihl (fun k hk => h k (by simp [hk]))
    rw [List.map_cons, List.sum_cons]
    omega
  rw [List.map_cons, List.sum_cons]
  have h1 := h x (by simp)
  have h2 := h0 xs (fun k hk => h k (by simp [hk]))
  rcases List.mem_cons.1 hk with rfl | hk
  ·omega
  ·have := ih (fun k hk => h k (by simp [hk])) k hk; omega
noncomputable def dL (ax : Int) (i : Nat) (n : Int) (L : List ai) : List ai := L.set i (yt ax n (kd L i))
structure qw (ax s : Int) (L : List ai) : Prop where
 jR : ∀ k, k ∈ L → di k = true
 sum : (L.map (fun k => aV ax k.f1)).sum = s
 small : s ≤ 10000
theorem qw.size {ax s : Int} {L : List ai} (hax : ax = 1 ∨ ax = 2) (h : qw ax s L) {k : ai} (hk : k ∈ L) : aV ax k.f1 ≤ s := by
 have := ad1 (f := fun k => aV ax k.f1) (fun k hk => by have := Pure.iV hax (h.jR k hk); omega) k hk
 rw [h.sum] at this
 exact this
theorem qw.move {ax s : Int} {L : List ai} (hax : ax = 1 ∨ ax = 2) (h : qw ax s L) {i : Nat} {n : Int} (hi : i < L.length) (h0 : -(az ax (kd L i)) ≤ n) (h1 : s + n ≤ 10000) :
  qw ax (s + n) (dL ax i n L) ∧ az ax (kd (dL ax i n L) i) = az ax (kd L i) + n ∧ (∀ j, j ≠ i → kd (dL ax i n L) j = kd L j) ∧ (dL ax i n L).length = L.length ∧ dJ (dL ax i n L) = dJ L ∧ aV ax (kd (dL ax i n L) i).f1 = aV ax (kd L i).f1 + n := by
 have hm := lL hi
 have hs := h.size hax hm
 obtain ⟨k1, k2, k3, k4⟩ := Sr hax (h.jR _ hm) h0 (by omega)
 unfold dL
 refine ⟨⟨fun k hk => ?_, ?_, h1⟩, ?_, fun j hj => by rw [NL hi, if_neg hj], by rw [List.length_set], Xp hi k4, ?_⟩
 ·rcases List.mem_or_eq_of_mem_set hk with hk | rfl
  ·exact h.jR k hk
  ·exact k1
 ·rw [aaO _ hi, h.sum, k2]
  omega
 ·rw [NL hi, if_pos rfl, k3]
 ·rw [NL hi, if_pos rfl, k2]
structure rV (ax s : Int) (p N : Nat) (L0 L : List ai) (d : Int) : Prop where
 good : qw ax s L
 Hg : p < L.length
 d0 : 0 ≤ d
 dg : az ax (kd L p) = az ax (kd L0 p) + d
 ds : aV ax (kd L p).f1 = aV ax (kd L0 p).f1 + d
 z : dJ L = N
 len : L.length = L0.length
theorem rV.start {ax s : Int} {p : Nat} {L : List ai} (h : qw ax s L) (hp : p < L.length) : rV ax s p (dJ L) L L 0 := ⟨h, hp, Int.le_refl _, by omega, by omega, rfl, rfl⟩
theorem rV.small {ax s : Int} {p N : Nat} {L0 L : List ai} {d : Int} (hax : ax = 1 ∨ ax = 2) (h : rV ax s p N L0 L d) (h0 : 0 ≤ az ax (kd L0 p)) : d ≤ 9999 := by
 have := Pure.iV hax (h.good.jR _ (lL h.Hg))
 have := h.dg
 omega
theorem rV.step {ax s : Int} {p N : Nat} {L0 L : List ai} {d n : Int} {i : Nat} (hax : ax = 1 ∨ ax = 2) (h : rV ax s p N L0 L d) (hi : i < L.length) (hne : i ≠ p) (hn0 : 0 ≤ n) (hn : n ≤ az ax (kd L i)) :
  rV ax s p N L0 (dL ax p n (dL ax i (-n) L)) (d + n) := by
 obtain ⟨a1, a2, a3, a4, a5, a6⟩ := h.good.move hax hi (n := -n) (by omega) (by have := h.good.small; omega)
 have hp : p < (dL ax i (-n) L).length := by rw [a4]; exact h.Hg
 have e := a3 p (fun e => hne e.symm)
 have hg := Pure.iV hax (h.good.jR _ (lL h.Hg))
 obtain ⟨b1, b2, b3, b4, b5, b6⟩ := a1.move hax hp (n := n) (by rw [e]; omega) (by have := h.good.small; omega)
 have hd := h.dg
 have hs := h.ds
 have h0 := h.d0
 refine ⟨?_, by rw [b4]; exact hp, by omega, by rw [b2, e]; omega, by rw [b6, e]; omega, by rw [b5, a5]; exact h.z, by rw [b4, a4]; exact h.len⟩
 have e2 : s + -n + n = s := by omega
 rw [e2] at b1
 exact b1
def Dt (p : Nat → Bool) : Nat → Nat → Option Nat
 | 0, _ => none
 | f + 1, i => if p i = true then some i else Dt p f (i + 1)
def nP (p : Nat → Bool) : Nat → Option Nat
 | 0 => none
 | n + 1 => if p n = true then some n else nP p n
noncomputable def oz (ax : Int) (L : List ai) (i : Nat) : Bool := decide (0 < az ax (kd L i))
noncomputable def jU (ax : Int) (q : Nat) (m : Bool) (L : List ai) : Option Nat :=
 match (if m = true then Dt (oz ax L) (L.length - (q + 1)) (q + 1) else none) with
 | some i => some i
 | none => nP (oz ax L) (if m = true then q else q + 1)
theorem V4 {p : Nat → Bool} : ∀ {f i j : Nat}, Dt p f i = some j → i ≤ j ∧ j < i + f ∧ p j = true := by
 intro f
 induction f with
 | zero => intro i j h; cases h
 | succ f ih =>
  intro i j h
  unfold Dt at h
  split at h
  ·rename_i hp; injection h with h; subst h; exact ⟨Nat.le_refl _, by omega, hp⟩
  ·obtain ⟨a, b, c⟩ := ih h; exact ⟨by omega, by omega, c⟩
theorem V3 {p : Nat → Bool} : ∀ {f i : Nat}, Dt p f i = none → ∀ j, i ≤ j → j < i + f → p j = false := by
 intro f
 induction f with
 | zero => intro i _ j h1 h2; omega
 | succ f ih =>
  intro i h j h1 h2
  unfold Dt at h
  split at h
  ·cases h
  ·rename_i hp
   by_cases e : j = i
   ·rw [e]; simpa using hp
   ·exact ih h j (by omega) (by omega)
theorem BN {p : Nat → Bool} : ∀ {n j : Nat}, nP p n = some j → j < n ∧ p j = true := by
 intro n
 induction n with
 | zero => intro j h; cases h
 | succ n ih =>
  intro j h
  unfold nP at h
  split at h
  ·rename_i hp; injection h with h; subst h; exact ⟨by omega, hp⟩
  ·obtain ⟨a, b⟩ := ih h; exact ⟨by omega, b⟩
theorem MX {p : Nat → Bool} : ∀ {n : Nat}, nP p n = none → ∀ j, j < n → p j = false := by
 intro n
 induction n with
 | zero => intro _ j h; omega
 | succ n ih =>
  intro h j hj
  unfold nP at h
  split at h
  ·cases h
  ·rename_i hp
   by_cases e : j = n
   ·rw [e]; simpa using hp
   ·exact ih h j (by omega)
def place (q : Nat) (m : Bool) : Nat := if m = true then q else q + 1
theorem wC {ax : Int} {q : Nat} {m : Bool} {L : List ai} {i : Nat} (h : jU ax q m L = some i) (hq : q + 1 < L.length) : i < L.length ∧ i ≠ place q m ∧ 0 < az ax (kd L i) := by
 unfold jU at h
 unfold place
 cases m with
 | true =>
  simp only [if_true] at h ⊢
  cases hu : Dt (oz ax L) (L.length - (q + 1)) (q + 1) with
  | some j =>
   rw [hu] at h
   injection h with h
   subst h
   obtain ⟨a, b, c⟩ := V4 hu
   exact ⟨by omega, by omega, by simpa [oz] using c⟩
  | none =>
   rw [hu] at h
   obtain ⟨a, b⟩ := BN h
   exact ⟨by omega, by omega, by simpa [oz] using b⟩
 | false =>
  simp only [Bool.false_eq_true, if_false] at h ⊢
  obtain ⟨a, b⟩ := BN h
  exact ⟨by omega, by omega, by simpa [oz] using b⟩
noncomputable def gI (ax : Int) (q : Nat) (m : Bool) (left : Int) : Nat → List ai → Int → List ai × Int
 | 0, L, d => (L, d)
 | f + 1, L, d => if left ≤ d then (L, d) else match jU ax q m L with
  | none => (L, d)
  | some i => gI ax q m left f (dL ax (place q m) (mn (left - d) (az ax (kd L i))) (dL ax i (-(mn (left - d) (az ax (kd L i)))) L)) (d + mn (left - d) (az ax (kd L i)))
theorem xA {ax : Int} {q : Nat} {m : Bool} {left : Int} {f : Nat} {L : List ai} {d : Int} (h : left ≤ d) : gI ax q m left f L d = (L, d) := by
 cases f with
 | zero => rfl
 | succ f => unfold gI; rw [if_pos h]
theorem xy {ax : Int} {q : Nat} {m : Bool} {left : Int} {f : Nat} {L : List ai} {d : Int} (h : jU ax q m L = none) : gI ax q m left f L d = (L, d) := by
 cases f with
 | zero => rfl
 | succ f => unfold gI; rw [h]; split <;> rfl
theorem uJ {ax : Int} {q : Nat} {m : Bool} {left : Int} {f : Nat} {L : List ai} {d : Int} {i : Nat} (hl : ¬ left ≤ d) (h : jU ax q m L = some i) :
  gI ax q m left (f + 1) L d = gI ax q m left f (dL ax (place q m) (mn (left - d) (az ax (kd L i))) (dL ax i (-(mn (left - d) (az ax (kd L i)))) L)) (d + mn (left - d) (az ax (kd L i))) := by
 rw [gI, if_neg hl, h]
theorem ad6 (a b : Int) : mn a b ≤ a := by unfold mn; split <;> omega
theorem Uu (a b : Int) : mn a b ≤ b := by unfold mn; split <;> omega
theorem Uw {a b : Int} (h : 0 < a) (k : 0 < b) : 0 < mn a b := by unfold mn; split <;> omega
theorem QX {ax s : Int} (hax : ax = 1 ∨ ax = 2) {q : Nat} {m : Bool} {left : Int} {N : Nat} {L0 : List ai} : ∀ (f : Nat) (L : List ai) (d : Int), rV ax s (place q m) N L0 L d → q + 1 < L.length →
  rV ax s (place q m) N L0 (gI ax q m left f L d).1 (gI ax q m left f L d).2 ∧ d ≤ (gI ax q m left f L d).2 ∧ (d ≤ left → (gI ax q m left f L d).2 ≤ left) := by
 intro f
 induction f with
 | zero => intro L d h _; exact ⟨h, Int.le_refl _, fun h => h⟩
 | succ f ih =>
  intro L d h hq
  by_cases hl : left ≤ d
  ·rw [xA hl]; exact ⟨h, Int.le_refl _, fun h => h⟩
  ·cases hg : jU ax q m L with
   | none => rw [xy hg]; exact ⟨h, Int.le_refl _, fun h => h⟩
   | some i =>
    rw [uJ hl hg]
    obtain ⟨g1, g2, g3⟩ := wC hg hq
    have n0 := Uw (a := left - d) (b := az ax (kd L i)) (by omega) g3
    have n1 := ad6 (left - d) (az ax (kd L i))
    have h2 := h.step hax g1 g2 (Int.le_of_lt n0) (Uu _ _)
    obtain ⟨a, b, c⟩ := ih _ _ h2 (by rw [h2.len, ← h.len]; exact hq)
    exact ⟨a, by omega, fun _ => c (by omega)⟩
def qW (ax : Int) (c : ai) (p : List Int) (d : Nat) : Bool := match ou c (p.take d) with
 | some z => fD ax z.f0
 | none => false
def Dp (ax : Int) (c : ai) (p : List Int) : Option Nat := nP (qW ax c p) p.length
theorem Dh : ∀ (p : List Int) (c x : ai), ou c p = some x → ∀ d, d < p.length → ∃ z, ou c (p.take d) = some z ∧ 0 ≤ rd p (d : Int) ∧ rd p (d : Int) < (z.f3.length : Int) := by
 intro p
 induction p with
 | nil => intro c x _ d h; simp at h
 | cons i is ih =>
  intro c x h d hd
  simp only [ou] at h
  split at h
  ·cases h
  ·rename_i hi
   cases d with
   | zero =>
    refine ⟨c, rfl, ?_⟩
    have e : rd (i :: is) ((0 : Nat) : Int) = i := rfl
    rw [e]
    omega
   | succ d =>
    obtain ⟨z, h1, h2⟩ := ih _ x h d (by simpa using hd)
    refine ⟨z, ?_, ?_⟩
    ·rw [List.take_succ_cons]
     simp only [ou]
     rw [if_neg hi]
     exact h1
    ·have e : rd (i :: is) ((d + 1 : Nat) : Int) = rd is (d : Int) := by unfold rd; rw [Int.toNat_natCast, Int.toNat_natCast]; rfl
     rw [e]
     exact h2
theorem Vx : ∀ (p : List Int) (c z : ai), di c = true → ou c p = some z → di z = true := by
 intro p
 induction p with
 | nil => intro c z h e; simp only [ou] at e; injection e with e; rwa [← e]
 | cons i is ih =>
  intro c z h e
  simp only [ou] at e
  split at e
  ·cases e
  ·rename_i hi
   exact ih _ z (Pure.yc h (Hr c.f3 i (by omega) (by omega))) e
structure yS (ax : Int) (c : ai) (p : List Int) (d : Nat) (z : ai) (q : Nat) : Prop where
 hd : d < p.length
 at' : ou c (p.take d) = some z
 al : fD ax z.f0 = true
 i0 : 0 ≤ rd p (d : Int)
 i1 : rd p (d : Int) < (z.f3.length : Int)
 len : 2 ≤ z.f3.length
 hq : (q : Int) = mn (rd p (d : Int)) ((z.f3.length : Int) - 2)
theorem yS.next {ax : Int} {c : ai} {p : List Int} {d : Nat} {z : ai} {q : Nat} (h : yS ax c p d z q) : q + 1 < z.f3.length := by
 have h1 := h.hq
 have h2 := h.len
 unfold mn at h1
 split at h1 <;> omega
theorem Qx {ax : Int} {c : ai} {p : List Int} {x : ai} {d : Nat} (hc : di c = true) (hx : ou c p = some x) (h : Dp ax c p = some d) : ∃ z q, yS ax c p d z q ∧ di z = true := by
 obtain ⟨h1, h2⟩ := BN h
 obtain ⟨z, e, i0, i1⟩ := Dh p c x hx d h1
 unfold qW at h2
 rw [e] at h2
 simp only [] at h2
 have ht := Vx _ c z hc e
 have hk := w_ (nH (o5 (kJ ht)))
 have hl : 2 ≤ z.f3.length := by
  rcases hk with ⟨a, _⟩ | ⟨_, b⟩
  ·unfold fD at h2; simp [a] at h2
  ·exact b
 refine ⟨z, (mn (rd p (d : Int)) ((z.f3.length : Int) - 2)).toNat, ⟨h1, e, h2, i0, i1, hl, ?_⟩, ht⟩
 have : 0 ≤ mn (rd p (d : Int)) ((z.f3.length : Int) - 2) := by unfold mn; split <;> omega
 omega
theorem Qw {ax : Int} {z : ai} (hax : ax = 1 ∨ ax = 2) (ht : di z = true) (ha : fD ax z.f0 = true) : qw ax (aV ax z.f1 - ((z.f3.length : Int) - 1)) z.f3 := by
 have hm := kJ ht
 have hB := Gh ht
 have Td : mF z = true := by rw [sU, Bool.and_eq_true] at hB; exact hB.1
 have hs := nC hm
 have hz := cO z
 have hl := iq z.f3
 have e : z.f0 - 1 = ax ∧ (z.f0 = 2 ∨ z.f0 = 3) := by
  unfold fD at ha
  simp at ha
  omega
 obtain ⟨g1, _⟩ := BR Td e.2 (by omega)
 rw [e.1] at g1
 have hg := Pure.iV hax ht
 have hk : 2 ≤ z.f3.length := by
  rcases w_ (nH (o5 hm)) with ⟨a, _⟩ | ⟨_, b⟩
  ·omega
  ·exact b
 exact ⟨fun k hk => Pure.yc ht hk, by omega, by omega⟩
noncomputable def uH (ax id : Int) (c : ai) : Int := if di c = true ∧ (ax = 1 ∨ ax = 2) then (match fP id c with
 | none => 6
 | some p => match Dp ax c p with
  | none => 10
  | some _ => 0) else 1
end Go.Proofs.Ytfdmfgaiblfbhaa.P
namespace Go.Proofs.Ytfdmfgaiblfbhaa.P
open Go.RowKit Go.Proofs.ag.aK Go.Proofs.ag.bG Go.Proofs.ag.bU
attribute [local go_sem] jq jS jE kG
def qQ.T9 : Bool × List (List Nat × List Nat) := (true, [([], []), ([], []), ([], []), ([1, 2], [1, 2]), ([0, 3], [0, 3]), ([4], [4]), ([5], [5]), ([5], [5]), ([], []), ([8, 6, 4, 0, 1, 2, 3, 4, 5, 6, 8], [6, 8]), ([7, 9, 0, 1, 2, 3, 4, 5, 6, 7, 8, 9], [7])])
def qQ.B9 : List Nat := [0, 0, 0, 6, 15, 31, 63, 63, 0, 383, 1023]
theorem qQ.zJ : iO .any (opsOf Try.f157 9) = qQ.T9 := by kernel_rfl
theorem qQ.vV : iQ qQ.T9.2 qQ.B9 = true := by kernel_rfl
def vG.T11 : Bool × List (List Nat × List Nat) := (true, [([], []), ([], []), ([], []), ([1, 2], [1, 2]), ([], []), ([], []), ([4, 5], [4, 5]), ([6], [6]), ([], []), ([8], [8]), ([9], [9]), ([10], [10]), ([7, 11], [7, 11]), ([], []), ([0, 3, 12, 13], [0, 3, 12, 13]), ([14, 0, 1, 2, 3, 4, 5, 6, 7, 8, 9, 10, 11, 12, 13, 14], [14]), ([15, 0, 1, 2, 3, 4, 5, 6, 7, 8, 9, 10, 11, 12, 13, 14, 15], [])])
def vG.B11 : List Nat := [0, 0, 0, 6, 0, 0, 48, 112, 0, 256, 768, 1792, 4080, 0, 16383, 32767, 65535]
theorem vG.afM : iO .any (opsOf Try.f157 11) = vG.T11 := by kernel_rfl
theorem vG.ace : iQ vG.T11.2 vG.B11 = true := by kernel_rfl
abbrev Yx (w : World) (n : Int) (e : Ending) (w' : World) : Prop := e = .returned (.tuple #[.agg #[.int .u8 0, .int .i64 0, .int .i64 0, .int .i64 0, .int .i64 0, .int .i64 0, .slice none 0 0, .slice none 0 0, .int .i64 0, .int .u8 0], .int .i64 n]) ∧ Below w.heap.size w w'
abbrev abp (w : World) (P : Nat → Prop) (ax : Int) (p : List Int) (d : Nat) (z : ai) (q : Nat) (e : Ending) (w' : World) : Prop := ∃ Az cz Ap cp op, e = .returned (.tuple #[.agg #[.int .u8 z.f0, .int .i64 z.f1.f0, .int .i64 z.f1.f1, .int .i64 z.f1.f2, .int .i64 z.f1.f3, .int .i64 z.f2, .slice Az z.f3.length cz, .slice Ap (p.take d).length cp, .int .i64 (q : Int), .int .u8 ax], .int .i64 0]) ∧ IR w.heap.size (.slice Ap p.length cp) p op ∧ St w P [((Value.slice Ap p.length cp).ownBlock, op)] [(.slice Az z.f3.length cz, z.f3)] [] [] w'
theorem Io (c : ai) (hz : sz c ≤ 1000000) (id ax : Int) (b : Nat) (P : Nat → Prop) (A : Option Addr) (cc : Nat) (w : World) (hv : Kd.V k26 26 w b P (.slice A c.f3.length cc) c.f3) :
  (∀ n, uH ax id c = n → n ≠ 0 → Calls Try.prog 157 #[.agg #[.int .u8 c.f0, .int .i64 c.f1.f0, .int .i64 c.f1.f1, .int .i64 c.f1.f2, .int .i64 c.f1.f3, .int .i64 c.f2, .slice A c.f3.length cc], .int .i64 id, .int .u8 ax] w (Yx w n)) ∧
  (∀ p d z q, di c = true → (ax = 1 ∨ ax = 2) → fP id c = some p → Dp ax c p = some d → yS ax c p d z q → Calls Try.prog 157 #[.agg #[.int .u8 c.f0, .int .i64 c.f1.f0, .int .i64 c.f1.f1, .int .i64 c.f1.f2, .int .i64 c.f1.f3, .int .i64 c.f2, .slice A c.f3.length cc], .int .i64 id, .int .u8 ax] w (abp w P ax p d z q)) := by
 have S := ae.mk (St.start (ts := [(.slice A c.f3.length cc, c.f3)]) (b0 := w.heap.size) (w := w) (P := P) (fun t ht => by rw [List.mem_singleton.1 ht]; exact fM hv))
 have CE := ae.mk (show sz c ≤ 1048576 by omega)
 have HZ := ae.mk hz
 have hpl := fun p (h : fP id c = some p) => (BM id (sz c)).1 c (Nat.le_refl _) p h
 clear hz hv
 obtain ⟨ck, ⟨cx, cy, cw, ch⟩, aU, l⟩ := c
 simp only [] at S ⊢
 constructor
 ·intro n hn hn0
  unfold uH at hn
  cases ht : di ⟨ck, ⟨cx, cy, cw, ch⟩, aU, l⟩ with
  | false =>
   rw [if_neg (fun h => by rw [ht] at h; cases h.1)] at hn
   subst hn
   have HT := ae.mk ht
   clear ht hn0 hpl
   go_enter Try.func157, Try.ntmps157
   go_wp2_with (first
    | (refine boxS 3 _ 26 S ?_; clear S; intro b3 dG S)
    | (refine boxS 6 _ 147 S ?_; clear S; intro b6 dW S; obtain ⟨a_, aW, aY, aX, bM, bP, bC⟩ := St.eF S bI)
    | ((with_reducible refine aG (N := 14) rfl ?_); refine tJ (N := 14) rfl rfl ⟨ck, ⟨cx, cy, cw, ch⟩, aU, l⟩ S.out (S.out.tree _ (.head _)) ?hr ?_; (case hr => first | (go_simp; done) | (go_simp; rfl)); intro P6 Qr fZ S1 h1 h2; replace S := ae.mk S1; have rP := ae.mk h1; have vJ := ae.mk h2; clear S1 h1 h2; clear a_ aW aY aX bM bP bC)
    | (refine bH (some 15) Try.func148 S (nJ HT.out (tV ⟨ck, ⟨cx, cy, cw, ch⟩, aU, l⟩ CE.out vJ.out rP.out)) ?_; clear S; intro iT S)
    | (refine gY 147 6 25 #[.int .u8 0, .int .i64 0, .int .i64 0, .int .i64 0, .int .i64 0, .int .i64 0, .slice none 0 0, .slice none 0 0, .int .i64 0, .int .u8 0] 0 10 S ?_; clear S; intro mP S)
    | fail)
   refine bodyPost_ret (fC rfl _ _ b6 147 _ (0, 0) _ rfl (S.out.blk _ (.head _) _ rfl) Try.underlying147 rfl (by kernel_rfl)) rfl ?_
   exact ⟨rfl, S.out.below⟩
  | true =>
   have HT := ae.mk ht
   by_cases h1 : ax = 1 ∨ ax = 2
   case neg =>
    rw [if_neg (fun h => h1 h.2)] at hn
    subst hn
    obtain ⟨hxa, hxb, hxd⟩ := eqF (a := ax) (b := 1) (by omega)
    obtain ⟨hya, hyb, hyd⟩ := eqF (a := ax) (b := 2) (by omega)
    clear ht hn0 hpl h1
    go_enter Try.func157, Try.ntmps157
    go_wp2_with (first
     | (refine boxS 3 _ 26 S ?_; clear S; intro b3 dG S)
     | (refine boxS 6 _ 147 S ?_; clear S; intro b6 dW S; obtain ⟨a_, aW, aY, aX, bM, bP, bC⟩ := St.eF S bI)
     | ((with_reducible refine aG (N := 14) rfl ?_); refine tJ (N := 14) rfl rfl ⟨ck, ⟨cx, cy, cw, ch⟩, aU, l⟩ S.out (S.out.tree _ (.head _)) ?hr ?_; (case hr => first | (go_simp; done) | (go_simp; rfl)); intro P6 Qr fZ S1 h1 h2; replace S := ae.mk S1; have rP := ae.mk h1; have vJ := ae.mk h2; clear S1 h1 h2; clear a_ aW aY aX bM bP bC)
     | (refine bH (some 15) Try.func148 S (nJ HT.out (tV ⟨ck, ⟨cx, cy, cw, ch⟩, aU, l⟩ CE.out vJ.out rP.out)) ?_; clear S; intro iT S)
     | (refine gY 147 6 25 #[.int .u8 0, .int .i64 0, .int .i64 0, .int .i64 0, .int .i64 0, .int .i64 0, .slice none 0 0, .slice none 0 0, .int .i64 0, .int .u8 0] 0 10 S ?_; clear S; intro mP S)
     | fail)
    refine bodyPost_ret (fC rfl _ _ b6 147 _ (0, 0) _ rfl (S.out.blk _ (.head _) _ rfl) Try.underlying147 rfl (by kernel_rfl)) rfl ?_
    exact ⟨rfl, S.out.below⟩
   rw [if_pos ⟨ht, h1⟩] at hn
   cases hf : fP id ⟨ck, ⟨cx, cy, cw, ch⟩, aU, l⟩ with
   | none =>
    rw [hf] at hn
    simp only [] at hn
    subst hn
    have CX := ae.mk hf
    clear ht hn0 hpl hf
    have hw : ((ax != 1) = false ∧ decide (ax = 1) = true ∧ (ax == 1) = true) ∨ ((ax != 1) = true ∧ decide (ax = 1) = false ∧ (ax == 1) = false ∧ (ax != 2) = false ∧ decide (ax = 2) = true ∧ (ax == 2) = true) := by rcases h1 with h | h <;> subst h <;> simp
    rcases hw with ⟨hxa, hxb, Ud⟩ | ⟨hxa, hxb, Ud, hxd, hxe, hxf⟩
    all_goals
     clear h1
     go_enter Try.func157, Try.ntmps157
     go_wp2_with (first
      | (refine boxS 3 _ 26 S ?_; clear S; intro b3 dG S)
      | (refine boxS 6 _ 147 S ?_; clear S; intro b6 dW S; obtain ⟨a_, aW, aY, aX, bM, bP, bC⟩ := St.eF S bI)
      | ((with_reducible refine aG (N := 14) rfl ?_); refine tJ (N := 14) rfl rfl ⟨ck, ⟨cx, cy, cw, ch⟩, aU, l⟩ S.out (S.out.tree _ (.head _)) ?hr ?_; (case hr => first | (go_simp; done) | (go_simp; rfl)); intro P6 Qr fZ S1 h1 h2; replace S := ae.mk S1; have rP := ae.mk h1; have vJ := ae.mk h2; clear S1 h1 h2; clear a_ aW aY aX bM bP bC)
      | (refine bH (some 15) Try.func148 S (nJ HT.out (tV ⟨ck, ⟨cx, cy, cw, ch⟩, aU, l⟩ CE.out vJ.out rP.out)) ?_; clear S; intro iT S; obtain ⟨a_, aW, aY, aX, bM, bP, bC⟩ := St.eF S bI)
      | (refine EC (some 29) Try.func89 S (YP id ⟨ck, ⟨cx, cy, cw, ch⟩, aU, l⟩ CX.out HZ.out (S.out.tree _ (.head _))) ?_; clear S; intro Ap cp op mP S iH; clear a_ aW aY aX bM bP bC)
      | (refine Ai 147 6 34 #[.int .u8 0, .int .i64 0, .int .i64 0, .int .i64 0, .int .i64 0, .int .i64 0, .slice none 0 0, .slice none 0 0, .int .i64 0, .int .u8 0] 0 10 S ?_; clear S; intro Bq S)
      | fail)
     refine bodyPost_ret (fC rfl _ _ b6 147 _ (0, 0) _ rfl (S.out.blk _ bI _ rfl) Try.underlying147 rfl (by kernel_rfl)) rfl ?_
     exact ⟨rfl, S.out.below⟩
   | some p =>
    rw [hf] at hn
    simp only [] at hn
    have t_ := ae.mk (show p.length ≤ 1000000 by have := hpl p hf; have := HZ.out; omega)
    have CX := ae.mk hf
    obtain ⟨x, hx, _⟩ := (A8 id _).1 _ (Nat.le_refl _) p hf
    have HX := ae.mk hx
    cases hfr : Dp ax ⟨ck, ⟨cx, cy, cw, ch⟩, aU, l⟩ p with
    | some d => rw [hfr] at hn; exact absurd hn.symm hn0
    | none =>
     rw [hfr] at hn
     simp only [] at hn
     subst hn
     have HR := ae.mk (show nP (qW ax ⟨ck, ⟨cx, cy, cw, ch⟩, aU, l⟩ p) p.length = none from hfr)
     clear ht hn0 hpl hf hx hfr
     have hw : ((ax != 1) = false ∧ decide (ax = 1) = true ∧ (ax == 1) = true) ∨ ((ax != 1) = true ∧ decide (ax = 1) = false ∧ (ax == 1) = false ∧ (ax != 2) = false ∧ decide (ax = 2) = true ∧ (ax == 2) = true) := by rcases h1 with h | h <;> subst h <;> simp
     rcases hw with ⟨hxa, hxb, Ud⟩ | ⟨hxa, hxb, Ud, hxd, hxe, hxf⟩
     all_goals
      clear h1
      go_enter Try.func157, Try.ntmps157
      go_wp2_with (first
       | (refine boxS 3 _ 26 S ?_; clear S; intro b3 dG S)
       | (refine boxS 6 _ 147 S ?_; clear S; intro b6 dW S; obtain ⟨a_, aW, aY, aX, bM, bP, bC⟩ := St.eF S bI)
       | ((with_reducible refine aG (N := 14) rfl ?_); refine tJ (N := 14) rfl rfl ⟨ck, ⟨cx, cy, cw, ch⟩, aU, l⟩ S.out (S.out.tree _ (.head _)) ?hr ?_; (case hr => first | (go_simp; done) | (go_simp; rfl)); intro P6 Qr fZ S1 h1 h2; replace S := ae.mk S1; have rP := ae.mk h1; have vJ := ae.mk h2; clear S1 h1 h2; clear a_ aW aY aX bM bP bC)
       | (refine bH (some 15) Try.func148 S (nJ HT.out (tV ⟨ck, ⟨cx, cy, cw, ch⟩, aU, l⟩ CE.out vJ.out rP.out)) ?_; clear S; intro iT S; obtain ⟨a_, aW, aY, aX, bM, bP, bC⟩ := St.eF S bI)
       | (refine EC (some 29) Try.func89 S (Jz id ⟨ck, ⟨cx, cy, cw, ch⟩, aU, l⟩ p CX.out HZ.out (S.out.tree _ (.head _))) ?_; clear S; intro Ap cp op mP S iH; clear a_ aW aY aX bM bP bC)
       | fail)
      go_loopg [10] (p.length + 1) (fun gg v10 wr => ∃ n : Nat, v10 = .int .i64 ((n : Int) - 1) ∧ ae (n ≤ p.length) ∧ n ≤ gg ∧ ae (nP (qW ax ⟨ck, ⟨cx, cy, cw, ch⟩, aU, l⟩ p) n = none) ∧ ae (St w P [((Value.slice Ap p.length cp).ownBlock, op), (some b6, .cells #[.int .u8 0, .int .i64 0, .int .i64 0, .int .i64 0, .int .i64 0, .int .i64 0, .slice none 0 0, .slice none 0 0, .int .i64 0, .int .u8 0] 147 (0, 0)), (some b3, .cells #[.int .u8 ck, .int .i64 cx, .int .i64 cy, .int .i64 cw, .int .i64 ch, .int .i64 aU, .slice A l.length cc] 26 (0, 0))] [] [(.slice A l.length cc, l)] [] wr))
      case atStart => exact ⟨p.length, (by have := t_.out; congr 1; unfold wrap64; omega), ⟨Nat.le_refl _⟩, Nat.le_succ _, HR, S⟩
      case round =>
       clear S HR
       obtain ⟨n, rfl, HN, hgg, HR, S⟩ := hrel
       cases n with
       | zero =>
        go_wp2_with (first
         | (refine Ai 147 6 68 #[.int .u8 0, .int .i64 0, .int .i64 0, .int .i64 0, .int .i64 0, .int .i64 0, .slice none 0 0, .slice none 0 0, .int .i64 0, .int .u8 0] 0 10 S ?_; clear S; intro dG S)
         | fail)
        refine bodyPost_ret (fC rfl _ _ b6 147 _ (0, 0) _ rfl (S.out.blk _ bI _ rfl) Try.underlying147 rfl (by kernel_rfl)) rfl ?_
        exact ⟨rfl, S.out.below⟩
       | succ n =>
        have e1 : (((n + 1 : Nat) : Int) - 1) = (n : Int) := by omega
        rw [e1]
        have lK := ae.mk (show n < p.length from HN.out)
        have fG := ae.mk hgg
        have hw : wrap64 ((n : Int) - 1) = (n : Int) - 1 := by have := HN.out; have := t_.out; unfold wrap64; omega
        have HW := ae.mk hw
        have h0 : decide ((n : Int) ≥ 0) = true := decide_eq_true (Int.natCast_nonneg _)
        have wO : (0 : Int) ≤ (n : Int) := Int.natCast_nonneg _
        obtain ⟨z, qC, hi0, hi1⟩ := Dh p ⟨ck, ⟨cx, cy, cw, ch⟩, aU, l⟩ _ HX.out n lK.out
        obtain ⟨pq, hpq⟩ : ∃ pq, pq = p.take n := ⟨_, rfl⟩
        have hal : qW ax ⟨ck, ⟨cx, cy, cw, ch⟩, aU, l⟩ p n = fD ax z.f0 := by unfold qW; rw [qC]
        rw [← hpq] at qC
        have HAT := ae.mk qC
        have jo := ae.mk (And.intro hpq (Nat.le_of_lt lK.out))
        have Bv := ae.mk (show pq.length ≤ 1048576 by rw [hpq, List.length_take]; have := t_.out; omega)
        have hcut : ∀ W : World, (Instr.slice 41 (.slice Ap p.length cp) none (some (.int .i64 (n : Int))) none).run Try.prog W = .ok (.slice Ap pq.length cp) W := by
         intro W
         obtain ⟨i0, hi0, _, hsz, _⟩ := info_parts info3
         have h := GN (P := Try.prog) 41 3 .i64 Try.underlying41 hi0 Ap p.length cp (n : Int) (Int.natCast_nonneg _) (by have := lK.out; omega) (Fh iH.out S.out (.head _)).2 W
         rw [Int.toNat_natCast, show n = pq.length by rw [hpq, List.length_take]; have := lK.out; omega] at h
         rw [show n = pq.length by rw [hpq, List.length_take]; have := lK.out; omega]
         exact h
        have HI0 := ae.mk hi0
        have HI1 := ae.mk hi1
        have hr := HR.out
        rw [nP, hal] at hr
        clear hw hgg e1 hal hpq qC hi0 hi1
        cases ha : fD ax z.f0 with
        | false =>
         rw [ha, if_neg (by simp)] at hr
         replace HR := ae.mk hr
         have HA := ae.mk ha
         clear hr ha
         go_wp2
         refine iW (n := 11) (S := fun w' => St w _ _ _ _ _ w') (ds := [9]) (bA 11 0) (by kernel_rfl) rfl rfl (S.out.call (bJ (Below.refl _ _))) (fun hHeld => ?_); refine eX qQ.zJ qQ.vV (fun aj dZ => ?_)
         replace S := ae.mk (S.out.call (bJ (Below.refl _ _)))
         generalize wr.drew = CV at S hHeld ⊢
         refine dO 0 43 (bA 11 1) aj dZ hHeld ?_ (hv := by intro w' hs_; have a_ := (hs_.at dR 0).trans rfl; have aW := (hs_.at dR 1).trans rfl; have aY := (hs_.at dR 2).trans rfl; have aX := (hs_.at dR 3).trans rfl; have bM := (hs_.at dR 4).trans rfl; have bP := (hs_.at dR 5).trans rfl; have bC := (hs_.at dR 6).trans rfl; go_simp; with_reducible rfl)
         refine ay 1 44 (bA 11 3) aj ?_
         refine ay 2 45 (bA 11 7) aj ?_
         refine ay 3 46 (bA 11 15) aj ?_
         refine zV (σ := Option Addr × Nat × Nat) 2 (bA 11 511) (fun s_ => [(47, .tuple #[.agg #[.int .u8 z.f0, .int .i64 z.f1.f0, .int .i64 z.f1.f1, .int .i64 z.f1.f2, .int .i64 z.f1.f3, .int .i64 z.f2, .slice s_.1 z.f3.length s_.2.1], .bool true]), (42, .tuple #[.agg #[.int .u8 z.f0, .int .i64 z.f1.f0, .int .i64 z.f1.f1, .int .i64 z.f1.f2, .int .i64 z.f1.f3, .int .i64 z.f2, .slice s_.1 z.f3.length s_.2.1], .bool true]), (48, .agg #[.int .u8 z.f0, .int .i64 z.f1.f0, .int .i64 z.f1.f1, .int .i64 z.f1.f2, .int .i64 z.f1.f3, .int .i64 z.f2, .slice s_.1 z.f3.length s_.2.1]), (49, .bool true), (11, .pointer (some ⟨s_.2.2, 0, none⟩))]) (fun s_ w' => St w P [(some s_.2.2, .cells #[.int .u8 0, .int .i64 0, .int .i64 0, .int .i64 0, .int .i64 0, .int .i64 0, .slice none 0 0] 26 (0, 0)), ((Value.slice Ap p.length cp).ownBlock, op), (some b6, .cells #[.int .u8 0, .int .i64 0, .int .i64 0, .int .i64 0, .int .i64 0, .int .i64 0, .slice none 0 0, .slice none 0 0, .int .i64 0, .int .u8 0] 147 (0, 0)), (some b3, .cells #[.int .u8 ck, .int .i64 cx, .int .i64 cy, .int .i64 cw, .int .i64 ch, .int .i64 aU, .slice A l.length cc] 26 (0, 0))] [(.slice s_.1 z.f3.length s_.2.1, z.f3)] [(.slice A l.length cc, l)] [] w') ?_ ?_
         rotate_left
         ·intro kT
          refine Ei (i := 4) (j := 8) (Ni := some 47) (Nj := some 11) (bA 11 31) (bA 11 271) rfl rfl rfl rfl (yf aj.out (by kernel_rfl)) (by decide) (by decide) (fun K hK => ?_) (fun K hK => ?_)
          ·skip
           refine ik Try.func91 (by kernel_rfl) rfl #[.agg #[.int .u8 ck, .int .i64 cx, .int .i64 cy, .int .i64 cw, .int .i64 ch, .int .i64 aU, .slice A l.length cc], .slice Ap pq.length cp] (by rfl) rfl rfl (by (try simp only [List.map_toArray, List.map_cons, List.map_nil]); first | done | rfl) ?_
           refine (Ib ⟨ck, ⟨cx, cy, cw, ch⟩, aU, l⟩ pq z HAT.out Bv.out HZ.out (S.out.tree _ (.head _)) (eU iH.out S.out (.head _) jo.out).1 (eU iH.out S.out (.head _) jo.out).2).mono ?_
           rintro e dW ⟨Az, cz, rfl, h1, hb⟩
           refine ⟨_, rfl, ?_⟩
           replace S := ae.mk (S.out.yB h1 hb)
           clear h1 hb
           refine hK.out _ _ S.out.free.dE (fun hHeld => ?_)
           clear hK K
           refine ed 47 ?_
           refine ay 5 42 (bA 11 63) aj ?_
           refine ay 6 48 (bA 11 127) aj ?_
           refine ay 7 49 (bA 11 255) aj ?_
           refine jr (i := 8) (N := some 11) (bA 11 511) rfl rfl (dF aj.out (by kernel_rfl)) (by decide) (fun K hK => ?_)
           refine jH ?hg (N := 11) ?hd (cs := #[.int .u8 0, .int .i64 0, .int .i64 0, .int .i64 0, .int .i64 0, .int .i64 0, .slice none 0 0]) (t := 26) ?hr ?_; (case hd => rfl); (case hg => rfl); (case hr => first | (go_simp; done) | (go_simp; rfl))
           intro b11 hg fZ hbox hb
           replace S := ae.mk (S.out.box hg hbox hb)
           clear hg hbox hb
           refine hK.out _ _ S.out.dQ.free.dE (fun hHeld => ?_)
           clear hK K
           refine ed 11 ?_
           exact mf (by simp only [iM, Act.put, List.setIfInBounds_toArray, List.set_cons_zero, List.set_cons_succ] <;> rfl) (kT (Az, cz, b11) _ S.out)
          ·skip
           refine jH ?hg (N := 11) ?hd (cs := #[.int .u8 0, .int .i64 0, .int .i64 0, .int .i64 0, .int .i64 0, .int .i64 0, .slice none 0 0]) (t := 26) ?hr ?_; (case hd => rfl); (case hg => rfl); (case hr => first | (go_simp; done) | (go_simp; rfl))
           intro b11 hg iT hbox hb
           replace S := ae.mk (S.out.box hg hbox hb)
           clear hg hbox hb
           refine hK.out _ _ S.out.dQ (fun hHeld => ?_)
           clear hK K
           refine ed 11 ?_
           refine jr (i := 4) (N := some 47) (bA 11 287) rfl rfl (dF aj.out (by kernel_rfl)) (by decide) (fun K hK => ?_)
           refine ik Try.func91 (by kernel_rfl) rfl #[.agg #[.int .u8 ck, .int .i64 cx, .int .i64 cy, .int .i64 cw, .int .i64 ch, .int .i64 aU, .slice A l.length cc], .slice Ap pq.length cp] (by rfl) rfl rfl (by (try simp only [List.map_toArray, List.map_cons, List.map_nil]); first | done | rfl) ?_
           refine (Ib ⟨ck, ⟨cx, cy, cw, ch⟩, aU, l⟩ pq z HAT.out Bv.out HZ.out (S.out.tree _ (.head _)) (eU iH.out S.out bI jo.out).1 (eU iH.out S.out bI jo.out).2).mono ?_
           rintro e mP ⟨Az, cz, rfl, h1, hb⟩
           refine ⟨_, rfl, ?_⟩
           replace S := ae.mk (S.out.yB h1 hb)
           clear h1 hb
           refine hK.out _ _ S.out.dQ.free.dE (fun hHeld => ?_)
           clear hK K
           refine ed 47 ?_
           refine ay 5 42 (bA 11 319) aj ?_
           refine ay 6 48 (bA 11 383) aj ?_
           refine ay 7 49 (bA 11 511) aj ?_
           exact mf (by simp only [iM, Act.put, List.setIfInBounds_toArray, List.set_cons_zero, List.set_cons_succ] <;> rfl) (kT (Az, cz, b11) _ S.out)
         rintro ⟨Az, cz, b11⟩ PV S1
         simp only [iM, Act.put, List.setIfInBounds_toArray, List.set_cons_zero, List.set_cons_succ]
         replace S := ae.mk S1
         clear S1 hHeld
         have hHeld := S.out.dQ.free.dE
         refine ny (i := 9) (N := none) (bA 11 1023) rfl rfl (dF aj.out (by kernel_rfl)) (by decide) (fun K hK => ?_)
         refine oH 0 rfl 26 (.tmp 11) (.tmp 48) rfl #[.int .u8 z.f0, .int .i64 z.f1.f0, .int .i64 z.f1.f1, .int .i64 z.f1.f2, .int .i64 z.f1.f3, .int .i64 z.f2, .slice Az z.f3.length cz] (j := 0) (u := .agg #[.int .u8 z.f0, .int .i64 z.f1.f0, .int .i64 z.f1.f1, .int .i64 z.f1.f2, .int .i64 z.f1.f3, .int .i64 z.f2, .slice Az z.f3.length cz]) (bK := [.int .u8 z.f0, .int .i64 z.f1.f0, .int .i64 z.f1.f1, .int .i64 z.f1.f2, .int .i64 z.f1.f3, .int .i64 z.f2, .slice Az z.f3.length cz]) S.out (by rfl) rfl rfl rfl rfl (by kernel_rfl) (by simp [Value.oneCell']) (by first | decide | simp) rfl ?_
         intro yG S1
         simp only [List.set_cons_zero, List.set_cons_succ] at S1
         replace S := ae.mk S1
         clear S1
         refine hK.out _ _ ?_
         clear hK K
         refine ay 10 12 (bA 11 2047) aj ?_
         refine jK (gQ aj.out (by kernel_rfl)) ?_
         clear hHeld
         obtain ⟨uy, uz, uA, uB, uC, uD, rZ⟩ := St.eF S (.head _)
         go_wp2_with (first
          | (refine bH (some 52) Try.func99 S (AU (c := z) HA.out (Kd.qK (base' := 0) (S.out.own _ (.head _)))) ?_; clear S; intro zK S; clear uy uz uA uB uC uD rZ)
          | fail)
         have hw := HW.out
         go_wp2
         go_roundg n
         case measure => exact Nat.lt_of_lt_of_le (Nat.lt_succ_self _) fG.out
         case rel => exact ⟨n, (by rw [hw]), ⟨by have := HN.out; omega⟩, Nat.le_refl _, HR, ⟨S.out.free.dE.dQ.vw.vw.vw⟩⟩
        | true =>
         rw [ha, if_pos rfl] at hr
         cases hr
 ·intro p d z q ht h1 hf hfr hF
  have t_ := ae.mk (show p.length ≤ 1000000 by have := hpl p hf; have := HZ.out; omega)
  have CX := ae.mk hf
  obtain ⟨x, hx, _⟩ := (A8 id _).1 _ (Nat.le_refl _) p hf
  have HX := ae.mk hx
  have HT := ae.mk ht
  have wL := ae.mk hF
  have wM := ae.mk (show z.f3.length ≤ 1000000 by have h2 := Ic _ _ _ hF.at'; have h3 := cO z; have h4 := iq z.f3; have := HZ.out; omega)
  have HR := ae.mk (show nP (qW ax ⟨ck, ⟨cx, cy, cw, ch⟩, aU, l⟩ p) p.length = some d from hfr)
  clear ht hpl hf hx hfr hF
  have hw : ((ax != 1) = false ∧ decide (ax = 1) = true ∧ (ax == 1) = true) ∨ ((ax != 1) = true ∧ decide (ax = 1) = false ∧ (ax == 1) = false ∧ (ax != 2) = false ∧ decide (ax = 2) = true ∧ (ax == 2) = true) := by rcases h1 with h | h <;> subst h <;> simp
  rcases hw with ⟨hxa, hxb, Ud⟩ | ⟨hxa, hxb, Ud, hxd, hxe, hxf⟩
  all_goals
   clear h1
   go_enter Try.func157, Try.ntmps157
   go_wp2_with (first
    | (refine boxS 3 _ 26 S ?_; clear S; intro b3 dG S)
    | (refine boxS 6 _ 147 S ?_; clear S; intro b6 dW S; obtain ⟨a_, aW, aY, aX, bM, bP, bC⟩ := St.eF S bI)
    | ((with_reducible refine aG (N := 14) rfl ?_); refine tJ (N := 14) rfl rfl ⟨ck, ⟨cx, cy, cw, ch⟩, aU, l⟩ S.out (S.out.tree _ (.head _)) ?hr ?_; (case hr => first | (go_simp; done) | (go_simp; rfl)); intro P6 Qr fZ S1 h1 h2; replace S := ae.mk S1; have rP := ae.mk h1; have vJ := ae.mk h2; clear S1 h1 h2; clear a_ aW aY aX bM bP bC)
    | (refine bH (some 15) Try.func148 S (nJ HT.out (tV ⟨ck, ⟨cx, cy, cw, ch⟩, aU, l⟩ CE.out vJ.out rP.out)) ?_; clear S; intro iT S; obtain ⟨a_, aW, aY, aX, bM, bP, bC⟩ := St.eF S bI)
    | (refine EC (some 29) Try.func89 S (Jz id ⟨ck, ⟨cx, cy, cw, ch⟩, aU, l⟩ p CX.out HZ.out (S.out.tree _ (.head _))) ?_; clear S; intro Ap cp op mP S iH; clear a_ aW aY aX bM bP bC)
    | fail)
   go_loopg [10] (p.length + 1) (fun gg v10 wr => ∃ n : Nat, v10 = .int .i64 ((n : Int) - 1) ∧ ae (n ≤ p.length) ∧ n ≤ gg ∧ ae (nP (qW ax ⟨ck, ⟨cx, cy, cw, ch⟩, aU, l⟩ p) n = some d) ∧ ae (St w P [((Value.slice Ap p.length cp).ownBlock, op), (some b6, .cells #[.int .u8 0, .int .i64 0, .int .i64 0, .int .i64 0, .int .i64 0, .int .i64 0, .slice none 0 0, .slice none 0 0, .int .i64 0, .int .u8 0] 147 (0, 0)), (some b3, .cells #[.int .u8 ck, .int .i64 cx, .int .i64 cy, .int .i64 cw, .int .i64 ch, .int .i64 aU, .slice A l.length cc] 26 (0, 0))] [] [(.slice A l.length cc, l)] [] wr))
   case atStart => exact ⟨p.length, (by have := t_.out; congr 1; unfold wrap64; omega), ⟨Nat.le_refl _⟩, Nat.le_succ _, HR, S⟩
   case round =>
    clear S HR
    obtain ⟨n, rfl, HN, hgg, HR, S⟩ := hrel
    cases n with
    | zero =>
     have h := HR.out
     cases h
    | succ n =>
     have e1 : (((n + 1 : Nat) : Int) - 1) = (n : Int) := by omega
     rw [e1]
     have lK := ae.mk (show n < p.length from HN.out)
     have fG := ae.mk hgg
     have hw : wrap64 ((n : Int) - 1) = (n : Int) - 1 := by have := HN.out; have := t_.out; unfold wrap64; omega
     have HW := ae.mk hw
     have h0 : decide ((n : Int) ≥ 0) = true := decide_eq_true (Int.natCast_nonneg _)
     have wO : (0 : Int) ≤ (n : Int) := Int.natCast_nonneg _
     obtain ⟨z, qC, hi0, hi1⟩ := Dh p ⟨ck, ⟨cx, cy, cw, ch⟩, aU, l⟩ _ HX.out n lK.out
     obtain ⟨pq, hpq⟩ : ∃ pq, pq = p.take n := ⟨_, rfl⟩
     have hal : qW ax ⟨ck, ⟨cx, cy, cw, ch⟩, aU, l⟩ p n = fD ax z.f0 := by unfold qW; rw [qC]
     rw [← hpq] at qC
     have HAT := ae.mk qC
     have jo := ae.mk (And.intro hpq (Nat.le_of_lt lK.out))
     have Bv := ae.mk (show pq.length ≤ 1048576 by rw [hpq, List.length_take]; have := t_.out; omega)
     have hcut : ∀ W : World, (Instr.slice 41 (.slice Ap p.length cp) none (some (.int .i64 (n : Int))) none).run Try.prog W = .ok (.slice Ap pq.length cp) W := by
      intro W
      obtain ⟨i0, hi0, _, hsz, _⟩ := info_parts info3
      have h := GN (P := Try.prog) 41 3 .i64 Try.underlying41 hi0 Ap p.length cp (n : Int) (Int.natCast_nonneg _) (by have := lK.out; omega) (Fh iH.out S.out (.head _)).2 W
      rw [Int.toNat_natCast, show n = pq.length by rw [hpq, List.length_take]; have := lK.out; omega] at h
      rw [show n = pq.length by rw [hpq, List.length_take]; have := lK.out; omega]
      exact h
     have HI0 := ae.mk hi0
     have HI1 := ae.mk hi1
     have hr := HR.out
     rw [nP, hal] at hr
     clear hw hgg e1 hal hpq qC hi0 hi1
     cases ha : fD ax z.f0 with
     | false =>
      rw [ha, if_neg (by simp)] at hr
      replace HR := ae.mk hr
      have HA := ae.mk ha
      clear hr ha
      go_wp2
      refine iW (n := 11) (S := fun w' => St w _ _ _ _ _ w') (ds := [9]) (bA 11 0) (by kernel_rfl) rfl rfl (S.out.call (bJ (Below.refl _ _))) (fun hHeld => ?_); refine eX qQ.zJ qQ.vV (fun aj dZ => ?_)
      replace S := ae.mk (S.out.call (bJ (Below.refl _ _)))
      generalize wr.drew = CV at S hHeld ⊢
      refine dO 0 43 (bA 11 1) aj dZ hHeld ?_ (hv := by intro w' hs_; have a_ := (hs_.at dR 0).trans rfl; have aW := (hs_.at dR 1).trans rfl; have aY := (hs_.at dR 2).trans rfl; have aX := (hs_.at dR 3).trans rfl; have bM := (hs_.at dR 4).trans rfl; have bP := (hs_.at dR 5).trans rfl; have bC := (hs_.at dR 6).trans rfl; go_simp; with_reducible rfl)
      refine ay 1 44 (bA 11 3) aj ?_
      refine ay 2 45 (bA 11 7) aj ?_
      refine ay 3 46 (bA 11 15) aj ?_
      refine zV (σ := Option Addr × Nat × Nat) 2 (bA 11 511) (fun s_ => [(47, .tuple #[.agg #[.int .u8 z.f0, .int .i64 z.f1.f0, .int .i64 z.f1.f1, .int .i64 z.f1.f2, .int .i64 z.f1.f3, .int .i64 z.f2, .slice s_.1 z.f3.length s_.2.1], .bool true]), (42, .tuple #[.agg #[.int .u8 z.f0, .int .i64 z.f1.f0, .int .i64 z.f1.f1, .int .i64 z.f1.f2, .int .i64 z.f1.f3, .int .i64 z.f2, .slice s_.1 z.f3.length s_.2.1], .bool true]), (48, .agg #[.int .u8 z.f0, .int .i64 z.f1.f0, .int .i64 z.f1.f1, .int .i64 z.f1.f2, .int .i64 z.f1.f3, .int .i64 z.f2, .slice s_.1 z.f3.length s_.2.1]), (49, .bool true), (11, .pointer (some ⟨s_.2.2, 0, none⟩))]) (fun s_ w' => St w P [(some s_.2.2, .cells #[.int .u8 0, .int .i64 0, .int .i64 0, .int .i64 0, .int .i64 0, .int .i64 0, .slice none 0 0] 26 (0, 0)), ((Value.slice Ap p.length cp).ownBlock, op), (some b6, .cells #[.int .u8 0, .int .i64 0, .int .i64 0, .int .i64 0, .int .i64 0, .int .i64 0, .slice none 0 0, .slice none 0 0, .int .i64 0, .int .u8 0] 147 (0, 0)), (some b3, .cells #[.int .u8 ck, .int .i64 cx, .int .i64 cy, .int .i64 cw, .int .i64 ch, .int .i64 aU, .slice A l.length cc] 26 (0, 0))] [(.slice s_.1 z.f3.length s_.2.1, z.f3)] [(.slice A l.length cc, l)] [] w') ?_ ?_
      rotate_left
      ·intro kT
       refine Ei (i := 4) (j := 8) (Ni := some 47) (Nj := some 11) (bA 11 31) (bA 11 271) rfl rfl rfl rfl (yf aj.out (by kernel_rfl)) (by decide) (by decide) (fun K hK => ?_) (fun K hK => ?_)
       ·skip
        refine ik Try.func91 (by kernel_rfl) rfl #[.agg #[.int .u8 ck, .int .i64 cx, .int .i64 cy, .int .i64 cw, .int .i64 ch, .int .i64 aU, .slice A l.length cc], .slice Ap pq.length cp] (by rfl) rfl rfl (by (try simp only [List.map_toArray, List.map_cons, List.map_nil]); first | done | rfl) ?_
        refine (Ib ⟨ck, ⟨cx, cy, cw, ch⟩, aU, l⟩ pq z HAT.out Bv.out HZ.out (S.out.tree _ (.head _)) (eU iH.out S.out (.head _) jo.out).1 (eU iH.out S.out (.head _) jo.out).2).mono ?_
        rintro e dW ⟨Az, cz, rfl, h1, hb⟩
        refine ⟨_, rfl, ?_⟩
        replace S := ae.mk (S.out.yB h1 hb)
        clear h1 hb
        refine hK.out _ _ S.out.free.dE (fun hHeld => ?_)
        clear hK K
        refine ed 47 ?_
        refine ay 5 42 (bA 11 63) aj ?_
        refine ay 6 48 (bA 11 127) aj ?_
        refine ay 7 49 (bA 11 255) aj ?_
        refine jr (i := 8) (N := some 11) (bA 11 511) rfl rfl (dF aj.out (by kernel_rfl)) (by decide) (fun K hK => ?_)
        refine jH ?hg (N := 11) ?hd (cs := #[.int .u8 0, .int .i64 0, .int .i64 0, .int .i64 0, .int .i64 0, .int .i64 0, .slice none 0 0]) (t := 26) ?hr ?_; (case hd => rfl); (case hg => rfl); (case hr => first | (go_simp; done) | (go_simp; rfl))
        intro b11 hg fZ hbox hb
        replace S := ae.mk (S.out.box hg hbox hb)
        clear hg hbox hb
        refine hK.out _ _ S.out.dQ.free.dE (fun hHeld => ?_)
        clear hK K
        refine ed 11 ?_
        exact mf (by simp only [iM, Act.put, List.setIfInBounds_toArray, List.set_cons_zero, List.set_cons_succ] <;> rfl) (kT (Az, cz, b11) _ S.out)
       ·skip
        refine jH ?hg (N := 11) ?hd (cs := #[.int .u8 0, .int .i64 0, .int .i64 0, .int .i64 0, .int .i64 0, .int .i64 0, .slice none 0 0]) (t := 26) ?hr ?_; (case hd => rfl); (case hg => rfl); (case hr => first | (go_simp; done) | (go_simp; rfl))
        intro b11 hg iT hbox hb
        replace S := ae.mk (S.out.box hg hbox hb)
        clear hg hbox hb
        refine hK.out _ _ S.out.dQ (fun hHeld => ?_)
        clear hK K
        refine ed 11 ?_
        refine jr (i := 4) (N := some 47) (bA 11 287) rfl rfl (dF aj.out (by kernel_rfl)) (by decide) (fun K hK => ?_)
        refine ik Try.func91 (by kernel_rfl) rfl #[.agg #[.int .u8 ck, .int .i64 cx, .int .i64 cy, .int .i64 cw, .int .i64 ch, .int .i64 aU, .slice A l.length cc], .slice Ap pq.length cp] (by rfl) rfl rfl (by (try simp only [List.map_toArray, List.map_cons, List.map_nil]); first | done | rfl) ?_
        refine (Ib ⟨ck, ⟨cx, cy, cw, ch⟩, aU, l⟩ pq z HAT.out Bv.out HZ.out (S.out.tree _ (.head _)) (eU iH.out S.out bI jo.out).1 (eU iH.out S.out bI jo.out).2).mono ?_
        rintro e mP ⟨Az, cz, rfl, h1, hb⟩
        refine ⟨_, rfl, ?_⟩
        replace S := ae.mk (S.out.yB h1 hb)
        clear h1 hb
        refine hK.out _ _ S.out.dQ.free.dE (fun hHeld => ?_)
        clear hK K
        refine ed 47 ?_
        refine ay 5 42 (bA 11 319) aj ?_
        refine ay 6 48 (bA 11 383) aj ?_
        refine ay 7 49 (bA 11 511) aj ?_
        exact mf (by simp only [iM, Act.put, List.setIfInBounds_toArray, List.set_cons_zero, List.set_cons_succ] <;> rfl) (kT (Az, cz, b11) _ S.out)
      rintro ⟨Az, cz, b11⟩ PV S1
      simp only [iM, Act.put, List.setIfInBounds_toArray, List.set_cons_zero, List.set_cons_succ]
      replace S := ae.mk S1
      clear S1 hHeld
      have hHeld := S.out.dQ.free.dE
      refine ny (i := 9) (N := none) (bA 11 1023) rfl rfl (dF aj.out (by kernel_rfl)) (by decide) (fun K hK => ?_)
      refine oH 0 rfl 26 (.tmp 11) (.tmp 48) rfl #[.int .u8 z.f0, .int .i64 z.f1.f0, .int .i64 z.f1.f1, .int .i64 z.f1.f2, .int .i64 z.f1.f3, .int .i64 z.f2, .slice Az z.f3.length cz] (j := 0) (u := .agg #[.int .u8 z.f0, .int .i64 z.f1.f0, .int .i64 z.f1.f1, .int .i64 z.f1.f2, .int .i64 z.f1.f3, .int .i64 z.f2, .slice Az z.f3.length cz]) (bK := [.int .u8 z.f0, .int .i64 z.f1.f0, .int .i64 z.f1.f1, .int .i64 z.f1.f2, .int .i64 z.f1.f3, .int .i64 z.f2, .slice Az z.f3.length cz]) S.out (by rfl) rfl rfl rfl rfl (by kernel_rfl) (by simp [Value.oneCell']) (by first | decide | simp) rfl ?_
      intro yG S1
      simp only [List.set_cons_zero, List.set_cons_succ] at S1
      replace S := ae.mk S1
      clear S1
      refine hK.out _ _ ?_
      clear hK K
      refine ay 10 12 (bA 11 2047) aj ?_
      refine jK (gQ aj.out (by kernel_rfl)) ?_
      clear hHeld
      obtain ⟨uy, uz, uA, uB, uC, uD, rZ⟩ := St.eF S (.head _)
      go_wp2_with (first
       | (refine bH (some 52) Try.func99 S (AU (c := z) HA.out (Kd.qK (base' := 0) (S.out.own _ (.head _)))) ?_; clear S; intro zK S; clear uy uz uA uB uC uD rZ)
       | fail)
      have hw := HW.out
      go_wp2
      go_roundg n
      case measure => exact Nat.lt_of_lt_of_le (Nat.lt_succ_self _) fG.out
      case rel => exact ⟨n, (by rw [hw]), ⟨by have := HN.out; omega⟩, Nat.le_refl _, HR, ⟨S.out.free.dE.dQ.vw.vw.vw⟩⟩
     | true =>
      rw [ha, if_pos rfl] at hr
      injection hr with hr
      subst hr
      have hzz := HAT.out
      rw [jo.out.1, wL.out.at'] at hzz
      injection hzz with hzz
      subst hzz
      have HA := ae.mk ha
      clear ha
      obtain ⟨yE, ek, _⟩ := Kd.iU (Fh iH.out S.out (.head _)).1 (n : Int) (Int.natCast_nonneg _) (by have := lK.out; omega)
      subst ek
      have HW2 := ae.mk (show wrap64 ((z.f3.length : Int) - 2) = (z.f3.length : Int) - 2 by have := wL.out.len; have := wM.out; unfold wrap64; omega)
      have Qc := ae.mk (show (n : Int) < (p.length : Int) by have := lK.out; omega)
      have hnn : n < p.length := lK.out
      go_wp2
      refine iW (n := 11) (S := fun w' => St w _ _ _ _ _ w') (ds := [9]) (bA 11 0) (by kernel_rfl) rfl rfl (S.out.call (bJ (Below.refl _ _))) (fun hHeld => ?_); refine eX qQ.zJ qQ.vV (fun aj dZ => ?_)
      replace S := ae.mk (S.out.call (bJ (Below.refl _ _)))
      generalize wr.drew = CV at S hHeld ⊢
      refine dO 0 43 (bA 11 1) aj dZ hHeld ?_ (hv := by intro w' hs_; have a_ := (hs_.at dR 0).trans rfl; have aW := (hs_.at dR 1).trans rfl; have aY := (hs_.at dR 2).trans rfl; have aX := (hs_.at dR 3).trans rfl; have bM := (hs_.at dR 4).trans rfl; have bP := (hs_.at dR 5).trans rfl; have bC := (hs_.at dR 6).trans rfl; go_simp; with_reducible rfl)
      refine ay 1 44 (bA 11 3) aj ?_
      refine ay 2 45 (bA 11 7) aj ?_
      refine ay 3 46 (bA 11 15) aj ?_
      refine zV (σ := Option Addr × Nat × Nat) 2 (bA 11 511) (fun s_ => [(47, .tuple #[.agg #[.int .u8 z.f0, .int .i64 z.f1.f0, .int .i64 z.f1.f1, .int .i64 z.f1.f2, .int .i64 z.f1.f3, .int .i64 z.f2, .slice s_.1 z.f3.length s_.2.1], .bool true]), (42, .tuple #[.agg #[.int .u8 z.f0, .int .i64 z.f1.f0, .int .i64 z.f1.f1, .int .i64 z.f1.f2, .int .i64 z.f1.f3, .int .i64 z.f2, .slice s_.1 z.f3.length s_.2.1], .bool true]), (48, .agg #[.int .u8 z.f0, .int .i64 z.f1.f0, .int .i64 z.f1.f1, .int .i64 z.f1.f2, .int .i64 z.f1.f3, .int .i64 z.f2, .slice s_.1 z.f3.length s_.2.1]), (49, .bool true), (11, .pointer (some ⟨s_.2.2, 0, none⟩))]) (fun s_ w' => St w P [(some s_.2.2, .cells #[.int .u8 0, .int .i64 0, .int .i64 0, .int .i64 0, .int .i64 0, .int .i64 0, .slice none 0 0] 26 (0, 0)), ((Value.slice (some yE) p.length cp).ownBlock, op), (some b6, .cells #[.int .u8 0, .int .i64 0, .int .i64 0, .int .i64 0, .int .i64 0, .int .i64 0, .slice none 0 0, .slice none 0 0, .int .i64 0, .int .u8 0] 147 (0, 0)), (some b3, .cells #[.int .u8 ck, .int .i64 cx, .int .i64 cy, .int .i64 cw, .int .i64 ch, .int .i64 aU, .slice A l.length cc] 26 (0, 0))] [(.slice s_.1 z.f3.length s_.2.1, z.f3)] [(.slice A l.length cc, l)] [] w') ?_ ?_
      rotate_left
      ·intro kT
       refine Ei (i := 4) (j := 8) (Ni := some 47) (Nj := some 11) (bA 11 31) (bA 11 271) rfl rfl rfl rfl (yf aj.out (by kernel_rfl)) (by decide) (by decide) (fun K hK => ?_) (fun K hK => ?_)
       ·skip
        refine ik Try.func91 (by kernel_rfl) rfl #[.agg #[.int .u8 ck, .int .i64 cx, .int .i64 cy, .int .i64 cw, .int .i64 ch, .int .i64 aU, .slice A l.length cc], .slice (some yE) pq.length cp] (by rfl) rfl rfl (by (try simp only [List.map_toArray, List.map_cons, List.map_nil]); first | done | rfl) ?_
        refine (Ib ⟨ck, ⟨cx, cy, cw, ch⟩, aU, l⟩ pq z HAT.out Bv.out HZ.out (S.out.tree _ (.head _)) (eU iH.out S.out (.head _) jo.out).1 (eU iH.out S.out (.head _) jo.out).2).mono ?_
        rintro e dW ⟨Az, cz, rfl, h1, hb⟩
        refine ⟨_, rfl, ?_⟩
        replace S := ae.mk (S.out.yB h1 hb)
        clear h1 hb
        refine hK.out _ _ S.out.free.dE (fun hHeld => ?_)
        clear hK K
        refine ed 47 ?_
        refine ay 5 42 (bA 11 63) aj ?_
        refine ay 6 48 (bA 11 127) aj ?_
        refine ay 7 49 (bA 11 255) aj ?_
        refine jr (i := 8) (N := some 11) (bA 11 511) rfl rfl (dF aj.out (by kernel_rfl)) (by decide) (fun K hK => ?_)
        refine jH ?hg (N := 11) ?hd (cs := #[.int .u8 0, .int .i64 0, .int .i64 0, .int .i64 0, .int .i64 0, .int .i64 0, .slice none 0 0]) (t := 26) ?hr ?_; (case hd => rfl); (case hg => rfl); (case hr => first | (go_simp; done) | (go_simp; rfl))
        intro b11 hg fZ hbox hb
        replace S := ae.mk (S.out.box hg hbox hb)
        clear hg hbox hb
        refine hK.out _ _ S.out.dQ.free.dE (fun hHeld => ?_)
        clear hK K
        refine ed 11 ?_
        exact mf (by simp only [iM, Act.put, List.setIfInBounds_toArray, List.set_cons_zero, List.set_cons_succ] <;> rfl) (kT (Az, cz, b11) _ S.out)
       ·skip
        refine jH ?hg (N := 11) ?hd (cs := #[.int .u8 0, .int .i64 0, .int .i64 0, .int .i64 0, .int .i64 0, .int .i64 0, .slice none 0 0]) (t := 26) ?hr ?_; (case hd => rfl); (case hg => rfl); (case hr => first | (go_simp; done) | (go_simp; rfl))
        intro b11 hg iT hbox hb
        replace S := ae.mk (S.out.box hg hbox hb)
        clear hg hbox hb
        refine hK.out _ _ S.out.dQ (fun hHeld => ?_)
        clear hK K
        refine ed 11 ?_
        refine jr (i := 4) (N := some 47) (bA 11 287) rfl rfl (dF aj.out (by kernel_rfl)) (by decide) (fun K hK => ?_)
        refine ik Try.func91 (by kernel_rfl) rfl #[.agg #[.int .u8 ck, .int .i64 cx, .int .i64 cy, .int .i64 cw, .int .i64 ch, .int .i64 aU, .slice A l.length cc], .slice (some yE) pq.length cp] (by rfl) rfl rfl (by (try simp only [List.map_toArray, List.map_cons, List.map_nil]); first | done | rfl) ?_
        refine (Ib ⟨ck, ⟨cx, cy, cw, ch⟩, aU, l⟩ pq z HAT.out Bv.out HZ.out (S.out.tree _ (.head _)) (eU iH.out S.out bI jo.out).1 (eU iH.out S.out bI jo.out).2).mono ?_
        rintro e mP ⟨Az, cz, rfl, h1, hb⟩
        refine ⟨_, rfl, ?_⟩
        replace S := ae.mk (S.out.yB h1 hb)
        clear h1 hb
        refine hK.out _ _ S.out.dQ.free.dE (fun hHeld => ?_)
        clear hK K
        refine ed 47 ?_
        refine ay 5 42 (bA 11 319) aj ?_
        refine ay 6 48 (bA 11 383) aj ?_
        refine ay 7 49 (bA 11 511) aj ?_
        exact mf (by simp only [iM, Act.put, List.setIfInBounds_toArray, List.set_cons_zero, List.set_cons_succ] <;> rfl) (kT (Az, cz, b11) _ S.out)
      rintro ⟨Az, cz, b11⟩ PV S1
      simp only [iM, Act.put, List.setIfInBounds_toArray, List.set_cons_zero, List.set_cons_succ]
      replace S := ae.mk S1
      clear S1 hHeld
      have hHeld := S.out.dQ.free.dE
      refine ny (i := 9) (N := none) (bA 11 1023) rfl rfl (dF aj.out (by kernel_rfl)) (by decide) (fun K hK => ?_)
      refine oH 0 rfl 26 (.tmp 11) (.tmp 48) rfl #[.int .u8 z.f0, .int .i64 z.f1.f0, .int .i64 z.f1.f1, .int .i64 z.f1.f2, .int .i64 z.f1.f3, .int .i64 z.f2, .slice Az z.f3.length cz] (j := 0) (u := .agg #[.int .u8 z.f0, .int .i64 z.f1.f0, .int .i64 z.f1.f1, .int .i64 z.f1.f2, .int .i64 z.f1.f3, .int .i64 z.f2, .slice Az z.f3.length cz]) (bK := [.int .u8 z.f0, .int .i64 z.f1.f0, .int .i64 z.f1.f1, .int .i64 z.f1.f2, .int .i64 z.f1.f3, .int .i64 z.f2, .slice Az z.f3.length cz]) S.out (by rfl) rfl rfl rfl rfl (by kernel_rfl) (by simp [Value.oneCell']) (by first | decide | simp) rfl ?_
      intro yG S1
      simp only [List.set_cons_zero, List.set_cons_succ] at S1
      replace S := ae.mk S1
      clear S1
      refine hK.out _ _ ?_
      clear hK K
      refine ay 10 12 (bA 11 2047) aj ?_
      refine jK (gQ aj.out (by kernel_rfl)) ?_
      clear hHeld
      obtain ⟨uy, uz, uA, uB, uC, uD, rZ⟩ := St.eF S (.head _)
      go_wp2_with (first
       | (refine bH (some 52) Try.func99 S (AU (c := z) HA.out (Kd.qK (base' := 0) (S.out.own _ (.head _)))) ?_; clear S; intro zK S; clear uy uz uA uB uC uD rZ)
       | fail)
      refine iW (n := 17) (S := fun w' => St w _ _ _ _ _ w') (ds := [15]) (bA 17 0) (by kernel_rfl) rfl rfl (S.out.call (bJ (Below.refl _ _))) (fun hHeld => ?_); refine eX vG.afM vG.ace (fun aj dZ => ?_)
      replace S := ae.mk (S.out.call (bJ (Below.refl _ _)))
      generalize zK.drew = wd9 at S hHeld ⊢
      refine dO 0 53 (bA 17 1) aj dZ hHeld ?_ (hv := by intro w' hs_; have uy := (hs_.at (.head _) 0).trans rfl; have uz := (hs_.at (.head _) 1).trans rfl; have uA := (hs_.at (.head _) 2).trans rfl; have uB := (hs_.at (.head _) 3).trans rfl; have uC := (hs_.at (.head _) 4).trans rfl; have uD := (hs_.at (.head _) 5).trans rfl; have rZ := (hs_.at (.head _) 6).trans rfl; go_simp; with_reducible rfl)
      refine ay 1 54 (bA 17 3) aj ?_
      refine ay 2 55 (bA 17 7) aj ?_
      refine ay 3 56 (bA 17 15) aj ?_
      refine ay 4 57 (bA 17 31) aj ?_
      refine ay 5 58 (bA 17 63) aj ?_
      refine ay 6 59 (bA 17 127) aj ?_
      refine dO 7 60 (bA 17 255) aj dZ hHeld ?_ (hv := by intro w' hs_; have xp := Bz iH.out (hs_.blk _ bI) n Qc.out; go_simp; with_reducible rfl)
      refine ay 8 61 (bA 17 511) aj ?_
      refine dO 9 62 (bA 17 1023) aj dZ hHeld ?_ (hv := by intro w' hs_; have rZ := (hs_.at (.head _) 6).trans rfl; go_simp; with_reducible rfl)
      refine ay 10 63 (bA 17 2047) aj ?_
      refine ay 11 64 (bA 17 4095) aj ?_
      refine ay 12 65 (bA 17 8191) aj ?_
      refine ay 13 66 (bA 17 16383) aj ?_
      refine ay 14 67 (bA 17 32767) aj ?_
      refine ny (i := 15) (N := none) (bA 17 65535) rfl rfl (dF aj.out (by kernel_rfl)) (by decide) (fun K hK => ?_)
      refine oH 2 rfl 147 (.tmp 6) (.tmp 67) rfl #[.int .u8 z.f0, .int .i64 z.f1.f0, .int .i64 z.f1.f1, .int .i64 z.f1.f2, .int .i64 z.f1.f3, .int .i64 z.f2, .slice Az z.f3.length cz, .slice (some yE) pq.length cp, .int .i64 (mn (rd p (n : Int)) (wrap64 ((z.f3.length : Int) - 2))), .int .u8 ax] (j := 0) (u := .agg #[.int .u8 z.f0, .int .i64 z.f1.f0, .int .i64 z.f1.f1, .int .i64 z.f1.f2, .int .i64 z.f1.f3, .int .i64 z.f2, .slice Az z.f3.length cz, .slice (some yE) pq.length cp, .int .i64 (mn (rd p (n : Int)) (wrap64 ((z.f3.length : Int) - 2))), .int .u8 ax]) (bK := [.int .u8 z.f0, .int .i64 z.f1.f0, .int .i64 z.f1.f1, .int .i64 z.f1.f2, .int .i64 z.f1.f3, .int .i64 z.f2, .slice Az z.f3.length cz, .slice (some yE) pq.length cp, .int .i64 (mn (rd p (n : Int)) (wrap64 ((z.f3.length : Int) - 2))), .int .u8 ax]) S.out (by rfl) rfl rfl rfl rfl (by kernel_rfl) (by simp [Value.oneCell']) (by first | decide | simp) rfl ?_
      intro Aw S1
      simp only [List.set_cons_zero, List.set_cons_succ] at S1
      replace S := ae.mk S1
      clear S1
      refine hK.out _ _ ?_
      clear hK K
      refine ay 16 7 (bA 17 131071) aj ?_
      refine jK (gQ aj.out (by kernel_rfl)) ?_
      clear hHeld
      go_wp2
      all_goals
       refine bodyPost_ret (fC rfl _ _ b6 147 _ (0, 0) _ rfl (S.out.blk _ dR _ rfl) Try.underlying147 rfl (by kernel_rfl)) rfl ?_
       rw [jo.out.1]
       exact ⟨_, _, _, _, _, (by rw [wL.out.hq, HW2.out]; rfl), iH.out, S.out.dQ.ug.dQ.ug.dQ.dE⟩
end Go.Proofs.Ytfdmfgaiblfbhaa.P
namespace Go.Proofs.Ytfdmfgaiblfbhaa.P
open Go.RowKit Go.Proofs.ag.aK Go.Proofs.ag.bG Go.Proofs.ag.bU
def xW.T1 : Bool × List (List Nat × List Nat) := (true, [([], []), ([0], [0]), ([1], [1]), ([2], [2]), ([3], [3]), ([], []), ([4, 5], [4, 5]), ([6], [6]), ([], []), ([8], [8]), ([9], [9]), ([10], [10]), ([7, 11], [7, 11]), ([12, 12, 0, 1, 2, 3, 4, 5, 6, 7, 8, 9, 10, 11, 12], [12])])
def xW.B1 : List Nat := [0, 1, 3, 7, 15, 0, 63, 127, 0, 256, 768, 1792, 4095, 8191]
theorem xW.Xq : iO .any (opsOf Try.f164 1) = xW.T1 := by kernel_rfl
theorem xW.Ql : iQ xW.T1.2 xW.B1 = true := by kernel_rfl
theorem jI {g : Nat} {fk fx fy fw fh zU ax : Int} {VP : Value} {q : Nat} {A : Option Addr} {cap : Nat} {L : List ai} {b : Nat} {P : Nat → Prop} {w : World} (i : Nat) (hi : i < L.length) (hz : dJ L ≤ 1000000) (hF : w.heap[g]? = some (.cells #[.int .u8 fk, .int .i64 fx, .int .i64 fy, .int .i64 fw, .int .i64 fh, .int .i64 zU, .slice A L.length cap, VP, .int .i64 (q : Int), .int .u8 ax] 147 (0, 0))) (hv : Kd.V k26 26 w b P (.slice A L.length cap) L) :
  Calls Try.prog 164 #[.pointer (some ⟨g, 0, none⟩), .int .i64 (i : Int)] w fun e w' => e = .returned (.int .i64 (az ax (kd L i))) ∧ Below w.heap.size w w' := by
 have S := ae.mk (St.start (ts := [(.slice A L.length cap, L)]) (b0 := w.heap.size) (w := w) (P := P) (fun t ht => by rw [List.mem_singleton.1 ht]; exact fM hv))
 replace S := ae.mk (S.out.yT (show w.cell? ⟨g, 6, none⟩ = some (.slice A L.length cap) from (af hF 6).trans rfl))
 replace S := ae.mk (S.out.yT (show w.cell? ⟨g, 9, none⟩ = some (.int .u8 ax) from (af hF 9).trans rfl))
 have hi0 : (0 : Int) ≤ (i : Int) := Int.natCast_nonneg _
 have hi1 : (i : Int) < (L.length : Int) := by omega
 obtain ⟨jT, ua, uc, ek, S1⟩ := S.out.elem (.head _) (i : Int) hi0 hi1
 subst ek
 rw [Kt] at S1
 simp only [Int.toNat_natCast] at S1
 have kM := ae.mk (show sz (kd L i) ≤ 1048576 by have := uK (lL hi); omega)
 generalize kd L i = k at S1 kM ⊢
 replace S := ae.mk S1
 clear S1 hF hv hz
 go_enter Try.func164, Try.ntmps164
 go_wp2
 refine iW (n := 14) (S := fun w' => St w _ _ _ _ _ w') (ds := []) (bA 14 0) (by kernel_rfl) rfl rfl (S.out.call (bJ (Below.refl _ _))) (fun hHeld => ?_); refine eX xW.Xq xW.Ql (fun aj dZ => ?_)
 replace S := ae.mk (S.out.call (bJ (Below.refl _ _)))
 generalize w.drew = CV at S hHeld ⊢
 refine ay 0 5 (bA 14 1) aj ?_
 refine ay 1 6 (bA 14 3) aj ?_
 refine ay 2 7 (bA 14 7) aj ?_
 refine ay 3 8 (bA 14 15) aj ?_
 refine dO 4 9 (bA 14 31) aj dZ hHeld ?_ (hv := by intro w' hs_; have y8_ := (hs_.cell _ mm8).1; go_simp; with_reducible rfl)
 refine ay 5 10 (bA 14 63) aj ?_
 refine ay 6 11 (bA 14 127) aj ?_
 refine dO 7 12 (bA 14 255) aj dZ hHeld ?_ (hv := by intro w' hs_; have f_ := (hs_.cell _ (.head _)).1; have iy := (hs_.cell _ bI).1; have jh := (hs_.cell _ dR).1; have iY := (hs_.cell _ lG).1; have iZ := (hs_.cell _ qM).1; have kE := (hs_.cell _ CQ).1; have kF := (hs_.cell _ CS).1; go_simp; with_reducible rfl)
 refine ay 8 13 (bA 14 511) aj ?_
 refine ay 9 14 (bA 14 1023) aj ?_
 refine ay 10 15 (bA 14 2047) aj ?_
 refine dO 11 16 (bA 14 4095) aj dZ hHeld ?_ (hv := by intro w' hs_; have JW := (hs_.cell _ Ut).1; go_simp; with_reducible rfl)
 refine jr (i := 12) (N := some 17) (bA 14 8191) rfl rfl (dF aj.out (by kernel_rfl)) (by decide) (fun K hK => ?_)
 refine ik Try.func86 (by kernel_rfl) rfl #[.agg #[.int .u8 k.f0, .int .i64 k.f1.f0, .int .i64 k.f1.f1, .int .i64 k.f1.f2, .int .i64 k.f1.f3, .int .i64 k.f2, .slice ua k.f3.length uc], .int .u8 ax] (by rfl) rfl rfl (by (try simp only [List.map_toArray, List.map_cons, List.map_nil]); first | done | rfl) ?_
 refine (Ba k ax kM.out (S.out.tree _ (.head _))).mono ?_
 rintro e dW ⟨rfl, hb⟩
 refine ⟨_, rfl, ?_⟩
 replace S := ae.mk (S.out.call hb)
 clear hb
 refine hK.out _ _ S.out (fun hHeld => ?_)
 clear hK K
 refine ed 17 ?_
 refine ay 13 4 (bA 14 16383) aj ?_
 refine jK (gQ aj.out (by kernel_rfl)) ?_
 clear hHeld
 go_wp2
 go_ret
 exact ⟨rfl, S.out.below⟩
def Wq : Option Nat → Int
 | some i => i
 | none => -1
theorem wW {g : Nat} {fk fx fy fw fh zU ax : Int} {VP : Value} {q : Nat} {A : Option Addr} {cap : Nat} {L : List ai} {b : Nat} {P : Nat → Prop} {w : World} (m : Bool) (hq : q + 1 < L.length) (hl : L.length ≤ 1000000) (hz : dJ L ≤ 1000000) (hF : w.heap[g]? = some (.cells #[.int .u8 fk, .int .i64 fx, .int .i64 fy, .int .i64 fw, .int .i64 fh, .int .i64 zU, .slice A L.length cap, VP, .int .i64 (q : Int), .int .u8 ax] 147 (0, 0))) (hv : Kd.V k26 26 w b P (.slice A L.length cap) L) :
  Calls Try.prog 185 #[.pointer (some ⟨g, 0, none⟩), .bool m] w fun e w' => e = .returned (.int .i64 (Wq (jU ax q m L))) ∧ Below w.heap.size w w' := by
 have S := ae.mk (St.start (ts := [(.slice A L.length cap, L)]) (b0 := w.heap.size) (w := w) (P := P) (fun t ht => by rw [List.mem_singleton.1 ht]; exact fM hv))
 replace S := ae.mk (S.out.yT (show w.cell? ⟨g, 6, none⟩ = some (.slice A L.length cap) from (af hF 6).trans rfl))
 replace S := ae.mk (S.out.yT (show w.cell? ⟨g, 8, none⟩ = some (.int .i64 (q : Int)) from (af hF 8).trans rfl))
 have HF := ae.mk hF
 have HZ := ae.mk hz
 have gV := ae.mk hl
 have HQ := ae.mk hq
 have XB := ae.mk (show wrap64 ((q : Int) + 1) = ((q + 1 : Nat) : Int) by unfold wrap64; omega)
 generalize hR : jU ax q m L = R
 unfold jU at hR
 clear hF hz hl hq hv
 cases m with
 | true =>
  simp only [if_true] at hR
  have HR := ae.mk hR
  clear hR
  go_enter Try.func185, Try.ntmps185
  have f_ := (S.out.cell _ (.head _)).1
  go_wp2
  clear f_
  go_loopg [5] L.length (fun gg v5 wr => ∃ i : Nat, v5 = .int .i64 (i : Int) ∧ ae (i ≤ L.length) ∧ L.length - i ≤ gg ∧ ae ((match Dt (oz ax L) (L.length - i) i with | some i => some i | none => nP (oz ax L) q) = R) ∧ ae (St w P [] [] [(.slice A L.length cap, L)] [(⟨g, 8, none⟩, .int .i64 (q : Int)), (⟨g, 6, none⟩, .slice A L.length cap)] wr))
  case atStart => exact ⟨q + 1, (by rw [XB.out]), ⟨by have := HQ.out; omega⟩, by omega, HR, S⟩
  case round =>
   clear S HR
   obtain ⟨i, rfl, HI, hgg, HR, S⟩ := hrel
   by_cases hlt : i < L.length
   case pos =>
    have iC := ae.mk hlt
    have hlz : (i : Int) < (L.length : Int) := by omega
    have fG := ae.mk hgg
    have hw : wrap64 ((i : Int) + 1) = ((i + 1 : Nat) : Int) := by have := gV.out; unfold wrap64; omega
    have HW := ae.mk hw
    have hr := HR.out
    rw [show L.length - i = (L.length - (i + 1)) + 1 by omega, Dt] at hr
    clear hw hgg
    by_cases hp : 0 < az ax (kd L i)
    case pos =>
     rw [if_pos (by unfold oz; simp; omega)] at hr
     replace HR := ae.mk hr
     obtain ⟨hga, hgb⟩ := mO (a := 0) (b := az ax (kd L i)) (by omega)
     clear hr hp
     have iy := (S.out.cell _ bI).1
     go_wp2_with (first
      | (refine bH (some 27) Try.func164 S (jI i iC.out HZ.out (aJ HF.out S.out.below) (S.out.tree _ (.head _))) ?_; clear S; intro dG S; clear iy)
      | fail)
     go_ret
     rw [← HR.out]
     exact ⟨rfl, S.out.below⟩
    case neg =>
     rw [if_neg (by unfold oz; simp; omega)] at hr
     replace HR := ae.mk hr
     obtain ⟨hga, hgb⟩ := lM (a := 0) (b := az ax (kd L i)) (by omega)
     clear hr hp
     have iy := (S.out.cell _ bI).1
     go_wp2_with (first
      | (refine bH (some 27) Try.func164 S (jI i iC.out HZ.out (aJ HF.out S.out.below) (S.out.tree _ (.head _))) ?_; clear S; intro dG S; clear iy)
      | fail)
     have hw := HW.out
     go_wp2
     go_roundg (L.length - (i + 1))
     case measure => have := fG.out; have := iC.out; omega
     case rel => exact ⟨i + 1, (by rw [hw]), ⟨by have := iC.out; omega⟩, Nat.le_refl _, HR, S⟩
   case neg =>
    have hlz : ¬ ((i : Int) < (L.length : Int)) := by omega
    have hr := HR.out
    rw [show L.length - i = 0 by omega, Dt] at hr
    simp only [] at hr
    replace HR := ae.mk hr
    clear hr hgg
    have iy := (S.out.cell _ bI).1
    have f_ := (S.out.cell _ (.head _)).1
    go_wp2
    clear iy f_
    clear hlt hlz
    go_loopg [6] (q + 1) (fun gg v6 wr => ∃ n : Nat, v6 = .int .i64 ((n : Int) - 1) ∧ ae (n ≤ q + 1) ∧ n ≤ gg ∧ ae (nP (oz ax L) (Nat.min n q) = R) ∧ ae (St w P [] [] [(.slice A L.length cap, L)] [(⟨g, 8, none⟩, .int .i64 (q : Int)), (⟨g, 6, none⟩, .slice A L.length cap)] wr))
    case atStart => exact ⟨q + 1, (by congr 1; omega), ⟨Nat.le_refl _⟩, Nat.le_refl _, ⟨by rw [show Nat.min (q + 1) q = q from Nat.min_eq_right (by omega)]; exact HR.out⟩, S⟩
    case round =>
     clear S HR
     obtain ⟨n, rfl, HN, hgg, HR, S⟩ := hrel
     cases n with
     | zero =>
      have hr := HR.out
      rw [show Nat.min 0 q = 0 from Nat.min_eq_left (Nat.zero_le _), nP] at hr
      replace HR := ae.mk hr
      clear hr
      go_wp2
      go_ret
      rw [← HR.out]
      exact ⟨rfl, S.out.below⟩
     | succ n =>
      have e1 : (((n + 1 : Nat) : Int) - 1) = (n : Int) := by omega
      rw [e1]
      have iC := ae.mk (show n < L.length by have := HN.out; have := HQ.out; omega)
      have fG := ae.mk hgg
      have hw : wrap64 ((n : Int) - 1) = (n : Int) - 1 := by have := HN.out; have := HQ.out; have := gV.out; unfold wrap64; omega
      have HW := ae.mk hw
      have h0 : decide ((n : Int) ≥ 0) = true := decide_eq_true (Int.natCast_nonneg _)
      have wO : (0 : Int) ≤ (n : Int) := Int.natCast_nonneg _
      have hr := HR.out
      clear hw hgg e1
      by_cases hp : 0 < az ax (kd L n)
      case pos =>
       by_cases hnq : n < q
       case pos =>
        rw [show Nat.min (n + 1) q = n + 1 from Nat.min_eq_left (by omega), nP, if_pos (by unfold oz; simp; omega)] at hr
        replace HR := ae.mk hr
        obtain ⟨hga, hgb⟩ := mO (a := 0) (b := az ax (kd L n)) (by omega)
        obtain ⟨hsa, hsb⟩ := mO (a := (n : Int)) (b := (q : Int)) (by omega)
        have hsc : decide (n < q) = true := decide_eq_true (by omega)
        have hse : n < q := by omega
        clear hr hp
        go_wp2_with (first
         | (refine bH (some 40) Try.func164 S (jI n iC.out HZ.out (aJ HF.out S.out.below) (S.out.tree _ (.head _))) ?_; clear S; intro dG S; have f_ := (S.out.cell _ (.head _)).1)
         | fail)
        clear f_
        go_ret
        rw [← HR.out]
        exact ⟨rfl, S.out.below⟩
       case neg =>
        rw [show Nat.min (n + 1) q = Nat.min n q by rw [show Nat.min (n + 1) q = q from Nat.min_eq_right (by omega), show Nat.min n q = q from Nat.min_eq_right (by omega)]] at hr
        replace HR := ae.mk hr
        obtain ⟨hga, hgb⟩ := mO (a := 0) (b := az ax (kd L n)) (by omega)
        obtain ⟨hsa, hsb⟩ := lM (a := (n : Int)) (b := (q : Int)) (by omega)
        have hsc : decide (n < q) = false := decide_eq_false (by omega)
        have hse : ¬ (n < q) := by omega
        clear hr hp
        go_wp2_with (first
         | (refine bH (some 40) Try.func164 S (jI n iC.out HZ.out (aJ HF.out S.out.below) (S.out.tree _ (.head _))) ?_; clear S; intro dG S; have f_ := (S.out.cell _ (.head _)).1)
         | fail)
        clear f_
        have hw := HW.out
        go_wp2
        go_roundg n
        case measure => exact Nat.lt_of_lt_of_le (Nat.lt_succ_self _) fG.out
        case rel => exact ⟨n, (by rw [hw]), ⟨by have := HN.out; omega⟩, Nat.le_refl _, HR, S⟩
      case neg =>
       have hmn : nP (oz ax L) (Nat.min (n + 1) q) = nP (oz ax L) (Nat.min n q) := by
        by_cases hnq : n < q
        ·rw [show Nat.min (n + 1) q = n + 1 from Nat.min_eq_left (by omega), show Nat.min n q = n from Nat.min_eq_left (by omega), nP, if_neg (by unfold oz; simp; omega)]
        ·rw [show Nat.min (n + 1) q = q from Nat.min_eq_right (by omega), show Nat.min n q = q from Nat.min_eq_right (by omega)]
       rw [hmn] at hr; clear hmn
       replace HR := ae.mk hr
       obtain ⟨hga, hgb⟩ := lM (a := 0) (b := az ax (kd L n)) (by omega)
       clear hr hp
       go_wp2_with (first
        | (refine bH (some 40) Try.func164 S (jI n iC.out HZ.out (aJ HF.out S.out.below) (S.out.tree _ (.head _))) ?_; clear S; intro dG S)
        | fail)
       have hw := HW.out
       go_wp2
       go_roundg n
       case measure => exact Nat.lt_of_lt_of_le (Nat.lt_succ_self _) fG.out
       case rel => exact ⟨n, (by rw [hw]), ⟨by have := HN.out; omega⟩, Nat.le_refl _, HR, S⟩
 | false =>
  simp only [Bool.false_eq_true, if_false] at hR
  have HR := ae.mk hR
  clear hR
  go_enter Try.func185, Try.ntmps185
  have f_ := (S.out.cell _ (.head _)).1
  go_wp2
  clear f_
  go_loopg [5] 0 (fun gg v5 wr => ∃ i : Nat, v5 = .int .i64 (i : Int) ∧ ae (St w P [] [] [(.slice A L.length cap, L)] [(⟨g, 8, none⟩, .int .i64 (q : Int)), (⟨g, 6, none⟩, .slice A L.length cap)] wr))
  case atStart => exact ⟨q + 1, (by rw [XB.out]), S⟩
  case round =>
   clear S
   obtain ⟨i, rfl, S⟩ := hrel
   have f_ := (S.out.cell _ (.head _)).1
   go_wp2
   clear f_
   go_loopg [6] (q + 1) (fun gg v6 wr => ∃ n : Nat, v6 = .int .i64 ((n : Int) - 1) ∧ ae (n ≤ q + 1) ∧ n ≤ gg ∧ ae (nP (oz ax L) n = R) ∧ ae (St w P [] [] [(.slice A L.length cap, L)] [(⟨g, 8, none⟩, .int .i64 (q : Int)), (⟨g, 6, none⟩, .slice A L.length cap)] wr))
   case atStart => exact ⟨q + 1, (by congr 1; omega), ⟨Nat.le_refl _⟩, Nat.le_refl _, HR, S⟩
   case round =>
    clear S HR
    obtain ⟨n, rfl, HN, hgg, HR, S⟩ := hrel
    cases n with
    | zero =>
     have hr := HR.out
     rw [nP] at hr
     replace HR := ae.mk hr
     clear hr
     go_wp2
     go_ret
     rw [← HR.out]
     exact ⟨rfl, S.out.below⟩
    | succ n =>
     have e1 : (((n + 1 : Nat) : Int) - 1) = (n : Int) := by omega
     rw [e1]
     have iC := ae.mk (show n < L.length by have := HN.out; have := HQ.out; omega)
     have fG := ae.mk hgg
     have hw : wrap64 ((n : Int) - 1) = (n : Int) - 1 := by have := HN.out; have := HQ.out; have := gV.out; unfold wrap64; omega
     have HW := ae.mk hw
     have h0 : decide ((n : Int) ≥ 0) = true := decide_eq_true (Int.natCast_nonneg _)
     have wO : (0 : Int) ≤ (n : Int) := Int.natCast_nonneg _
     have hr := HR.out
     clear hw hgg e1
     by_cases hp : 0 < az ax (kd L n)
     case pos =>
      by_cases hnq : n < q
      case pos =>
       rw [nP, if_pos (by unfold oz; simp; omega)] at hr
       replace HR := ae.mk hr
       obtain ⟨hga, hgb⟩ := mO (a := 0) (b := az ax (kd L n)) (by omega)
       obtain ⟨hsa, hsb⟩ := mO (a := (n : Int)) (b := (q : Int)) (by omega)
       have hsc : decide (n < q) = true := decide_eq_true (by omega)
       have hse : n < q := by omega
       clear hr hp
       go_wp2_with (first
        | (refine bH (some 40) Try.func164 S (jI n iC.out HZ.out (aJ HF.out S.out.below) (S.out.tree _ (.head _))) ?_; clear S; intro dG S; have f_ := (S.out.cell _ (.head _)).1)
        | fail)
       clear f_
       go_ret
       rw [← HR.out]
       exact ⟨rfl, S.out.below⟩
      case neg =>
       rw [nP, if_pos (by unfold oz; simp; omega)] at hr
       replace HR := ae.mk hr
       obtain ⟨hga, hgb⟩ := mO (a := 0) (b := az ax (kd L n)) (by omega)
       obtain ⟨hsa, hsb⟩ := lM (a := (n : Int)) (b := (q : Int)) (by omega)
       have hsc : decide (n < q) = false := decide_eq_false (by omega)
       have hse : ¬ (n < q) := by omega
       clear hr hp
       go_wp2_with (first
        | (refine bH (some 40) Try.func164 S (jI n iC.out HZ.out (aJ HF.out S.out.below) (S.out.tree _ (.head _))) ?_; clear S; intro dG S; have f_ := (S.out.cell _ (.head _)).1)
        | fail)
       clear f_
       go_ret
       rw [← HR.out]
       exact ⟨rfl, S.out.below⟩
     case neg =>
      rw [nP, if_neg (by unfold oz; simp; omega)] at hr
      replace HR := ae.mk hr
      obtain ⟨hga, hgb⟩ := lM (a := 0) (b := az ax (kd L n)) (by omega)
      clear hr hp
      go_wp2_with (first
       | (refine bH (some 40) Try.func164 S (jI n iC.out HZ.out (aJ HF.out S.out.below) (S.out.tree _ (.head _))) ?_; clear S; intro dG S)
       | fail)
      have hw := HW.out
      go_wp2
      go_roundg n
      case measure => exact Nat.lt_of_lt_of_le (Nat.lt_succ_self _) fG.out
      case rel => exact ⟨n, (by rw [hw]), ⟨by have := HN.out; omega⟩, Nat.le_refl _, HR, S⟩
end Go.Proofs.Ytfdmfgaiblfbhaa.P
