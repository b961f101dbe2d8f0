/- PushIs: part 5 of 7 of this claim's texts, one behind the other, made small by a program: the words of the kit's printer cut down to those that are used, the claim's own names made short. -/
import Derived.Test.YtfdmfgaiblfbhaaMPushIsd
import Derived.Test.YtfdmfgaiblfbhaaMPushIsc
import Derived.WalkSpells
set_option maxHeartbeats 8000000
set_option maxRecDepth 100000
set_option linter.unusedVariables false
set_option linter.unusedSimpArgs false
namespace Go.Proofs.Ytfdmfgaiblfbhaa.P
open Go.RowKit Go.Proofs.ag.aV Go.Proofs.ag.bP Go.Proofs.ag.cO
def qQ (w0 : World) (gw j : Nat) (W : World) : Prop := Below w0.heap.size w0 W ∧ ∃ (n : Int) (v : Value) (ls : List dO), W.heap[gw]? = some (.cells #[.int .i64 n, v] 182 (0, 0)) ∧ Kd.R k23 23 W w0.heap.size (fun _ => True) v ls ∧ ls.length ≤ j
def Fr (gw : Nat) (W W' : World) : Prop := ∀ k cs t, k ≠ gw → t ≠ 23 → W.heap[k]? = some (.cells cs t (0, 0)) → W'.heap[k]? = some (.cells cs t (0, 0))
theorem Fr.refl (gw : Nat) (W : World) : Fr gw W W := fun _ _ _ _ _ h => h
theorem Fr.trans {gw : Nat} {W W1 W2 : World} (h : Fr gw W W1) (k : Fr gw W1 W2) : Fr gw W W2 := fun i cs t hi ht hb => k i cs t hi ht (h i cs t hi ht hb)
theorem Fr.below {gw : Nat} {W W1 : World} (h : Below W.heap.size W W1) : Fr gw W W1 := fun _ _ _ _ _ hb => aQ hb h
theorem Fr.store {gw : Nat} {W W1 : World} (h : W.grownBy W1 (some gw)) : Fr gw W W1 := fun _ _ _ hi _ hb => dG hb h (fun e => absurd (Option.some.inj e) hi)
theorem Fr.append {gw base : Nat} {W W1 : World} {v : Value} {xs : List dO} {ok : Nat → Prop} (hv : Kd.R k23 23 W base ok v xs) (h : W.grownBy W1 v.ownBlock) : Fr gw W W1 := fun _ _ _ _ ht hb => dG hb h (Kd.Ii hv hb (fun e => ht e.symm))
theorem qQ.below {w0 W W1 : World} {gw j : Nat} (h : qQ w0 gw j W) (hb : Below W.heap.size W W1) : qQ w0 gw j W1 := by
 obtain ⟨h1, n, v, ls, h2, h3, h4⟩ := h
 exact ⟨au h1 hb, n, v, ls, aQ h2 hb, Kd.qZ h3 hb, h4⟩
theorem qQ.mono {w0 W : World} {gw j j' : Nat} (h : qQ w0 gw j W) (hj : j ≤ j') : qQ w0 gw j' W := by
 obtain ⟨h1, n, v, ls, h2, h3, h4⟩ := h
 exact ⟨h1, n, v, ls, h2, h3, Nat.le_trans h4 hj⟩
theorem aes (x : ai) (B : Option Addr) (cb b3 gw : Nat) (r : Bool) (R : World → Prop) (W : World) (hk : W.heap[b3]? = some (.cells #[.pointer (some ⟨gw, 0, none⟩)] 180 (0, 0)))
  (h : ∀ W1, Below W.heap.size W W1 → Calls Try.prog 197 #[.pointer (some ⟨gw, 0, none⟩), .agg #[.int .u8 x.f0, .int .i64 x.f1.f0, .int .i64 x.f1.f1, .int .i64 x.f1.f2, .int .i64 x.f1.f3, .int .i64 x.f2, .slice B x.f3.length cb]] W1 fun e w' => e = .returned (.bool r) ∧ R w') :
  Calls Try.prog 207 (#[.agg #[.int .u8 x.f0, .int .i64 x.f1.f0, .int .i64 x.f1.f1, .int .i64 x.f1.f2, .int .i64 x.f1.f3, .int .i64 x.f2, .slice B x.f3.length cb]] ++ #[.pointer (some ⟨b3, 0, none⟩)]) W fun e w' => e = .returned (.bool (!r)) ∧ R w' := by
 have HK := ae.mk hk
 have H := ae.mk h
 clear hk h
 simp only [List.append_toArray, List.cons_append, List.nil_append]
 cases r
 all_goals
  go_enter Try.func207, Try.ntmps207
  go_wp2_with (first
   | ((with_reducible refine aG (N := 2) rfl ?_); refine aU ?hg (N := 2) ?hd (cs := #[.int .u8 x.f0, .int .i64 x.f1.f0, .int .i64 x.f1.f1, .int .i64 x.f1.f2, .int .i64 x.f1.f3, .int .i64 x.f2, .slice B x.f3.length cb]) (t := 26) ?hr ?_; (case hd => rfl); (case hg => rfl); (case hr => first | (go_simp; done) | (go_simp; rfl)); intro b2 hg wb2 hbox hb; have nU := ae.mk hbox; have HB := ae.mk hb; have K3 := ae.mk (aQ HK.out hb); have d0 := (af K3.out 0).trans rfl; have c0 := (af nU.out 0).trans rfl; have c1 := (af nU.out 1).trans rfl; have c2 := (af nU.out 2).trans rfl; have c3 := (af nU.out 3).trans rfl; have c4 := (af nU.out 4).trans rfl; have c5 := (af nU.out 5).trans rfl; have c6 := (af nU.out 6).trans rfl; clear hb hbox hg)
   | fail)
  clear c0 c1 c2 c3 c4 c5 c6 d0
  refine (H.out _ HB.out).mono ?_
  rintro e w' ⟨rfl, hR⟩
  have HR := ae.mk hR
  clear hR
  go_wp2
  go_ret
  exact ⟨rfl, HR.out⟩
def rY.T5 : Bool × List (List Nat × List Nat) := (true, [([], []), ([], []), ([1], [1]), ([2], [2]), ([3], [3]), ([], []), ([4, 5], [4, 5]), ([0, 0, 1, 2, 3, 4, 5, 6], [0]), ([7, 0, 1, 2, 3, 4, 5, 6], [7]), ([8, 6, 6, 0, 1, 2, 3, 4, 5, 6], [6, 8])])
def rY.B5 : List Nat := [0, 0, 2, 6, 14, 0, 62, 127, 255, 511]
theorem rY.Gh : iM .any (opsOf Try.f197 5) = rY.T5 := by kernel_rfl
theorem rY.CE : gZ rY.T5.2 rY.B5 = true := by kernel_rfl
theorem acM (w0 : World) (gw : Nat) (hgw : w0.heap.size ≤ gw) : ∀ (N : Nat) (c : ai), sz c ≤ N → N ≤ 20000 → ∀ (A : Option Addr) (cc : Nat), Kd.C k26 w0 A c.f3.length c.f3 → c.f3.length ≤ cc → ∀ (j : Nat) (W : World), j + dU c.f3 ≤ 1000000 → qQ w0 gw j W →
  Calls Try.prog 197 #[.pointer (some ⟨gw, 0, none⟩), .agg #[.int .u8 c.f0, .int .i64 c.f1.f0, .int .i64 c.f1.f1, .int .i64 c.f1.f2, .int .i64 c.f1.f3, .int .i64 c.f2, .slice A c.f3.length cc]] W fun e w' => e = .returned (.bool (l_ c)) ∧ qQ w0 gw (j + dU c.f3) w' ∧ Fr gw W w' := by
 intro N
 induction N with
 | zero => intro c h; rw [bV] at h; omega
 | succ N ih =>
  intro c hc hN A cc hr hlc j W hj hI
  have hsz := bV c
  have hlen := ig c.f3
  have ZI : ∀ (b2 j1 : Nat) (W1 : World), b2 ≠ gw → W1.heap[b2]? = some (.cells #[.pointer (some ⟨gw, 0, none⟩)] 180 (0, 0)) → qQ w0 gw j1 W1 → j1 ≤ j + c.f3.length →
    Calls Try.prog 174 #[.slice A c.f3.length cc, .func (.func 207) #[] #[.pointer (some ⟨b2, 0, none⟩)]] W1 fun e w' => e = .returned (.bool (!(c.f3.all l_))) ∧ qQ w0 gw (j + dU c.f3) w' ∧ Fr gw W1 w' := by
   intro b2 j1 W1 hne hk hi hj1
   have hcon := QU (fun rest w' => (∃ i, qQ w0 gw i w' ∧ i + dU rest ≤ (j + dU c.f3) + rest.length) ∧ Fr gw W1 w') (fun x => !l_ x) 207 #[.pointer (some ⟨b2, 0, none⟩)] (uP Try.func207 (by decide +kernel) (by kernel_rfl)) c.f3 A cc w0 hr
    (fun s w' h => by obtain ⟨⟨i, h1, _⟩, _⟩ := h; exact h1.1)
    (fun s w' n h => by obtain ⟨⟨i, h1, h2⟩, h3⟩ := h; exact ⟨⟨i, h1.below (eP (Below.refl _ _) n), h2⟩, h3.trans (Fr.below (eP (Below.refl _ _) n))⟩)
    (fun x rest w' B cb hx hp h hCx hlx => by
     obtain ⟨⟨i, h1, h2⟩, h3⟩ := h
     obtain ⟨pre, hp⟩ := hp
     have e1 : dU c.f3 = dU pre + (sz x + dU rest) := by rw [← hp, pg, df]
     have e2 := bV x
     have e3 := ig rest
     have e4 := ig pre
     rw [df, List.length_cons] at h2
     refine (aes x B cb b2 gw (l_ x) (fun w'' => qQ w0 gw (i + dU x.f3) w'' ∧ Fr gw W1 w'') w' (h3 b2 _ 180 hne (by decide) hk) (fun W2 hb2 => ?_)).mono ?_
     ·refine (ih x (by omega) (by omega) B cb hCx hlx i W2 (by omega) (h1.below hb2)).mono ?_
      rintro e w'' ⟨he, hi2, hf⟩
      exact ⟨he, hi2, h3.trans ((Fr.below hb2).trans hf)⟩
     ·rintro e w'' ⟨he, hi2, hf⟩
      refine ⟨he, ⟨⟨i + dU x.f3, hi2, ?_⟩, hf⟩⟩
      split
      ·rw [yS]; show _ ≤ _ + 0; omega
      ·omega)
    W1 ⟨⟨j1, hi, by omega⟩, Fr.refl gw W1⟩ hr.2.1
   refine hcon.mono ?_
   rintro e w' ⟨he, ⟨i, h1, h2⟩, h3⟩
   rw [yS] at h2
   refine ⟨?_, h1.mono (by simpa using h2), h3⟩
   rw [he, List.not_all_eq_any_not]
  have hL : ∀ W1, Below w0.heap.size w0 W1 → Calls Try.prog 206 #[.agg #[.int .u8 c.f0, .int .i64 c.f1.f0, .int .i64 c.f1.f1, .int .i64 c.f1.f2, .int .i64 c.f1.f3, .int .i64 c.f2, .slice A c.f3.length cc]] W1 fun e w' => ∃ Au n cu, e = .returned (.tuple #[.slice Au n cu, .bool (oM c)]) ∧ (oM c = true → ∃ us : List dO, n = us.length ∧ us.length ≤ c.f3.length ∧ k23.R 23 w' W1.heap.size (fun _ => True) (.slice Au us.length cu) us) ∧ Below W1.heap.size W1 w' := fun W1 hb => Yz c (by omega) W1.heap.size (fun _ => True) A cc W1 (Kd.x_ hlc (Kd.sU (Kd.GY qM (Kd.iE hr hb)) (fun _ _ => trivial)))
  rw [u_]
  obtain ⟨hB, n, v, ls, hK, hV, hls⟩ := hI
  obtain ⟨Av, cv, ev⟩ := Kd.iG hV
  subst ev
  have HB := ae.mk hB
  have KW := ae.mk hK
  have RV := ae.mk hV
  have FR := ae.mk (Fr.refl gw W)
  have G5 := ae.mk hgw
  have SK := ae.mk ZI
  have HL := ae.mk hL
  have QK := ae.mk hls
  have HJ := ae.mk hj
  have HN := ae.mk hlen
  clear hB hK hV ZI hL hls hj hlen hsz ih hr hlc hc hN
  obtain ⟨ck, ⟨cx, cy, cw, ch⟩, ay, l⟩ := c
  simp only [] at SK HL HJ HN ⊢
  generalize oM ⟨ck, ⟨cx, cy, cw, ch⟩, ay, l⟩ = q at HL ⊢
  generalize l.all l_ = p at SK ⊢
  cases q with
  | false =>
   rw [Bool.false_and]
   go_enter Try.func197, Try.ntmps197
   go_wp2_with (first
    | ((with_reducible refine aG (N := 2) rfl ?_); refine aU ?hg (N := 2) ?hd (cs := #[.pointer (some ⟨gw, 0, none⟩)]) (t := 180) ?hr ?_; (case hd => rfl); (case hg => rfl); (case hr => first | (go_simp; done) | (go_simp; rfl)); intro b2 hg wb2 hbox hb; have nU := ae.mk hbox; have Zj := ae.mk (show b2 ≠ gw by rw [hg]; exact Nat.ne_of_gt (gJ KW.out)); have dH := ae.mk (au HB.out hb); have rJ := ae.mk (aQ KW.out hb); have pU := ae.mk (Kd.qZ RV.out hb); have pR := ae.mk (FR.out.trans (Fr.below hb)); clear HB KW RV FR; have HB := dH; have KW := rJ; have RV := pU; have FR := pR; clear dH rJ pU pR; clear hb hbox hg)
    | ((with_reducible refine aG (N := 3) rfl ?_); refine aU ?hg (N := 3) ?hd (cs := #[.int .u8 ck, .int .i64 cx, .int .i64 cy, .int .i64 cw, .int .i64 ch, .int .i64 ay, .slice A l.length cc]) (t := 26) ?hr ?_; (case hd => rfl); (case hg => rfl); (case hr => first | (go_simp; done) | (go_simp; rfl)); intro b3 hg Xn hbox hb; have dF := ae.mk hbox; have NE3 := ae.mk (show b3 ≠ gw by rw [hg]; exact Nat.ne_of_gt (gJ KW.out)); have dH := ae.mk (au HB.out hb); have rJ := ae.mk (aQ KW.out hb); have pU := ae.mk (Kd.qZ RV.out hb); have pR := ae.mk (FR.out.trans (Fr.below hb)); have qC := ae.mk (aQ nU.out hb); clear HB KW RV FR nU; have HB := dH; have KW := rJ; have RV := pU; have FR := pR; have nU := qC; clear dH rJ pU pR qC; have c0 := (af dF.out 0).trans rfl; have c1 := (af dF.out 1).trans rfl; have c2 := (af dF.out 2).trans rfl; have c3 := (af dF.out 3).trans rfl; have c4 := (af dF.out 4).trans rfl; have c5 := (af dF.out 5).trans rfl; have c6 := (af dF.out 6).trans rfl; clear hb hbox hg)
    | fail)
   clear c0 c1 c2 c3 c4 c5 c6
   refine (HL.out _ HB.out).mono ?_
   rintro e w1 ⟨Au, nu, cu, rfl, _, hb⟩
   have dH := ae.mk (au HB.out hb); have rJ := ae.mk (aQ KW.out hb); have pU := ae.mk (Kd.qZ RV.out hb); have pR := ae.mk (FR.out.trans (Fr.below hb)); have qC := ae.mk (aQ nU.out hb); have yw := ae.mk (aQ dF.out hb); clear HB KW RV FR nU dF; have HB := dH; have KW := rJ; have RV := pU; have FR := pR; have nU := qC; have dF := yw; clear dH rJ pU pR qC yw
   clear hb
   go_wp2
   go_ret
   exact ⟨rfl, ⟨HB.out, n, _, ls, KW.out, RV.out, by have := QK.out; omega⟩, FR.out⟩
  | true =>
   rw [Bool.true_and]
   go_enter Try.func197, Try.ntmps197
   go_wp2_with (first
    | ((with_reducible refine aG (N := 2) rfl ?_); refine aU ?hg (N := 2) ?hd (cs := #[.pointer (some ⟨gw, 0, none⟩)]) (t := 180) ?hr ?_; (case hd => rfl); (case hg => rfl); (case hr => first | (go_simp; done) | (go_simp; rfl)); intro b2 hg wb2 hbox hb; have nU := ae.mk hbox; have Zj := ae.mk (show b2 ≠ gw by rw [hg]; exact Nat.ne_of_gt (gJ KW.out)); have dH := ae.mk (au HB.out hb); have rJ := ae.mk (aQ KW.out hb); have pU := ae.mk (Kd.qZ RV.out hb); have pR := ae.mk (FR.out.trans (Fr.below hb)); clear HB KW RV FR; have HB := dH; have KW := rJ; have RV := pU; have FR := pR; clear dH rJ pU pR; clear hb hbox hg)
    | ((with_reducible refine aG (N := 3) rfl ?_); refine aU ?hg (N := 3) ?hd (cs := #[.int .u8 ck, .int .i64 cx, .int .i64 cy, .int .i64 cw, .int .i64 ch, .int .i64 ay, .slice A l.length cc]) (t := 26) ?hr ?_; (case hd => rfl); (case hg => rfl); (case hr => first | (go_simp; done) | (go_simp; rfl)); intro b3 hg Xn hbox hb; have dF := ae.mk hbox; have NE3 := ae.mk (show b3 ≠ gw by rw [hg]; exact Nat.ne_of_gt (gJ KW.out)); have dH := ae.mk (au HB.out hb); have rJ := ae.mk (aQ KW.out hb); have pU := ae.mk (Kd.qZ RV.out hb); have pR := ae.mk (FR.out.trans (Fr.below hb)); have qC := ae.mk (aQ nU.out hb); clear HB KW RV FR nU; have HB := dH; have KW := rJ; have RV := pU; have FR := pR; have nU := qC; clear dH rJ pU pR qC; have c0 := (af dF.out 0).trans rfl; have c1 := (af dF.out 1).trans rfl; have c2 := (af dF.out 2).trans rfl; have c3 := (af dF.out 3).trans rfl; have c4 := (af dF.out 4).trans rfl; have c5 := (af dF.out 5).trans rfl; have c6 := (af dF.out 6).trans rfl; clear hb hbox hg)
    | fail)
   clear c0 c1 c2 c3 c4 c5 c6
   refine (HL.out _ HB.out).mono ?_
   rintro e w1 ⟨Au, nu, cu, rfl, hu, hb⟩
   obtain ⟨us, eu, hul, hu2⟩ := hu trivial
   subst eu
   have gY := ae.mk hul
   have HU := ae.mk (Kd.rf hu2 HB.out.size)
   clear hul hu hu2
   have dH := ae.mk (au HB.out hb); have rJ := ae.mk (aQ KW.out hb); have pU := ae.mk (Kd.qZ RV.out hb); have pR := ae.mk (FR.out.trans (Fr.below hb)); have qC := ae.mk (aQ nU.out hb); have yw := ae.mk (aQ dF.out hb); clear HB KW RV FR nU dF; have HB := dH; have KW := rJ; have RV := pU; have FR := pR; have nU := qC; have dF := yw; clear dH rJ pU pR qC yw
   clear hb
   have d0 := (af nU.out 0).trans rfl
   have e0 := (af KW.out 0).trans rfl
   have e1 := (af KW.out 1).trans rfl
   go_wp2_with (first
    | ((with_reducible refine mG (.store 3 (.tmp 20) (.tmp 18)) rfl ?_); go_loud (refine iO (w0 := w0) rfl rfl 3 (.tmp 20) (.tmp 18) rfl (g := gw) (j := 0) (base := w0.heap.size) #[.int .i64 (wrap64 (n + 1)), .slice Av ls.length cv] (u := .int .i64 (wrap64 (n + 1))) (bK := [.int .i64 (wrap64 (n + 1))]) ?sA ?sX rfl ?sT ?s1 KW.out ?sJ rfl HB.out HB.out.size G5.out ?_; (case sA => rfl); (case sX => rfl); (case sT => rfl); (case s1 => (simp [Value.oneCell'])); (case sJ => (first | decide | simp)); intro ws hbk hbb hgg; have pU := ae.mk (Kd.Ih RV.out rfl hgg (fun k_ hk => hk ▸ Kd.Ii RV.out KW.out (by decide))); have Qh := ae.mk (Kd.Ih HU.out rfl hgg (fun k_ hk => hk ▸ Kd.Ii HU.out KW.out (by decide))); have pR := ae.mk (FR.out.trans (Fr.store hgg)); have qC := ae.mk (dG nU.out hgg (fun e_ => absurd (Option.some.inj e_) Zj.out)); have yw := ae.mk (dG dF.out hgg (fun e_ => absurd (Option.some.inj e_) NE3.out)); clear RV HU FR nU dF; have RV := pU; have HU := Qh; have FR := pR; have nU := qC; have dF := yw; clear pU Qh pR qC yw; clear KW HB d0 e0 e1; have KW := ae.mk hbk; have HB := ae.mk hbb; clear hbk hbb hgg))
    | fail)
   have hb : Below ws.heap.size ws ws.drew := a_ (Below.refl _ _)
   have dH := ae.mk (au HB.out hb); have rJ := ae.mk (aQ KW.out hb); have pU := ae.mk (Kd.qZ RV.out hb); have pR := ae.mk (FR.out.trans (Fr.below hb)); have qC := ae.mk (aQ nU.out hb); have yw := ae.mk (aQ dF.out hb); have Qh := ae.mk (Kd.qZ HU.out hb); clear HB KW RV FR nU dF HU; have HB := dH; have KW := rJ; have RV := pU; have FR := pR; have nU := qC; have dF := yw; have HU := Qh; clear dH rJ pU pR qC yw Qh
   clear hb
   refine gX (n := 10) (S := fun w' => Below w0.heap.size w0 w' ∧ w'.heap[b2]? = some (.cells #[.pointer (some ⟨gw, 0, none⟩)] 180 (0, 0)) ∧ w'.heap[gw]? = some (.cells #[.int .i64 (wrap64 (n + 1)), .slice Av ls.length cv] 182 (0, 0))) (ds := [9]) (bA 10 0) (by kernel_rfl) rfl rfl ⟨HB.out, nU.out, KW.out⟩ (fun hHeld => ?_); refine dZ rY.Gh rY.CE (fun aj dE => ?_)
   generalize ws.drew = wd at HB KW RV FR nU dF HU hHeld ⊢
   refine b_ 0 21 (bA 10 1) aj dE hHeld ?_ (hv := by intro w' hs_; have c := (af hs_.2.1 0).trans rfl; go_simp; with_reducible rfl)
   refine b_ 1 22 (bA 10 3) aj dE hHeld ?_ (hv := by intro w' hs_; have c := (af hs_.2.1 0).trans rfl; go_simp; with_reducible rfl)
   refine ak 2 23 (bA 10 7) aj ?_
   refine ak 3 24 (bA 10 15) aj ?_
   refine b_ 4 25 (bA 10 31) aj dE hHeld ?_ (hv := by intro w' hs_; have c := (af hs_.2.2 1).trans rfl; go_simp; with_reducible rfl)
   refine ak 5 26 (bA 10 63) aj ?_
   refine iL 6 (some 27) (bA 10 127) aj (fun K hK => ?_)
   refine Kd.ER k23 (w0 := w0) w0.heap.size (by rfl) (.tmp 25) (.tmp 26) 42 23 (.agg #[(.int .i64 0), (.int .i64 0), (.int .i64 0), (.int .i64 0)]) 32 rfl Try.underlying42 info23 rfl (by decide) (by omega) (.slice Av ls.length cv) ls us Au us.length cu (fun _ => True) (fun _ => False) rfl rfl RV.out (Kd.eQ HU.out).2.2 (fun _ _ h => h) (fun _ h => h.elim) (fun _ _ => trivial) HB.out HB.out.size (by have h1 := QK.out; have h2 := gY.out; have h3 := HJ.out; have h4 := HN.out; omega) ?_
   intro v1 wk ho hb hg hat
   have q1 := ae.mk (FR.out.trans (Fr.append RV.out hg))
   have q2 := ae.mk (dG nU.out hg (Kd.Ii RV.out nU.out (by decide)))
   have q3 := ae.mk (dG dF.out hg (Kd.Ii RV.out dF.out (by decide)))
   have q4 := ae.mk (dG KW.out hg (Kd.Ii RV.out KW.out (by decide)))
   clear FR nU dF KW HB RV HU
   have FR := q1
   have nU := q2
   have dF := q3
   have KW := q4
   have HB := ae.mk hb
   have RV := ae.mk ho
   clear q1 q2 q3 q4 hb ho hg hat
   obtain ⟨A1, c1, e1⟩ := Kd.iG RV.out
   subst e1
   refine hK.out _ _ ⟨HB.out, nU.out, KW.out⟩ (fun hHeld => ?_)
   clear hK K
   refine dR 27 ?_
   refine ak 7 28 (bA 10 255) aj ?_
   refine ak 8 29 (bA 10 511) aj ?_
   refine lV 9 none (bA 10 1023) aj (fun K hK => ?_)
   obtain ⟨w9, FO⟩ : ∃ w9, w9 = wk.setCells gw 1 [.slice A1 (ls ++ us).length c1] := ⟨_, rfl⟩
   have hst := rQ (j := 1) (cs' := #[.int .i64 (wrap64 (n + 1)), .slice A1 (ls ++ us).length c1]) (bK := [.slice A1 (ls ++ us).length c1]) KW.out (by first | decide | simp) rfl
   rw [← FO] at hst
   refine JK (w1 := w9) (by rfl) rfl ?_ ?_
   ·rw [FO]; exact Et 42 (.tmp 29) (.tmp 27) rfl (cs := #[.int .i64 (wrap64 (n + 1)), .slice Av ls.length cv]) (t0 := 182) (bK := [.slice A1 (ls ++ us).length c1]) rfl rfl rfl (by kernel_rfl) (by simp [Value.oneCell']) KW.out (by first | decide | simp)
   have NU := ae.mk (grown_below HB.out hst.2 G5.out HB.out.size)
   have RV9 := ae.mk (Kd.Ih RV.out rfl hst.2 (fun k_ hk => hk ▸ Kd.Ii RV.out KW.out (by decide)))
   have FR9 := ae.mk (FR.out.trans (Fr.store hst.2))
   have K29 := ae.mk (dG nU.out hst.2 (fun e_ => absurd (Option.some.inj e_) Zj.out))
   have K39 := ae.mk (dG dF.out hst.2 (fun e_ => absurd (Option.some.inj e_) NE3.out))
   have KW9 := ae.mk hst.1
   clear hst
   refine hK.out _ _ ?_
   clear hK K FO
   refine jf (fJ aj.out (by kernel_rfl)) ?_
   have c6 := (af K39.out 6).trans rfl
   cases p
   all_goals
    go_wp2_with fail
    refine (SK.out b2 (j + us.length) _ Zj.out K29.out ⟨NU.out, _, _, _, KW9.out, RV9.out, by have := QK.out; rw [List.length_append]; omega⟩ (by have := gY.out; omega)).mono ?_
    rintro e w2 ⟨rfl, hi, hf⟩
    have HI := ae.mk hi
    have HF := ae.mk (FR9.out.trans hf)
    clear hi hf
    go_wp2
    go_ret
    exact ⟨rfl, HI.out, HF.out⟩
theorem afE : (Try.prog.info? 9).map (fun i => (i.zero, i.size, i.bytes)) = some (some (.string ⟨#[]⟩), 1, 16) := by kernel_rfl
theorem Wx (e at_ : Int) (he : e ≠ 0) (w : World) : Calls Try.prog 196 #[.int .i64 e, .int .i64 at_] w fun x w' => (∃ t v, x = .returned (.iface t v)) ∧ Below w.heap.size w w' := by
 have hb : (e == 0) = false := beq_eq_false_iff_ne.mpr he
 clear he
 go_enter Try.func196, Try.ntmps196
 go_wp2
 go_ret
 exact ⟨⟨_, _, rfl⟩, gV (Below.refl _ _) _⟩
theorem XX (ad : Addr) (c0 : Nat) (l0 : List ByteArray) (hl : l0.length ≤ 1000) (w : World) (hr0 : Kd.C Kd.string w (some ad) l0.length l0) (hc0 : l0.length ≤ c0) :
  Calls Try.prog 205 #[.slice (some ad) l0.length c0] w fun e w' => ∃ A n c, e = .returned (.slice A n c) ∧ Below w.heap.size w w' := by
 have heq : ∀ W : World, (binOp .eql 190 (.slice (some ad) l0.length c0) (.slice none 0 0)).run Try.prog W = .ok (.bool false) W := fun W => Lib.run_eql_slice_nil W 190 9 (some ad) l0.length c0 0 0 Try.underlying190
 have HR := ae.mk hr0
 have HL := ae.mk hl
 clear hl hr0
 go_enter Try.func205, Try.ntmps205
 go_wp2_with (first | ((with_reducible refine aG (N := 5) rfl ?_); refine Kd.wW Kd.string w.heap.size 9 ?hg (N := 5) ?hd (xs := ([] : List ByteArray)) (inner := []) (ok := fun _ => True) (gU := fun _ => True) ?hr ?hp (fun _ hk => hk) trivial (Below.refl _ _) (Nat.le_refl _) (by simp) ?_; (case hd => rfl); (case hg => rfl); (case hr => (go_simp; done)); (case hp => exact dm.none _ _); intro v5 w5 ho hb pJ kD; clear pJ kD; have HO := ae.mk ho; have HB := ae.mk hb; clear ho hb; obtain ⟨Ao, co, eo⟩ := Kd.iG HO.out; subst eo) | ((with_reducible refine yj (b := .append) (xs := #[.tmp 5, .tmp 6]) rfl ?_); at_builtin; refine Kd.z_ (Rr := Kd.string.K w) Kd.string (w0 := w) w.heap.size rfl (.tmp 5) (.tmp 6) 190 9 (.string ⟨#[]⟩) 16 rfl Try.underlying190 afE rfl (by decide) (by omega) (.slice Ao ([] : List ByteArray).length co) ([] : List ByteArray) l0 _ _ _ (fun _ => True) (fun _ => False) rfl rfl HO.out ?aR (fun _ _ h => h) (fun _ h => h.elim) (fun _ _ => trivial) HB.out HB.out.size ?aL ?_; (case aR => exact Kd.iE HR.out HB.out); (case aL => have := HL.out; simp; omega); intro v7 w7 ho hb pJ aiR; have HO7 := ae.mk ho; have HB7 := ae.mk hb; clear ho hb pJ aiR))
 obtain ⟨A7, c7, e7⟩ := Kd.iG HO7.out
 subst e7
 go_ret
 exact ⟨_, _, _, rfl, HB7.out⟩
theorem ZP (tv : TypeId) (v : Value) (ad : Addr) (c0 : Nat) (x : ByteArray) (w : World) (hr0 : Kd.C Kd.string w (some ad) 1 [x]) (hc0 : 1 ≤ c0) :
  Calls Try.prog 195 #[.iface tv v, .slice (some ad) 1 c0] w fun e w' => (∃ t u, e = .returned (.iface t u)) ∧ Below w.heap.size w w' := by
 have HCl := ae.mk (XX ad c0 [x] (by simp) w hr0 hc0)
 clear hr0
 go_enter Try.func195, Try.ntmps195
 go_wp2_with fail
 refine HCl.out.mono ?_
 rintro e w' ⟨A, n, c, rfl, hb⟩
 have HB := ae.mk hb
 clear hb
 go_wp2
 go_ret
 exact ⟨⟨_, _, rfl⟩, gV HB.out _⟩
theorem Qm {x : ByteArray} {w : World} {A : Option Addr} (h : Kd.C Kd.string w A 1 [x]) : ∃ ad, A = some ad := by
 obtain ⟨ad, h1, _⟩ := h.2.2 (by omega)
 exact ⟨ad, h1⟩
theorem XV (c : ai) (hz : sz c ≤ 1048576) (A : Option Addr) (cc : Nat) (w : World) (hr : Kd.C k26 w A c.f3.length c.f3) (hc : c.f3.length ≤ cc) :
  Calls Try.prog 180 #[.agg #[.int .u8 c.f0, .int .i64 c.f1.f0, .int .i64 c.f1.f1, .int .i64 c.f1.f2, .int .i64 c.f1.f3, .int .i64 c.f2, .slice A c.f3.length cc]] w fun e w' => (if dB c = true then e = .returned .nilIface else ∃ t u, e = .returned (.iface t u)) ∧ Below w.heap.size w w' := by
 have hM : uO.f [c] = some (mM c) := by
  unfold uO.f
  rw [if_pos (by simp [hz])]
  simp
 have hW : mM c = true → ∀ (gw : Nat) (W : World), w.heap.size ≤ gw → qQ w gw 0 W → Calls Try.prog 197 #[.pointer (some ⟨gw, 0, none⟩), .agg #[.int .u8 c.f0, .int .i64 c.f1.f0, .int .i64 c.f1.f1, .int .i64 c.f1.f2, .int .i64 c.f1.f3, .int .i64 c.f2, .slice A c.f3.length cc]] W fun e w' => e = .returned (.bool (l_ c)) ∧ qQ w gw (0 + dU c.f3) w' ∧ Fr gw W w' := fun hm gw W hg hI => acM w gw hg (sz c) c (Nat.le_refl _) (o6 hm) A cc hr hc 0 W (by have := o6 hm; have := bV c; omega) hI
 unfold dB
 have HR := ae.mk hr
 have HC := ae.mk hc
 have HM := ae.mk hM
 have HW := ae.mk hW
 have HB := ae.mk (Below.refl w.heap.size w)
 clear hr hc hM hW hz
 obtain ⟨ck, ⟨cx, cy, cw, ch⟩, ay, l⟩ := c
 simp only [] at HR HC HW ⊢
 generalize l_ ⟨ck, ⟨cx, cy, cw, ch⟩, ay, l⟩ = q at HW ⊢
 cases hm : mM (⟨ck, ⟨cx, cy, cw, ch⟩, ay, l⟩ : ai) with
 | false =>
  rw [hm] at HM
  have HM := HM
  simp only [Bool.false_and, Bool.false_eq_true, if_false]
  clear hm HW
  go_enter Try.func180, Try.ntmps180
  go_wp2_with (first
   | ((with_reducible refine aG (N := 1) rfl ?_); refine aU ?hg (N := 1) ?hd (cs := #[.int .u8 ck, .int .i64 cx, .int .i64 cy, .int .i64 cw, .int .i64 ch, .int .i64 ay, .slice A l.length cc]) (t := 26) ?hr ?_; (case hd => rfl); (case hg => rfl); (case hr => first | (go_simp; done) | (go_simp; rfl)); intro b1 hg wb1 hbox hb; have fA := ae.mk hbox; have dH := ae.mk (au HB.out hb); clear HB; have HB := dH; clear dH; clear hb hbox hg)
   | ((with_reducible refine aG (N := 5) rfl ?_); refine aU ?hg (N := 5) ?hd (cs := #[.int .i64 0, .slice none 0 0]) (t := 182) ?hr ?_; (case hd => rfl); (case hg => rfl); (case hr => first | (go_simp; done) | (go_simp; rfl)); intro gw hg wgw hbox hb; have qO := ae.mk hbox; have GG := ae.mk (show w.heap.size ≤ gw by rw [hg]; exact HB.out.size); have dH := ae.mk (au HB.out hb); have iJ := ae.mk (aQ fA.out hb); clear HB fA; have HB := dH; have fA := iJ; clear dH iJ; have c0 := (af fA.out 0).trans rfl; have c1 := (af fA.out 1).trans rfl; have c2 := (af fA.out 2).trans rfl; have c3 := (af fA.out 3).trans rfl; have c4 := (af fA.out 4).trans rfl; have c5 := (af fA.out 5).trans rfl; have c6 := (af fA.out 6).trans rfl; clear hb hbox hg)
   | ((with_reducible refine aG (N := 8) rfl ?_); refine Kd.yV k26 _ 26 ?hg (N' := 8) ?hd (xs := [(⟨ck, ⟨cx, cy, cw, ch⟩, ay, l⟩ : ai)]) (inner := [.int .u8 ck, .int .i64 cx, .int .i64 cy, .int .i64 cw, .int .i64 ch, .int .i64 ay, .slice A l.length cc]) (ok := fun _ => True) (gU := fun _ => True) ?hr ?hp (fun _ hk => hk) trivial (Below.refl _ _) (Nat.le_refl _) (by simp) ?_; (case hd => rfl); (case hg => rfl); (case hr => first | (go_simp; done) | (go_simp; rfl)); (case hp => exact (dm.c7 (o_ _ _ (⟨ck, ⟨cx, cy, cw, ch⟩, ay, l⟩ : ai) HC.out (Kd.sU (Kd.GY qM (Kd.iE HR.out HB.out)) (fun _ _ => trivial))) (dm.none _ _))); intro vr wr ho hb pJ kD; clear pJ kD; obtain ⟨Am, cm, er⟩ := Kd.jG ho; subst er; have dH := ae.mk (au HB.out hb); have iJ := ae.mk (aQ fA.out hb); have qE := ae.mk (aQ qO.out hb); clear HB fA qO; have HB := dH; have fA := iJ; have qO := qE; clear dH iJ qE; have Hm := ae.mk (Kd.jF ho).2.2; have Lm := ae.mk (Kd.jF ho).2.1; clear ho hb c0 c1 c2 c3 c4 c5 c6)
   | fail)
  refine (uO.calls Am cm [(⟨ck, ⟨cx, cy, cw, ch⟩, ay, l⟩ : ai)] false _ Hm.out Lm.out HM.out).mono ?_
  rintro e w1 ⟨rfl, hb⟩
  have dH := ae.mk (au HB.out hb); have iJ := ae.mk (aQ fA.out hb); have qE := ae.mk (aQ qO.out hb); clear HB fA qO; have HB := dH; have fA := iJ; have qO := qE; clear dH iJ qE
  clear hb Hm Lm
  go_wp2_with fail
  refine (Wx 1 0 (by decide) _).mono ?_
  rintro e w2 ⟨⟨tv, v, rfl⟩, hb⟩
  have dH := ae.mk (au HB.out hb); clear HB; have HB := dH; clear dH
  clear hb
  go_wp2_with (first
   | ((with_reducible refine aG (N := 12) rfl ?_); refine Kd.wW Kd.string _ 9 ?hg (N := 12) ?hd (xs := [(⟨#[108, 97, 121, 111, 117, 116]⟩ : ByteArray)]) (inner := [.string (⟨#[108, 97, 121, 111, 117, 116]⟩ : ByteArray)]) (ok := fun _ => True) (gU := fun _ => True) ?hr ?hp (fun _ hk => hk) trivial (Below.refl _ _) (Nat.le_refl _) (by simp) ?_; (case hd => rfl); (case hg => rfl); (case hr => first | (go_simp; done) | (go_simp; rfl)); (case hp => exact (dm.one (show Kd.M Kd.string _ _ _ (⟨#[108, 97, 121, 111, 117, 116]⟩ : ByteArray) [.string (⟨#[108, 97, 121, 111, 117, 116]⟩ : ByteArray)] from rfl) (dm.none _ _))); intro vs wr ho hb pJ kD; clear pJ kD; obtain ⟨As, cs_, er⟩ := Kd.iG ho; subst er; have dH := ae.mk (au HB.out hb); clear HB; have HB := dH; clear dH; have Hs := ae.mk (Kd.eQ ho).2.2; have Ls := ae.mk (Kd.eQ ho).2.1; clear ho hb)
   | fail)
  obtain ⟨ad, ea⟩ := Qm Hs.out
  subst ea
  refine (ZP tv v ad cs_ _ _ Hs.out Ls.out).mono ?_
  rintro e w3 ⟨⟨tu, u, rfl⟩, hb⟩
  have dH := ae.mk (au HB.out hb); clear HB; have HB := dH; clear dH
  clear hb Hs Ls
  go_wp2
  go_ret
  exact ⟨⟨_, _, rfl⟩, HB.out⟩
 | true =>
  rw [hm] at HM
  have HW := ae.mk (HW.out hm)
  simp only [Bool.true_and]
  clear hm
  cases q with
  | true =>
   simp only [if_true]
   go_enter Try.func180, Try.ntmps180
   go_wp2_with (first
    | ((with_reducible refine aG (N := 1) rfl ?_); refine aU ?hg (N := 1) ?hd (cs := #[.int .u8 ck, .int .i64 cx, .int .i64 cy, .int .i64 cw, .int .i64 ch, .int .i64 ay, .slice A l.length cc]) (t := 26) ?hr ?_; (case hd => rfl); (case hg => rfl); (case hr => first | (go_simp; done) | (go_simp; rfl)); intro b1 hg wb1 hbox hb; have fA := ae.mk hbox; have dH := ae.mk (au HB.out hb); clear HB; have HB := dH; clear dH; clear hb hbox hg)
    | ((with_reducible refine aG (N := 5) rfl ?_); refine aU ?hg (N := 5) ?hd (cs := #[.int .i64 0, .slice none 0 0]) (t := 182) ?hr ?_; (case hd => rfl); (case hg => rfl); (case hr => first | (go_simp; done) | (go_simp; rfl)); intro gw hg wgw hbox hb; have qO := ae.mk hbox; have GG := ae.mk (show w.heap.size ≤ gw by rw [hg]; exact HB.out.size); have dH := ae.mk (au HB.out hb); have iJ := ae.mk (aQ fA.out hb); clear HB fA; have HB := dH; have fA := iJ; clear dH iJ; have c0 := (af fA.out 0).trans rfl; have c1 := (af fA.out 1).trans rfl; have c2 := (af fA.out 2).trans rfl; have c3 := (af fA.out 3).trans rfl; have c4 := (af fA.out 4).trans rfl; have c5 := (af fA.out 5).trans rfl; have c6 := (af fA.out 6).trans rfl; clear hb hbox hg)
    | ((with_reducible refine aG (N := 8) rfl ?_); refine Kd.yV k26 _ 26 ?hg (N' := 8) ?hd (xs := [(⟨ck, ⟨cx, cy, cw, ch⟩, ay, l⟩ : ai)]) (inner := [.int .u8 ck, .int .i64 cx, .int .i64 cy, .int .i64 cw, .int .i64 ch, .int .i64 ay, .slice A l.length cc]) (ok := fun _ => True) (gU := fun _ => True) ?hr ?hp (fun _ hk => hk) trivial (Below.refl _ _) (Nat.le_refl _) (by simp) ?_; (case hd => rfl); (case hg => rfl); (case hr => first | (go_simp; done) | (go_simp; rfl)); (case hp => exact (dm.c7 (o_ _ _ (⟨ck, ⟨cx, cy, cw, ch⟩, ay, l⟩ : ai) HC.out (Kd.sU (Kd.GY qM (Kd.iE HR.out HB.out)) (fun _ _ => trivial))) (dm.none _ _))); intro vr wr ho hb pJ kD; clear pJ kD; obtain ⟨Am, cm, er⟩ := Kd.jG ho; subst er; have dH := ae.mk (au HB.out hb); have iJ := ae.mk (aQ fA.out hb); have qE := ae.mk (aQ qO.out hb); clear HB fA qO; have HB := dH; have fA := iJ; have qO := qE; clear dH iJ qE; have Hm := ae.mk (Kd.jF ho).2.2; have Lm := ae.mk (Kd.jF ho).2.1; clear ho hb c0 c1 c2 c3 c4 c5 c6)
    | fail)
   refine (uO.calls Am cm [(⟨ck, ⟨cx, cy, cw, ch⟩, ay, l⟩ : ai)] true _ Hm.out Lm.out HM.out).mono ?_
   rintro e w1 ⟨rfl, hb⟩
   have dH := ae.mk (au HB.out hb); have iJ := ae.mk (aQ fA.out hb); have qE := ae.mk (aQ qO.out hb); clear HB fA qO; have HB := dH; have fA := iJ; have qO := qE; clear dH iJ qE
   clear hb Hm Lm
   have HI := ae.mk (show qQ w gw 0 w1 from ⟨HB.out, 0, .slice none 0 0, [], qO.out, Kd.wX _ _ _ _ _, Nat.le_refl _⟩)
   have c0 := (af fA.out 0).trans rfl
   have c1 := (af fA.out 1).trans rfl
   have c2 := (af fA.out 2).trans rfl
   have c3 := (af fA.out 3).trans rfl
   have c4 := (af fA.out 4).trans rfl
   have c5 := (af fA.out 5).trans rfl
   have c6 := (af fA.out 6).trans rfl
   go_wp2_with fail
   clear c0 c1 c2 c3 c4 c5 c6
   refine (HW.out gw w1 GG.out HI.out).mono ?_
   rintro e w2 ⟨rfl, ⟨hb2, n, v, ls, hk, _, _⟩, _⟩
   clear HB qO HI fA
   have HB := ae.mk hb2
   have qO := ae.mk hk
   clear hb2 hk
   go_wp2
   go_ret
   exact ⟨rfl, HB.out⟩
  | false =>
   simp only [Bool.false_eq_true, if_false]
   go_enter Try.func180, Try.ntmps180
   go_wp2_with (first
    | ((with_reducible refine aG (N := 1) rfl ?_); refine aU ?hg (N := 1) ?hd (cs := #[.int .u8 ck, .int .i64 cx, .int .i64 cy, .int .i64 cw, .int .i64 ch, .int .i64 ay, .slice A l.length cc]) (t := 26) ?hr ?_; (case hd => rfl); (case hg => rfl); (case hr => first | (go_simp; done) | (go_simp; rfl)); intro b1 hg wb1 hbox hb; have fA := ae.mk hbox; have dH := ae.mk (au HB.out hb); clear HB; have HB := dH; clear dH; clear hb hbox hg)
    | ((with_reducible refine aG (N := 5) rfl ?_); refine aU ?hg (N := 5) ?hd (cs := #[.int .i64 0, .slice none 0 0]) (t := 182) ?hr ?_; (case hd => rfl); (case hg => rfl); (case hr => first | (go_simp; done) | (go_simp; rfl)); intro gw hg wgw hbox hb; have qO := ae.mk hbox; have GG := ae.mk (show w.heap.size ≤ gw by rw [hg]; exact HB.out.size); have dH := ae.mk (au HB.out hb); have iJ := ae.mk (aQ fA.out hb); clear HB fA; have HB := dH; have fA := iJ; clear dH iJ; have c0 := (af fA.out 0).trans rfl; have c1 := (af fA.out 1).trans rfl; have c2 := (af fA.out 2).trans rfl; have c3 := (af fA.out 3).trans rfl; have c4 := (af fA.out 4).trans rfl; have c5 := (af fA.out 5).trans rfl; have c6 := (af fA.out 6).trans rfl; clear hb hbox hg)
    | ((with_reducible refine aG (N := 8) rfl ?_); refine Kd.yV k26 _ 26 ?hg (N' := 8) ?hd (xs := [(⟨ck, ⟨cx, cy, cw, ch⟩, ay, l⟩ : ai)]) (inner := [.int .u8 ck, .int .i64 cx, .int .i64 cy, .int .i64 cw, .int .i64 ch, .int .i64 ay, .slice A l.length cc]) (ok := fun _ => True) (gU := fun _ => True) ?hr ?hp (fun _ hk => hk) trivial (Below.refl _ _) (Nat.le_refl _) (by simp) ?_; (case hd => rfl); (case hg => rfl); (case hr => first | (go_simp; done) | (go_simp; rfl)); (case hp => exact (dm.c7 (o_ _ _ (⟨ck, ⟨cx, cy, cw, ch⟩, ay, l⟩ : ai) HC.out (Kd.sU (Kd.GY qM (Kd.iE HR.out HB.out)) (fun _ _ => trivial))) (dm.none _ _))); intro vr wr ho hb pJ kD; clear pJ kD; obtain ⟨Am, cm, er⟩ := Kd.jG ho; subst er; have dH := ae.mk (au HB.out hb); have iJ := ae.mk (aQ fA.out hb); have qE := ae.mk (aQ qO.out hb); clear HB fA qO; have HB := dH; have fA := iJ; have qO := qE; clear dH iJ qE; have Hm := ae.mk (Kd.jF ho).2.2; have Lm := ae.mk (Kd.jF ho).2.1; clear ho hb c0 c1 c2 c3 c4 c5 c6)
    | fail)
   refine (uO.calls Am cm [(⟨ck, ⟨cx, cy, cw, ch⟩, ay, l⟩ : ai)] true _ Hm.out Lm.out HM.out).mono ?_
   rintro e w1 ⟨rfl, hb⟩
   have dH := ae.mk (au HB.out hb); have iJ := ae.mk (aQ fA.out hb); have qE := ae.mk (aQ qO.out hb); clear HB fA qO; have HB := dH; have fA := iJ; have qO := qE; clear dH iJ qE
   clear hb Hm Lm
   have HI := ae.mk (show qQ w gw 0 w1 from ⟨HB.out, 0, .slice none 0 0, [], qO.out, Kd.wX _ _ _ _ _, Nat.le_refl _⟩)
   have c0 := (af fA.out 0).trans rfl
   have c1 := (af fA.out 1).trans rfl
   have c2 := (af fA.out 2).trans rfl
   have c3 := (af fA.out 3).trans rfl
   have c4 := (af fA.out 4).trans rfl
   have c5 := (af fA.out 5).trans rfl
   have c6 := (af fA.out 6).trans rfl
   go_wp2_with fail
   clear c0 c1 c2 c3 c4 c5 c6
   refine (HW.out gw w1 GG.out HI.out).mono ?_
   rintro e w2 ⟨rfl, ⟨hb2, n, v, ls, hk, _, _⟩, _⟩
   clear HB qO HI fA
   have HB := ae.mk hb2
   have qO := ae.mk hk
   clear hb2 hk
   have c0 := (af qO.out 0).trans rfl
   have c1 := (af qO.out 1).trans rfl
   go_wp2_with fail
   clear c0 c1
   refine (Wx 5 n (by decide) _).mono ?_
   rintro e w2 ⟨⟨tv, v, rfl⟩, hb⟩
   have dH := ae.mk (au HB.out hb); clear HB; have HB := dH; clear dH
   clear hb
   go_wp2_with (first
    | ((with_reducible refine aG (N := 24) rfl ?_); refine Kd.wW Kd.string _ 9 ?hg (N := 24) ?hd (xs := [(⟨#[108, 97, 121, 111, 117, 116]⟩ : ByteArray)]) (inner := [.string (⟨#[108, 97, 121, 111, 117, 116]⟩ : ByteArray)]) (ok := fun _ => True) (gU := fun _ => True) ?hr ?hp (fun _ hk => hk) trivial (Below.refl _ _) (Nat.le_refl _) (by simp) ?_; (case hd => rfl); (case hg => rfl); (case hr => first | (go_simp; done) | (go_simp; rfl)); (case hp => exact (dm.one (show Kd.M Kd.string _ _ _ (⟨#[108, 97, 121, 111, 117, 116]⟩ : ByteArray) [.string (⟨#[108, 97, 121, 111, 117, 116]⟩ : ByteArray)] from rfl) (dm.none _ _))); intro vs wr ho hb pJ kD; clear pJ kD; obtain ⟨As, cs_, er⟩ := Kd.iG ho; subst er; have dH := ae.mk (au HB.out hb); clear HB; have HB := dH; clear dH; have Hs := ae.mk (Kd.eQ ho).2.2; have Ls := ae.mk (Kd.eQ ho).2.1; clear ho hb)
    | fail)
   obtain ⟨ad, ea⟩ := Qm Hs.out
   subst ea
   refine (ZP tv v ad cs_ _ _ Hs.out Ls.out).mono ?_
   rintro e w3 ⟨⟨tu, u, rfl⟩, hb⟩
   have dH := ae.mk (au HB.out hb); clear HB; have HB := dH; clear dH
   clear hb Hs Ls
   go_wp2
   go_ret
   exact ⟨⟨_, _, rfl⟩, HB.out⟩
theorem aeq (x : ai) (hz : sz x ≤ 1048576) (B : Option Addr) (cb : Nat) (W : World) (hr : Kd.C k26 W B x.f3.length x.f3) (hl : x.f3.length ≤ cb) :
  Calls Try.prog 179 #[.agg #[.int .u8 x.f0, .int .i64 x.f1.f0, .int .i64 x.f1.f1, .int .i64 x.f1.f2, .int .i64 x.f1.f3, .int .i64 x.f2, .slice B x.f3.length cb]] W fun e w' => e = .returned (.bool (!dB x)) ∧ Below W.heap.size W w' := by
 have HC := ae.mk (fun W1 (hb : Below W.heap.size W W1) => XV x hz B cb W1 (Kd.iE hr hb) hl)
 have HB := ae.mk (Below.refl W.heap.size W)
 clear hr hl hz
 cases hq : dB x
 all_goals
  simp only [hq, if_pos, Bool.false_eq_true, if_false] at HC
  clear hq
  go_enter Try.func179, Try.ntmps179
  go_wp2_with (first
   | ((with_reducible refine aG (N := 1) rfl ?_); refine aU ?hg (N := 1) ?hd (cs := #[.int .u8 x.f0, .int .i64 x.f1.f0, .int .i64 x.f1.f1, .int .i64 x.f1.f2, .int .i64 x.f1.f3, .int .i64 x.f2, .slice B x.f3.length cb]) (t := 26) ?hr ?_; (case hd => rfl); (case hg => rfl); (case hr => first | (go_simp; done) | (go_simp; rfl)); intro b1 hg wb1 hbox hb; have fA := ae.mk hbox; have dH := ae.mk (au HB.out hb); clear HB; have HB := dH; clear dH; have c0 := (af fA.out 0).trans rfl; have c1 := (af fA.out 1).trans rfl; have c2 := (af fA.out 2).trans rfl; have c3 := (af fA.out 3).trans rfl; have c4 := (af fA.out 4).trans rfl; have c5 := (af fA.out 5).trans rfl; have c6 := (af fA.out 6).trans rfl; clear hb hbox hg)
   | fail)
  clear c0 c1 c2 c3 c4 c5 c6
 ·refine (HC.out _ HB.out).mono ?_
  rintro e w2 ⟨⟨t, u, rfl⟩, hb⟩
  have dH := ae.mk (au HB.out hb); clear HB; have HB := dH; clear dH
  clear hb
  go_wp2
  go_ret
  exact ⟨rfl, HB.out⟩
 ·refine (HC.out _ HB.out).mono ?_
  rintro e w2 ⟨rfl, hb⟩
  have dH := ae.mk (au HB.out hb); clear HB; have HB := dH; clear dH
  clear hb
  go_wp2
  go_ret
  exact ⟨rfl, HB.out⟩
theorem Qr (l : List ai) (hz : ∀ x, x ∈ l → sz x ≤ 1048576) (A : Option Addr) (c : Nat) (w : World) (hr : Kd.C k26 w A l.length l) (hc : l.length ≤ c) :
  Calls Try.prog 148 #[.slice A l.length c] w fun e w' => e = .returned (.bool (l.all dB)) ∧ Below w.heap.size w w' := by
 have hq := QU (fun _ W => Below w.heap.size w W) (fun x => !dB x) 179 #[] (uP Try.func179 (by decide +kernel) (by kernel_rfl)) l A c w hr (fun _ _ h => h) (fun _ W n h => au h (eP (Below.refl _ _) n))
  (fun x rest W B cb hx _ hI hC hlx => by
   refine (aeq x (hz x hx) B cb W (Kd.iE hC hI) hlx).mono ?_
   rintro e w' ⟨he, hb⟩
   exact ⟨he, au hI hb⟩) w (Below.refl _ _) hr.2.1
 have HQ := ae.mk hq
 rw [List.all_eq_not_any_not]
 clear hq hr hc hz
 generalize l.any (fun x => !dB x) = r at HQ ⊢
 cases r
 all_goals
  go_enter Try.func148, Try.ntmps148
  go_wp2_with fail
  refine HQ.out.mono ?_
  rintro e w2 ⟨rfl, hb⟩
  have HB := ae.mk hb
  clear hb
  go_wp2
  go_ret
  exact ⟨rfl, HB.out⟩
noncomputable def m_.f (l0 : List ai) : Option Bool := if l0.all (fun c => decide (sz c ≤ 1048576)) = true then some (l0.all dB) else none
theorem m_.calls (A0 : Option Addr) (c0 : Nat) (l0 : List ai) (r : Bool) (w : World) (hr0 : Kd.C k26 w A0 l0.length l0) (hc0 : l0.length ≤ c0) (h : m_.f l0 = some r) :
  Calls Try.prog 148 #[.slice A0 l0.length c0] w fun e w' => e = .returned (.bool r) ∧ Below w.heap.size w w' := by
 unfold m_.f at h
 split at h
 ·rename_i hz
  injection h with h
  subst h
  exact Qr l0 (fun x hx => of_decide_eq_true (List.all_eq_true.1 hz x hx)) A0 c0 w hr0 hc0
 ·exact absurd h (by simp)
end Go.Proofs.Ytfdmfgaiblfbhaa.P
namespace Go.Proofs.Ytfdmfgaiblfbhaa.P
open Go.RowKit Go.Proofs.ag.aV Go.Proofs.ag.bP Go.Proofs.ag.cO
attribute [local go_sem] kJ kS lM l7 lI lJ mJ mO
noncomputable def dC.j0 : Nat → Int → Bool → Int → Int → Int → Int → Int → Int → List (ai) → Option (Int)
 | 0, _, _, _, _, _, _, _, _, _ => none
 | k + 1, x1, JS, ac0, Sr, Su, Sv, Sz, ac1, ac2 => if JS = true then (some 0) else ((qy.f Sr Su Sv Sz x1).bind fun IY => ((mF.f k ac0 Sr Su Sv Sz ac1 ac2 x1).bind fun Gg => (some (wrap64 (IY - Gg)))))
noncomputable def dC.f (k : Nat) (az : Int) (aK : Int) (aI : Int) (aJ : Int) (bH : Int) (bI : Int) (aT : List (ai)) (a1 : Int) : Option (Int) := (lW.f a1).bind fun Ll => (if Ll = true then ((m_.f (([(⟨az, (⟨aK, aI, aJ, bH⟩ : dO), bI, aT⟩ : ai)] : List (ai)))).bind fun yT => (dC.j0 k a1 (!yT) az aK aI aJ bH bI aT)) else (dC.j0 k a1 true az aK aI aJ bH bI aT))
def dC.T3 : Bool × List (List Nat × List Nat) := (true, [([], []), ([0], [0]), ([], []), ([1, 2], [1, 2]), ([], []), ([], []), ([4, 5, 3], [4, 5]), ([3, 6], [3, 6]), ([7, 6, 0, 1, 2, 3, 4, 5, 6, 7], [7])])
def dC.B3 : List Nat := [0, 1, 0, 7, 0, 0, 63, 127, 255]
theorem dC.Lp : iM .any (opsOf Try.f86 3) = dC.T3 := by kernel_rfl
theorem dC.Gv : gZ dC.T3.2 dC.B3 = true := by kernel_rfl
theorem dC.calls (k : Nat) (az : Int) (aK : Int) (aI : Int) (aJ : Int) (bH : Int) (bI : Int) (gI : Nat → Prop) (dW : Option Addr) (dX : Nat) (aT : List (ai)) (a1 : Int) (r : Int) (w : World) (GK : Kd.V k26 26 w w.heap.size (fun k_ => gI k_) (.slice dW aT.length dX) aT) (h : dC.f k az aK aI aJ bH bI aT a1 = some r) :
  Calls Try.prog 86 #[.agg #[.int .u8 az, .int .i64 aK, .int .i64 aI, .int .i64 aJ, .int .i64 bH, .int .i64 bI, .slice dW aT.length dX], .int .u8 a1] w fun e w' => e = .returned (.int .i64 r) ∧ Below w.heap.size w w' := by
 have KG := Try.underlying26
 have PS := Try.underlying23
 have jU := ae.mk (show Kd.V k26 26 w w.heap.size (fun k_ => (gI k_ ∨ w.heap.size ≤ k_)) (.slice dW aT.length dX) aT from Kd.iq GK (fun k_ hk => .inl hk))
 have HB := ae.mk (Below.refl w.heap.size w)
 have H : ((lW.f a1).bind fun Ll => (if Ll = true then ((m_.f (([(⟨az, (⟨aK, aI, aJ, bH⟩ : dO), bI, aT⟩ : ai)] : List (ai)))).bind fun yT => (dC.j0 k a1 (!yT) az aK aI aJ bH bI aT)) else (dC.j0 k a1 true az aK aI aJ bH bI aT))) = some r := h
 clear h
 have HC3 := ae.mk H
 clear H
 go_enter Try.func86, Try.ntmps86
 go_upto_region 1 with (((with_reducible refine aG (N := 2) rfl ?_); (try (refine iV (by rfl) ?_; dsimp only)); refine aU ?hg (N := 2) ?hd (cs := #[.int .u8 az, .int .i64 aK, .int .i64 aI, .int .i64 aJ, .int .i64 bH, .int .i64 bI, .slice dW aT.length dX]) (t := 26) ?hr ?_; (case hd => rfl); (case hg => rfl); (case hr => (go_simp; done)); intro nC hg w4 hbox hb; have fG := ae.mk (hbox); replace jU := ae.mk (Kd.jT (Kd.pG jU.out nC (Nat.le_of_eq hg.symm)) hb); replace HB := ae.mk (au (by repeat ((with_reducible exact HB.out))) hb); clear hb hbox hg))
 (skip)
 go_cut [13] (fun v13 wc => ∃ (kq : Nat) (NH : Bool), v13 = .bool NH ∧ ae (dC.j0 kq a1 NH az aK aI aJ bH bI aT = some r) ∧ ae (kq ≤ k) ∧ ae (Kd.V k26 26 wc w.heap.size (fun k_ => (gI k_ ∨ w.heap.size ≤ k_) ∧ k_ ≠ nC) (.slice dW aT.length dX) aT) ∧ ae (wc.heap[nC]? = some (.cells #[.int .u8 az, .int .i64 aK, .int .i64 aI, .int .i64 aJ, .int .i64 bH, .int .i64 bI, (.slice dW aT.length dX)] 26 (0, 0))) ∧ ae (Below w.heap.size w wc))
 case first =>
  have H := HC3.out
  clear HC3
  replace H := Option.bind_eq_some_iff.mp H
  obtain ⟨Ll, A50, H⟩ := H
  replace H : (if Ll = true then ((m_.f (([(⟨az, (⟨aK, aI, aJ, bH⟩ : dO), bI, aT⟩ : ai)] : List (ai)))).bind fun yT => (dC.j0 k a1 (!yT) az aK aI aJ bH bI aT)) else (dC.j0 k a1 true az aK aI aJ bH bI aT)) = some r := H
  have A5 := ae.mk A50
  clear A50
  by_cases c6 : Ll = true
  ·subst c6
   have H1 : ((m_.f (([(⟨az, (⟨aK, aI, aJ, bH⟩ : dO), bI, aT⟩ : ai)] : List (ai)))).bind fun yT => (dC.j0 k a1 (!yT) az aK aI aJ bH bI aT)) = some r := by rw [if_pos rfl] at H; exact H
   clear H
   have H := H1
   clear H1
   obtain ⟨agm, TM⟩ : ∃ y_ : List (ai), y_ = (([(⟨az, (⟨aK, aI, aJ, bH⟩ : dO), bI, aT⟩ : ai)] : List (ai))) := ⟨_, rfl⟩
   replace H : ((m_.f agm).bind fun yT => (dC.j0 k a1 (!yT) az aK aI aJ bH bI aT)) = some r := by (rw [TM]; with_reducible exact H)
   have agG := ae.mk TM
   clear TM
   replace H := Option.bind_eq_some_iff.mp H
   obtain ⟨yT, A70, H⟩ := H
   replace H : (dC.j0 k a1 (!yT) az aK aI aJ bH bI aT) = some r := H
   have A7 := ae.mk A70
   clear A70
   have H' := ae.mk H
   clear H
   go_wp2_with (first | ((with_reducible refine mD (f := 147) rfl ?_); refine oN (some 6) rfl rfl Try.func147 (by kernel_rfl) rfl #[.int .u8 a1] rfl (by (try simp only [List.map_toArray, List.map_cons, List.map_nil]); rfl) ?_; (with_reducible refine (lW.calls a1 true _ A5.out).mono ?_); rintro e w8 ⟨rfl, hb⟩; refine ⟨_, rfl, ?_⟩; replace jU := ae.mk (Kd.jT jU.out hb); replace fG := ae.mk (aQ fG.out hb); replace HB := ae.mk (au (by repeat ((with_reducible exact HB.out))) hb); (try clear hb); have Vz : w8.cell? ⟨nC, 0, none⟩ = some (.int .u8 az) := (af fG.out 0).trans rfl; have VA : w8.cell? ⟨nC, 1, none⟩ = some (.int .i64 aK) := (af fG.out 1).trans rfl; have VB : w8.cell? ⟨nC, 2, none⟩ = some (.int .i64 aI) := (af fG.out 2).trans rfl; have VC : w8.cell? ⟨nC, 3, none⟩ = some (.int .i64 aJ) := (af fG.out 3).trans rfl; have VD : w8.cell? ⟨nC, 4, none⟩ = some (.int .i64 bH) := (af fG.out 4).trans rfl; have VE : w8.cell? ⟨nC, 5, none⟩ = some (.int .i64 bI) := (af fG.out 5).trans rfl; have VF : w8.cell? ⟨nC, 6, none⟩ = some (.slice dW aT.length dX) := (af fG.out 6).trans rfl; have VS := ah fG.out 0; have VT := ah fG.out 1; have VU := ah fG.out 2; have VV := ah fG.out 3; have VW := ah fG.out 4; have VX := ah fG.out 5; have VY := ah fG.out 6) | ((with_reducible refine aG (N := 10) rfl ?_); (try (refine iV (by rfl) ?_; dsimp only)); refine Kd.yV k26 _ 26 ?hg (N' := 10) ?hd (xs := ([(⟨az, (⟨aK, aI, aJ, bH⟩ : dO), bI, aT⟩ : ai)] : List (ai))) (inner := [.int .u8 az, .int .i64 aK, .int .i64 aI, .int .i64 aJ, .int .i64 bH, .int .i64 bI, .slice dW aT.length dX]) (ok := (fun k_ => (gI k_ ∨ w.heap.size ≤ k_) ∧ k_ ≠ nC)) (gU := (fun k_ => (gI k_ ∨ w.heap.size ≤ k_) ∧ k_ ≠ nC)) ?hr ?hp (fun _ hk => hk) ((show ∀ k_, w8.heap.size ≤ k_ → (fun k_ => (gI k_ ∨ w.heap.size ≤ k_) ∧ k_ ≠ nC) k_ from fun k_ hk => ⟨(.inr (Nat.le_trans (fB (by repeat ((with_reducible exact HB.out)))) hk)), Kd.BK fG.out k_ hk⟩) _ (Nat.le_refl _)) (Below.refl _ _) (Nat.le_refl _) (by simp) ?_; (case hd => rfl); (case hg => rfl); (case hr => (go_simp; done)); (case hp => exact (dm.c7 (show Kd.FK k26 _ _ (⟨az, (⟨aK, aI, aJ, bH⟩ : dO), bI, aT⟩ : ai) [.int .u8 az, .int .i64 aK, .int .i64 aI, .int .i64 aJ, .int .i64 bH, .int .i64 bI, .slice dW aT.length dX] from (o_ _ _ (⟨az, (⟨aK, aI, aJ, bH⟩ : dO), bI, aT⟩ : ai) (Kd.kQ (Kd.iq (ok' := (fun k_ => (gI k_ ∨ w.heap.size ≤ k_) ∧ k_ ≠ nC)) (jU.out) (fun k_ hk => ⟨hk.1, hk.2⟩))).2.1 (Kd.QQ (Kd.iq (ok' := (fun k_ => (gI k_ ∨ w.heap.size ≤ k_) ∧ k_ ≠ nC)) (jU.out) (fun k_ hk => ⟨hk.1, hk.2⟩))))) (dm.none _ _))); intro amJ w10 TF hb pJ kD; clear pJ kD; (rw [← agG.out] at TF); have Jb := ae.mk (Kd.xE TF (fB (by repeat ((with_reducible exact HB.out))))); replace jU := ae.mk (Kd.yG jU.out (Kd.wC TF) hb); replace fG := ae.mk (aQ fG.out hb); replace HB := ae.mk (au (by repeat ((with_reducible exact HB.out))) hb); clear hb TF; obtain ⟨amc, amn, aiG⟩ := Kd.jG Jb.out; subst aiG) | (go_at_call 148; (with_reducible refine (m_.calls _ _ agm yT _ ?vK ?Be A7.out).mono ?_); (case vK => repeat (exact (Kd.jF Jb.out).2.2)); (case Be => exact (Kd.jF Jb.out).2.1); rintro e vT ⟨rfl, hb⟩; replace jU := ae.mk (Kd.jT jU.out hb); replace Jb := ae.mk (Kd.qY Jb.out hb); replace fG := ae.mk (aQ fG.out hb); replace HB := ae.mk (au (by repeat ((with_reducible exact HB.out))) hb); (try clear hb)))
   go_meet
   case rel => exact ⟨_, (!yT), (by rfl), H', ⟨by omega⟩, ⟨by exact Kd.iq jU.out (fun _ hk => ⟨hk.1.1, hk.1.2⟩)⟩, ⟨by exact fG.out⟩, ⟨by repeat ((with_reducible exact HB.out))⟩⟩
  ·replace c6 := Bool.eq_false_iff.mpr c6
   subst c6
   have H1 : (dC.j0 k a1 true az aK aI aJ bH bI aT) = some r := by rw [if_neg (show ¬ (false = true) by decide)] at H; exact H
   clear H
   have H := H1
   clear H1
   have H' := ae.mk H
   clear H
   go_wp2_with (((with_reducible refine mD (f := 147) rfl ?_); refine oN (some 6) rfl rfl Try.func147 (by kernel_rfl) rfl #[.int .u8 a1] rfl (by (try simp only [List.map_toArray, List.map_cons, List.map_nil]); rfl) ?_; (with_reducible refine (lW.calls a1 false _ A5.out).mono ?_); rintro e w14 ⟨rfl, hb⟩; refine ⟨_, rfl, ?_⟩; replace jU := ae.mk (Kd.jT jU.out hb); replace fG := ae.mk (aQ fG.out hb); replace HB := ae.mk (au (by repeat ((with_reducible exact HB.out))) hb); (try clear hb)))
   go_meet
   case rel => exact ⟨_, (true), (by rfl), H', ⟨by omega⟩, ⟨by exact jU.out⟩, ⟨by exact fG.out⟩, ⟨by repeat ((with_reducible exact HB.out))⟩⟩
 case rest =>
  clear HC3
  obtain ⟨kq, NH, rfl, HA, HJ2, qj, fG, HB⟩ := hcut
  cases kq with
  | zero => exact absurd HA.out (by simp [dC.j0])
  | succ kj2 =>
   have H := HA.out
   clear HA
   simp only [dC.j0] at H
   by_cases c15 : NH = true
   ·subst c15
    have H1 : (some 0) = some r := by rw [if_pos rfl] at H; exact H
    clear H
    have H := H1
    clear H1
    obtain rfl := Option.some.inj H
    go_wp2
    go_ret
    exact ⟨by rfl, by repeat ((with_reducible exact HB.out))⟩
   ·replace c15 := Bool.eq_false_iff.mpr c15
    subst c15
    have H1 : ((qy.f aK aI aJ bH a1).bind fun IY => ((mF.f kj2 az aK aI aJ bH bI aT a1).bind fun Gg => (some (wrap64 (IY - Gg))))) = some r := by rw [if_neg (show ¬ (false = true) by decide)] at H; exact H
    clear H
    have H := H1
    clear H1
    replace H := Option.bind_eq_some_iff.mp H
    obtain ⟨IY, NJ, H⟩ := H
    replace H : ((mF.f kj2 az aK aI aJ bH bI aT a1).bind fun Gg => (some (wrap64 (IY - Gg)))) = some r := H
    have A16 := ae.mk NJ
    clear NJ
    replace H := Option.bind_eq_some_iff.mp H
    obtain ⟨Gg, ac9, H⟩ := H
    replace H : (some (wrap64 (IY - Gg))) = some r := H
    have A17 := ae.mk ac9
    clear ac9
    obtain rfl := Option.some.inj H
    try go_wp2
    replace qj := ae.mk (Kd.Oq qj.out); replace fG := ae.mk (xm fG.out); replace HB := ae.mk (wG HB.out)
    refine gX (n := 9) (S := fun w' => w'.cell? ⟨nC, 0, none⟩ = some (.int .u8 az) ∧ w'.cell? ⟨nC, 1, none⟩ = some (.int .i64 aK) ∧ w'.cell? ⟨nC, 2, none⟩ = some (.int .i64 aI) ∧ w'.cell? ⟨nC, 3, none⟩ = some (.int .i64 aJ) ∧ w'.cell? ⟨nC, 4, none⟩ = some (.int .i64 bH) ∧ w'.cell? ⟨nC, 5, none⟩ = some (.int .i64 bI) ∧ w'.cell? ⟨nC, 6, none⟩ = some (.slice dW aT.length dX)) (ds := []) #[false, false, false, false, false, false, false, false, false] (by kernel_rfl) rfl rfl ⟨(af fG.out 0).trans rfl, (af fG.out 1).trans rfl, (af fG.out 2).trans rfl, (af fG.out 3).trans rfl, (af fG.out 4).trans rfl, (af fG.out 5).trans rfl, (af fG.out 6).trans rfl⟩ (fun hHeld => ?_); refine dZ dC.Lp dC.Gv (fun aj dE => ?_)
    generalize wc.drew = w18 at qj fG HB hHeld ⊢
    refine uq (i := 0) (N := some 14) (v := ?_) (a' := ?_) #[true, false, false, false, false, false, false, false, false] rfl rfl (qm aj.out (by kernel_rfl)) (fun _ _ _ h => h) (Or.inl ⟨by rfl, ?_⟩) ?_ ?_
    rotate_left
    ·intro w'
     go_simp
     with_reducible rfl
    rotate_left
    ·simp only [Act.put, List.setIfInBounds_toArray, List.set_cons_zero, List.set_cons_succ, lH, lG]
     rfl
    refine uq (i := 2) (N := some 16) (v := ?_) (a' := ?_) #[true, false, true, false, false, false, false, false, false] rfl rfl (qm aj.out (by kernel_rfl)) (fun _ _ _ h => h) (Or.inl ⟨by rfl, ?_⟩) ?_ ?_
    rotate_left
    ·intro w'
     go_simp
     with_reducible rfl
    rotate_left
    ·simp only [Act.put, List.setIfInBounds_toArray, List.set_cons_zero, List.set_cons_succ, lH, lG]
     rfl
    refine uq (i := 5) (N := some 19) (v := ?_) (a' := ?_) #[true, false, true, false, false, true, false, false, false] rfl rfl (qm aj.out (by kernel_rfl)) (fun _ _ _ h => h) (Or.inl ⟨by rfl, ?_⟩) ?_ ?_
    rotate_left
    ·intro w'
     go_simp
     with_reducible rfl
    rotate_left
    ·simp only [Act.put, List.setIfInBounds_toArray, List.set_cons_zero, List.set_cons_succ, lH, lG]
     rfl
    refine Bf (i := 1) (N := some 15) (v := ?_) (a' := ?_) #[true, true, true, false, false, true, false, false, false] rfl rfl (xx aj.out dE.out (by kernel_rfl)) (fun _ _ _ h => h) (Or.inl ⟨by rfl, ?_⟩) hHeld ?_ ?_
    rotate_left
    ·rintro w' ⟨s0, s1, s2, s3, s4, s5, s6⟩
     go_simp
     with_reducible rfl
    rotate_left
    ·simp only [Act.put, List.setIfInBounds_toArray, List.set_cons_zero, List.set_cons_succ, lH, lG]
     rfl
    refine Bf (i := 4) (N := some 18) (v := ?_) (a' := ?_) #[true, true, true, false, true, true, false, false, false] rfl rfl (xx aj.out dE.out (by kernel_rfl)) (fun _ _ _ h => h) (Or.inl ⟨by rfl, ?_⟩) hHeld ?_ ?_
    rotate_left
    ·rintro w' ⟨s0, s1, s2, s3, s4, s5, s6⟩
     go_simp
     with_reducible rfl
    rotate_left
    ·simp only [Act.put, List.setIfInBounds_toArray, List.set_cons_zero, List.set_cons_succ, lH, lG]
     rfl
    refine P7 (i := 3) (N := some 17) #[true, true, true, true, true, true, false, false, false] rfl rfl (zB aj.out (by kernel_rfl)) (by decide) (fun K hK => ?_)
    refine ja Try.func98 (by kernel_rfl) rfl #[.agg #[.int .i64 aK, .int .i64 aI, .int .i64 aJ, .int .i64 bH], .int .u8 a1] (by rfl) rfl rfl (by (try simp only [List.map_toArray, List.map_cons, List.map_nil]); rfl) ?_
    with_reducible refine (qy.calls aK aI aJ bH a1 IY _ A16.out).mono ?_
    rintro e Hy ⟨rfl, hb⟩
    refine ⟨_, rfl, ?_⟩
    replace qj := ae.mk (Kd.jT qj.out hb); replace fG := ae.mk (aQ fG.out hb); replace HB := ae.mk (au (by repeat ((with_reducible exact HB.out))) hb)
    (try clear hb)
    (skip)
    (skip)
    (skip)
    refine hK.out _ _ ⟨(af fG.out 0).trans rfl, (af fG.out 1).trans rfl, (af fG.out 2).trans rfl, (af fG.out 3).trans rfl, (af fG.out 4).trans rfl, (af fG.out 5).trans rfl, (af fG.out 6).trans rfl⟩ (fun hHeld => ?_)
    clear hK K
    refine mP (a' := ?_) ?_ ?_
    rotate_left
    ·show Act.put _ (some 17) _ = _
     simp only [Act.put, List.setIfInBounds_toArray, List.set_cons_zero, List.set_cons_succ, lH, lG]
     rfl
    refine P7 (i := 6) (N := some 20) #[true, true, true, true, true, true, true, false, false] rfl rfl (zB aj.out (by kernel_rfl)) (by decide) (fun K hK => ?_)
    refine ja Try.func149 (by kernel_rfl) rfl #[.agg #[.int .u8 az, .int .i64 aK, .int .i64 aI, .int .i64 aJ, .int .i64 bH, .int .i64 bI, .slice dW aT.length dX], .int .u8 a1] (by rfl) rfl rfl (by (try simp only [List.map_toArray, List.map_cons, List.map_nil]); rfl) ?_
    with_reducible refine (mF.calls kj2 az aK aI aJ bH bI _ _ aT a1 Gg _ ?vK ?Be A17.out).mono ?_
    (case vK => repeat (exact (Kd.kQ qj.out).2.2))
    (case Be => exact (Kd.kQ qj.out).2.1)
    rintro e w20 ⟨rfl, hb⟩
    refine ⟨_, rfl, ?_⟩
    replace qj := ae.mk (Kd.jT qj.out hb); replace fG := ae.mk (aQ fG.out hb); replace HB := ae.mk (au (by repeat ((with_reducible exact HB.out))) hb)
    (try clear hb)
    (skip)
    (skip)
    (skip)
    refine hK.out _ _ ⟨(af fG.out 0).trans rfl, (af fG.out 1).trans rfl, (af fG.out 2).trans rfl, (af fG.out 3).trans rfl, (af fG.out 4).trans rfl, (af fG.out 5).trans rfl, (af fG.out 6).trans rfl⟩ (fun hHeld => ?_)
    clear hK K
    refine mP (a' := ?_) ?_ ?_
    rotate_left
    ·show Act.put _ (some 20) _ = _
     simp only [Act.put, List.setIfInBounds_toArray, List.set_cons_zero, List.set_cons_succ, lH, lG]
     rfl
    refine uq (i := 7) (N := some 21) (v := ?_) (a' := ?_) #[true, true, true, true, true, true, true, true, false] rfl rfl (qm aj.out (by kernel_rfl)) (fun _ _ _ h => h) (Or.inl ⟨by rfl, ?_⟩) ?_ ?_
    rotate_left
    ·intro w'
     go_simp
     with_reducible rfl
    rotate_left
    ·simp only [Act.put, List.setIfInBounds_toArray, List.set_cons_zero, List.set_cons_succ, lH, lG]
     rfl
    refine uq (i := 8) (N := some 4) (v := ?_) (a' := ?_) #[true, true, true, true, true, true, true, true, true] rfl rfl (qm aj.out (by kernel_rfl)) (fun _ _ _ h => h) (Or.inl ⟨by rfl, ?_⟩) ?_ ?_
    rotate_left
    ·intro w'
     go_simp
     with_reducible rfl
    rotate_left
    ·simp only [Act.put, List.setIfInBounds_toArray, List.set_cons_zero, List.set_cons_succ, lH, lG]
     rfl
    refine jf (fJ aj.out (by kernel_rfl)) ?_
    try go_wp2
    go_ret
    exact ⟨by rfl, by repeat ((with_reducible exact HB.out))⟩
def rO.f (az : Int) (aK : Int) (aI : Int) (aJ : Int) (a1 : Int) : Option (Int) := if a1 = 1 then (some aI) else (if a1 = 2 then (some aJ) else (some 0))
theorem rO.calls (az : Int) (aK : Int) (aI : Int) (aJ : Int) (a1 : Int) (r : Int) (w : World) (h : rO.f az aK aI aJ a1 = some r) :
  Calls Try.prog 87 #[.agg #[.int .i64 az, .int .i64 aK, .int .i64 aI, .int .i64 aJ], .int .u8 a1] w fun e w' => e = .returned (.int .i64 r) ∧ Below w.heap.size w w' := by
 have PS := Try.underlying23
 have HB := ae.mk (Below.refl w.heap.size w)
 have H : (if a1 = 1 then (some aI) else (if a1 = 2 then (some aJ) else (some 0))) = some r := h
 clear h
 by_cases c3 : a1 = 1
 ·rw [if_pos c3] at H
  have vW : (a1 == 1) = true := beq_iff_eq.mpr c3
  have BA : (a1 != 1) = false := bne_eq_false_iff_eq.mpr c3
  clear c3
  obtain rfl := Option.some.inj H
  go_enter Try.func87, Try.ntmps87
  go_wp2_with (((with_reducible refine aG (N := 2) rfl ?_); refine aU ?hg (N := 2) ?hd (cs := #[.int .i64 az, .int .i64 aK, .int .i64 aI, .int .i64 aJ]) (t := 23) ?hr ?_; (case hd => rfl); (case hg => rfl); (case hr => (go_simp; done)); intro yZ hg w4 hbox hb; have pX := ae.mk (hbox); replace HB := ae.mk (au (by repeat ((with_reducible exact HB.out))) hb); clear hb hbox hg; have ae3 : w4.cell? ⟨yZ, 0, none⟩ = some (.int .i64 az) := (af pX.out 0).trans rfl; have ae4 : w4.cell? ⟨yZ, 1, none⟩ = some (.int .i64 aK) := (af pX.out 1).trans rfl; have ae5 : w4.cell? ⟨yZ, 2, none⟩ = some (.int .i64 aI) := (af pX.out 2).trans rfl; have ae6 : w4.cell? ⟨yZ, 3, none⟩ = some (.int .i64 aJ) := (af pX.out 3).trans rfl; have afg := ah pX.out 0; have afh := ah pX.out 1; have afi := ah pX.out 2; have afj := ah pX.out 3))
  go_ret
  exact ⟨by rfl, by repeat ((with_reducible exact HB.out))⟩
 ·rw [if_neg c3] at H
  have vW : (a1 == 1) = false := beq_eq_false_iff_ne.mpr c3
  have BA : (a1 != 1) = true := bne_iff_ne.mpr c3
  by_cases c6 : a1 = 2
  ·rw [if_pos c6] at H
   have DZ : (a1 == 2) = true := beq_iff_eq.mpr c6
   have XO : (a1 != 2) = false := bne_eq_false_iff_eq.mpr c6
   clear c6
   obtain rfl := Option.some.inj H
   go_enter Try.func87, Try.ntmps87
   go_wp2_with (((with_reducible refine aG (N := 2) rfl ?_); refine aU ?hg (N := 2) ?hd (cs := #[.int .i64 az, .int .i64 aK, .int .i64 aI, .int .i64 aJ]) (t := 23) ?hr ?_; (case hd => rfl); (case hg => rfl); (case hr => (go_simp; done)); intro yZ hg w7 hbox hb; have pX := ae.mk (hbox); replace HB := ae.mk (au (by repeat ((with_reducible exact HB.out))) hb); clear hb hbox hg; have Vu : w7.cell? ⟨yZ, 0, none⟩ = some (.int .i64 az) := (af pX.out 0).trans rfl; have Vw : w7.cell? ⟨yZ, 1, none⟩ = some (.int .i64 aK) := (af pX.out 1).trans rfl; have Vx : w7.cell? ⟨yZ, 2, none⟩ = some (.int .i64 aI) := (af pX.out 2).trans rfl; have Vy : w7.cell? ⟨yZ, 3, none⟩ = some (.int .i64 aJ) := (af pX.out 3).trans rfl; have VN := ah pX.out 0; have VO := ah pX.out 1; have VQ := ah pX.out 2; have VR := ah pX.out 3))
   go_ret
   exact ⟨by rfl, by repeat ((with_reducible exact HB.out))⟩
  ·rw [if_neg c6] at H
   have DZ : (a1 == 2) = false := beq_eq_false_iff_ne.mpr c6
   have XO : (a1 != 2) = true := bne_iff_ne.mpr c6
   obtain rfl := Option.some.inj H
   go_enter Try.func87, Try.ntmps87
   go_wp2_with (((with_reducible refine aG (N := 2) rfl ?_); refine aU ?hg (N := 2) ?hd (cs := #[.int .i64 az, .int .i64 aK, .int .i64 aI, .int .i64 aJ]) (t := 23) ?hr ?_; (case hd => rfl); (case hg => rfl); (case hr => (go_simp; done)); intro yZ hg w9 hbox hb; have pX := ae.mk (hbox); replace HB := ae.mk (au (by repeat ((with_reducible exact HB.out))) hb); clear hb hbox hg))
   go_ret
   exact ⟨by rfl, by repeat ((with_reducible exact HB.out))⟩
end Go.Proofs.Ytfdmfgaiblfbhaa.P
namespace Go.Proofs.Ytfdmfgaiblfbhaa.P
open Go.RowKit Go.Proofs.ag.aV Go.Proofs.ag.bP Go.Proofs.ag.cO
theorem Ev.unique {α : Type} {g : Nat → Option α} {a b : α} (h : Ev g a) (k : Ev g b) : a = b := by
 obtain ⟨n, hn⟩ := h
 obtain ⟨m, hm⟩ := k
 have e := (hn (max n m) (by omega)).symm.trans (hm (max n m) (by omega))
 exact Option.some.inj e
theorem Uc (r : dO) (ax : Int) : rO.f r.f0 r.f1 r.f2 r.f3 ax = some (aW ax r) := by
 unfold rO.f aW
 split
 ·rfl
 ·split <;> rfl
theorem Hu (c : ai) (hz : sz c ≤ 1048576) : m_.f ([(⟨c.f0, (⟨c.f1.f0, c.f1.f1, c.f1.f2, c.f1.f3⟩ : dO), c.f2, c.f3⟩ : ai)] : List ai) = some (dB c) := by
 rw [Gz]
 unfold m_.f
 rw [if_pos (by simp [hz])]
 simp
theorem pK {c : ai} (h : mM c = true) : (iw c).all oh = true := by
 unfold mM at h
 simp only [Bool.and_eq_true] at h
 exact h.2.1
theorem lL {c : ai} (h : dB c = true) : mM c = true := by
 unfold dB at h
 simp only [Bool.and_eq_true] at h
 exact h.1
noncomputable def aH (ax : Int) (c : ai) : Int := if (ax = 1 ∨ ax = 2) ∧ dB c = true then wrap64 (aW ax c.f1 - bZ ax c) else 0
theorem Yd (c : ai) (hz : sz c ≤ 1048576) (ax : Int) : Ev (fun k => dC.f k c.f0 c.f1.f0 c.f1.f1 c.f1.f2 c.f1.f3 c.f2 c.f3 ax) (aH ax c) := by
 have no : Ev (fun k => dC.j0 k ax true c.f0 c.f1.f0 c.f1.f1 c.f1.f2 c.f1.f3 c.f2 c.f3) 0 := by
  refine Ev.step (f := fun _ => some 0) (fun k => ?_) (Ev.now _)
  simp only [dC.j0]
  rw [if_pos trivial]
 unfold aH
 by_cases hax : ax = 1 ∨ ax = 2
 ·have ha : lW.f ax = some true := by
   unfold lW.f
   rcases hax with rfl | rfl <;> rfl
  cases ht : dB c with
  | false =>
   rw [if_neg (by simp)]
   refine Ev.congr (f := fun k => dC.j0 k ax true c.f0 c.f1.f0 c.f1.f1 c.f1.f2 c.f1.f3 c.f2 c.f3) (fun k => ?_) no
   unfold dC.f
   rw [ha]
   simp only [Option.bind_some, if_true]
   rw [Hu c hz, ht]
   rfl
  | true =>
   rw [if_pos ⟨hax, rfl⟩]
   refine Ev.congr (f := fun k => dC.j0 k ax false c.f0 c.f1.f0 c.f1.f1 c.f1.f2 c.f1.f3 c.f2 c.f3) (fun k => ?_) (Ev.step (f := fun k => (mF.f k c.f0 c.f1.f0 c.f1.f1 c.f1.f2 c.f1.f3 c.f2 c.f3 ax).bind fun t => some (wrap64 (aW ax c.f1 - t))) (fun k => ?_) (Ev.bind (Yv ax (sz c) c (Nat.le_refl _) hz) (Ev.now _)))
   ·unfold dC.f
    rw [ha]
    simp only [Option.bind_some, if_true]
    rw [Hu c hz, ht]
    rfl
   ·simp only [dC.j0]
    rw [if_neg (by simp), Nb c.f1 ax]
    rfl
 ·rw [if_neg (fun h => hax h.1)]
  refine Ev.congr (f := fun k => dC.j0 k ax true c.f0 c.f1.f0 c.f1.f1 c.f1.f2 c.f1.f3 c.f2 c.f3) (fun k => ?_) no
  unfold dC.f lW.f
  rw [if_neg (fun h => hax (.inl h)), show (ax == 2) = false from by simp; exact fun h => hax (.inr h)]
  simp only [Option.bind_some, Bool.false_eq_true, if_false]
theorem Bi {l : List ai} {k : ai} (h : k ∈ l) : sz k ≤ dU l := by
 obtain ⟨p, q, e⟩ := List.append_of_mem h
 rw [e, pg, df]; omega
noncomputable def oz (b : Int) (gs : List Int) : List Int × Bool := by
 classical
 exact if h : ∃ r, Ev (fun k => bJ.f k b gs) r then Classical.choose h else ([], false)
theorem zH (b : Int) (gs : List Int) (hl : gs.length ≤ 100000) (h0 : -2147483647 ≤ b) (h1 : b ≤ 2147483647) : DT b gs (oz b gs) ∧ Ev (fun k => bJ.f k b gs) (oz b gs) := by
 obtain ⟨r, hs, he⟩ := Xd b gs hl h0 h1
 have hx : ∃ r, Ev (fun k => bJ.f k b gs) r := ⟨r, he⟩
 have e : oz b gs = r := by
  unfold oz
  rw [dif_pos hx]
  exact Ev.unique (Classical.choose_spec hx) he
 rw [e]
 exact ⟨hs, he⟩
theorem Si {b : Int} {gs : List Int} (hl : gs.length ≤ 100000) (h0 : -2147483647 ≤ b) (h1 : b ≤ 2147483647) (h : (oz b gs).2 = true) : (oz b gs).1.length = gs.length := by
 rcases (zH b gs hl h0 h1).1 with ⟨e, _⟩ | ⟨e, _⟩ | ⟨qs, e, _, _, hq, _⟩
 ·rw [e] at h; cases h
 ·rw [e]; exact uU _ _
 ·rw [e, ← hq]; simp
theorem Xe {b : Int} {gs : List Int} (hl : gs.length ≤ 100000) (h0 : -2147483647 ≤ b) (h1 : b ≤ 2147483647) : ∀ x, x ∈ (oz b gs).1 → -2147483647 ≤ x ∧ x ≤ 2147483647 := by
 intro x hx
 rcases (zH b gs hl h0 h1).1 with ⟨e, _⟩ | ⟨e, hne, _, hb⟩ | ⟨qs, e, _, _, hq, hg, _⟩
 ·rw [e] at hx; cases hx
 ·rw [e] at hx
  simp only [moreL, List.mem_map, List.mem_range] at hx
  obtain ⟨i, hi, rfl⟩ := hx
  have hn : (0 : Int) < (gs.length : Int) := by have := List.length_pos_iff.2 hne; omega
  unfold lq
  have hd : 0 ≤ b / (gs.length : Int) := Int.ediv_nonneg hb (by omega)
  have hm : 0 ≤ b % (gs.length : Int) := Int.emod_nonneg _ (by omega)
  have hdm := Int.mul_ediv_add_emod b (gs.length : Int)
  have hle : b / (gs.length : Int) ≤ (gs.length : Int) * (b / (gs.length : Int)) := by
   have := Int.mul_le_mul_of_nonneg_right (show (1 : Int) ≤ (gs.length : Int) by omega) hd
   omega
  split <;> omega
 ·rw [e] at hx
  simp only [List.mem_map] at hx
  obtain ⟨p, hp, rfl⟩ := hx
  have := hg p hp
  omega
def grow (ax aC : Int) (r : dO) : dO := ⟨r.f0, r.f1, if ax = 1 then wrap64 (r.f2 + aC) else r.f2, if ax = 1 then r.f3 else wrap64 (r.f3 + aC)⟩
noncomputable def Hl (ax k : Int) (l : List ai) (aC : Int) (i : Nat) : Int := if (oz aC (l.map (aH ax))).2 = true ∧ fK ax k = true then rd (oz aC (l.map (aH ax))).1 (i : Int) else aC
mutual
noncomputable def dQ (ax : Int) : ai → Int → ai
 | ⟨k, r, id, l⟩, b => ⟨k, grow ax b r, id, jW ax l (Hl ax k l b) 0⟩
noncomputable def jW (ax : Int) : List ai → (Nat → Int) → Nat → List ai
 | [], _, _ => []
 | k :: ks, ns, i => dQ ax k (ns i) :: jW ax ks ns (i + 1)
end
theorem yI (ax : Int) (c : ai) (b : Int) : dQ ax c b = ⟨c.f0, grow ax b c.f1, c.f2, jW ax c.f3 (Hl ax c.f0 c.f3 b) 0⟩ := by cases c; simp [dQ]
theorem qJ (ax : Int) (ns : Nat → Int) (i : Nat) : jW ax [] ns i = [] := by simp [jW]
theorem xH (ax : Int) (k : ai) (ks : List ai) (ns : Nat → Int) (i : Nat) : jW ax (k :: ks) ns i = dQ ax k (ns i) :: jW ax ks ns (i + 1) := by simp [jW]
theorem yK (ax : Int) : ∀ (l : List ai) (ns : Nat → Int) (i : Nat), (jW ax l ns i).length = l.length := by
 intro l
 induction l with
 | nil => intro ns i; rw [qJ]
 | cons k ks ih => intro ns i; rw [xH, List.length_cons, List.length_cons, ih]
theorem Mc (ax : Int) (k : ai) : ∀ (l : List ai) (ns : Nat → Int) (i : Nat), jW ax (l ++ [k]) ns i = jW ax l ns i ++ [dQ ax k (ns (i + l.length))] := by
 intro l
 induction l with
 | nil => intro ns i; simp [jW]
 | cons x xs ih => intro ns i; rw [List.cons_append, xH, xH, ih, List.cons_append, List.length_cons, show i + 1 + xs.length = i + (xs.length + 1) by omega]
theorem aau (ax : Int) (ns : Nat → Int) (pre : List ai) (k : ai) (rest : List ai) : (jW ax pre ns 0 ++ k :: rest).set pre.length (dQ ax k (ns pre.length)) = jW ax (pre ++ [k]) ns 0 ++ rest := by
 rw [Mc, List.append_assoc, List.set_append_right _ _ (by rw [yK]; exact Nat.le_refl _), yK, Nat.sub_self, List.set_cons_zero, Nat.zero_add]
 rfl
theorem ad3 (ax : Int) (ns : Nat → Int) (pre : List ai) (k : ai) (rest : List ai) : aA (jW ax pre ns 0 ++ k :: rest) (pre.length : Int) = k := by
 have := kE (jW ax pre ns 0) k rest
 rw [yK] at this
 exact this
theorem UY (ax : Int) : ∀ (N : Nat), (∀ c : ai, sz c ≤ N → ∀ b, sz (dQ ax c b) = sz c) ∧ (∀ l : List ai, dU l ≤ N → ∀ ns i, dU (jW ax l ns i) = dU l) := by
 intro N
 induction N with
 | zero => exact ⟨fun c h => by rw [bV] at h; omega, fun l h ns i => by cases l with
  | nil => rw [qJ]
  | cons x xs => rw [df] at h; have := bV x; omega⟩
 | succ N ih =>
  have hC : ∀ c : ai, sz c ≤ N + 1 → ∀ b, sz (dQ ax c b) = sz c := fun c h b => by
   rw [yI, bV, bV c]
   show 1 + dU (jW ax c.f3 _ 0) = _
   rw [ih.2 c.f3 (by rw [bV] at h; omega)]
  refine ⟨hC, fun l => ?_⟩
  induction l with
  | nil => intro _ ns i; rw [qJ]
  | cons x xs ihl =>
   intro h ns i
   rw [xH, df, df]
   rw [df] at h
   rw [hC x (by omega), ihl (by omega)]
def ry.f (l0 : List (ai)) : Option (List ai) := if l0.length ≤ 1000000 then some l0 else none
theorem ry.calls (UR : Nat → Prop) (A0 : Option Addr) (c0 : Nat) (l0 : List (ai)) (r : List ai) (w : World) (hs0 : Kd.V k26 26 w w.heap.size (fun k_ => UR k_) (.slice A0 l0.length c0) l0) (h : ry.f l0 = some r) :
  Calls Try.prog 137 #[.slice A0 l0.length c0] w fun e w' => ∃ vk : Value, e = .returned (vk) ∧ Kd.N k26 26 w' w.heap.size (fun k_ => (UR k_ ∨ w.heap.size ≤ k_)) vk r ∧ Below w.heap.size w w' := by
 unfold ry.f at h
 split at h
 ·rename_i hl
  injection h with h
  subst h
  have HR := ae.mk (Kd.QQ hs0)
  have HL := ae.mk hl
  clear hl
  cases A0 with
  | none =>
   have heq : ∀ W : World, (binOp .eql 24 (.slice none l0.length c0) (.slice none 0 0)).run Try.prog W = .ok (.bool true) W := fun W => Lib.run_eql_slice_nil W 24 26 none l0.length c0 0 0 Try.underlying24
   have e0 : l0 = [] := by
    cases l0 with
    | nil => rfl
    | cons x xs =>
     obtain ⟨ad, h1, _⟩ := (Kd.I7 HR.out).2.2 (by simp)
     cases h1
   have E0 := ae.mk e0
   clear hs0 e0
   go_enter Try.func137, Try.ntmps137
   go_wp2
   go_ret
   exact ⟨_, rfl, by rw [E0.out]; exact Kd.oO _ _ _ _ _, Below.refl _ _⟩
  | some ad =>
   have heq : ∀ W : World, (binOp .eql 24 (.slice (some ad) l0.length c0) (.slice none 0 0)).run Try.prog W = .ok (.bool false) W := fun W => Lib.run_eql_slice_nil W 24 26 (some ad) l0.length c0 0 0 Try.underlying24
   clear hs0
   go_enter Try.func137, Try.ntmps137
   go_wp2_with (first | ((with_reducible refine aG (N := 5) rfl ?_); refine Kd.yV k26 w.heap.size 26 ?hg (N' := 5) ?hd (xs := ([] : List ai)) (inner := []) (ok := fun k_ => (UR k_ ∨ w.heap.size ≤ k_)) (gU := fun _ => False) ?hr ?hp (fun _ hk => hk.elim) (.inr (Nat.le_refl _)) (Below.refl _ _) (Nat.le_refl _) (by simp) ?_; (case hd => rfl); (case hg => rfl); (case hr => first | (go_simp; done) | (go_simp; rfl)); (case hp => exact dm.none _ _); intro v5 w5 ho hb pJ kD; clear pJ; have HO := ae.mk ho; have HB := ae.mk hb; have HF := ae.mk (Kd.sU (Kd.NR (v := v5) HR.out (fun k hk => by obtain ⟨b, h1, h2⟩ := kD; rw [h1] at hk; cases hk; exact h2) hb) (fun k hk => hk)); clear ho hb kD; obtain ⟨Ao, co, eo⟩ := Kd.jG HO.out; subst eo) | ((with_reducible refine yj (b := .append) (xs := #[.tmp 5, .tmp 6]) rfl ?_); at_builtin; refine Kd.zZ k26 (w0 := w) w.heap.size rfl (.tmp 5) (.tmp 6) 24 26 (.agg #[(.int .u8 0), (.int .i64 0), (.int .i64 0), (.int .i64 0), (.int .i64 0), (.int .i64 0), (.slice none 0 0)]) 72 rfl Try.underlying24 info26 rfl (by decide) (by omega) (.slice Ao ([] : List ai).length co) [] l0 _ _ _ (fun k_ => (UR k_ ∨ w.heap.size ≤ k_)) (fun k_ => UR k_ ∧ some k_ ≠ (Value.slice Ao ([] : List ai).length co).ownBlock) rfl rfl ?aO ?aR (fun _ h => ⟨.inl h.1, h.2⟩) (fun k hk => .inr (Nat.le_trans (fB HB.out) hk)) ?aB ?aS ?aL ?_; (case aO => exact HO.out); (case aR => exact HF.out); (case aB => exact HB.out); (case aS => exact fB HB.out); (case aL => (have := HL.out; simp only [List.length_nil]; omega)); intro v7 w7 h1 h2 h3_ h4_; clear h3_ h4_; have HO7 := ae.mk h1; have HB7 := ae.mk h2; clear h1 h2 HO HB HF))
   go_wp2
   go_ret
   exact ⟨_, rfl, HO7.out, HB7.out⟩
 ·exact absurd h (by simp)
def xq (a : Int) (k : ai) (x : Int) : Int := if a = 2 then wrap64 (x + wrap64 (k.f1.f2 + 1)) else x
def xu (a : Int) (k : ai) (y : Int) : Int := if a = 2 then y else if a = 3 then wrap64 (y + wrap64 (k.f1.f3 + 1)) else y
mutual
def bD : ai → Int → Int → ai
 | ⟨a, b, d, l⟩, x, y => ⟨a, ⟨x, y, b.f2, b.f3⟩, d, jZ a l x y⟩
def jZ : Int → List ai → Int → Int → List ai
 | _, [], _, _ => []
 | a, k :: ks, x, y => bD k x y :: jZ a ks (xq a k x) (xu a k y)
end
theorem l9 (c : ai) (x y : Int) : bD c x y = ⟨c.f0, ⟨x, y, c.f1.f2, c.f1.f3⟩, c.f2, jZ c.f0 c.f3 x y⟩ := by cases c; simp [bD]
theorem mZ (a x y : Int) : jZ a [] x y = [] := by simp [jZ]
theorem o8 (a : Int) (k : ai) (ks : List ai) (x y : Int) : jZ a (k :: ks) x y = bD k x y :: jZ a ks (xq a k x) (xu a k y) := by simp [jZ]
def oW (a : Int) (l : List ai) (x : Int) : Int := l.foldl (fun x k => xq a k x) x
def oZ (a : Int) (l : List ai) (y : Int) : Int := l.foldl (fun y k => xu a k y) y
theorem CY (a : Int) (k : ai) : ∀ (l : List ai) (x y : Int), jZ a (l ++ [k]) x y = jZ a l x y ++ [bD k (oW a l x) (oZ a l y)] := by
 intro l
 induction l with
 | nil => intro x y; rw [List.nil_append, o8, mZ, mZ]; rfl
 | cons z zs ih => intro x y; rw [List.cons_append, o8, o8, ih]; rfl
theorem vI (a : Int) (k : ai) (l : List ai) (x : Int) : oW a (l ++ [k]) x = xq a k (oW a l x) := by simp [oW]
theorem vJ (a : Int) (k : ai) (l : List ai) (y : Int) : oZ a (l ++ [k]) y = xu a k (oZ a l y) := by simp [oZ]
theorem lZ (a : Int) : ∀ (l : List ai) (x y : Int), (jZ a l x y).length = l.length := by
 intro l
 induction l with
 | nil => intro x y; rw [mZ]
 | cons z zs ih => intro x y; rw [o8]; simp [ih]
theorem acB (a : Int) (pre : List ai) (k : ai) (rest : List ai) (x y : Int) : (jZ a pre x y ++ k :: rest).set pre.length (bD k (oW a pre x) (oZ a pre y)) = jZ a (pre ++ [k]) x y ++ rest := by
 rw [CY, ← lZ a pre x y, List.set_append_right _ _ (Nat.le_refl _), Nat.sub_self, List.set_cons_zero]
 simp
theorem Xb (a : Int) (pre : List ai) (k : ai) (rest : List ai) (x y : Int) : aA (jZ a pre x y ++ k :: rest) (pre.length : Int) = k := by
 rw [← lZ a pre x y]
 simp [aA, List.getD_eq_getElem?_getD]
def oP.T6 : Bool × List (List Nat × List Nat) := (true, [([], []), ([0], [0]), ([], []), ([], []), ([], []), ([], []), ([3, 4, 5], [3, 4, 5]), ([1, 2, 0, 1, 2, 3, 4, 5, 6], [1, 2]), ([7, 6, 6, 0, 1, 2, 3, 4, 5, 6], [6, 7])])
def oP.B6 : List Nat := [0, 1, 0, 0, 0, 0, 56, 127, 255]
theorem oP.tab6 : iM .any (opsOf Try.f66 6) = oP.T6 := by kernel_rfl
theorem oP.CG : gZ oP.T6.2 oP.B6 = true := by kernel_rfl
theorem aho : ∀ (N : Nat) (c : ai), sz c ≤ N → N ≤ 1000000 → ∀ (P : Nat → Prop) (A : Option Addr) (cc : Nat) (x y : Int) (w : World), Kd.V k26 26 w w.heap.size P (.slice A c.f3.length cc) c.f3 →
  Calls Try.prog 66 #[.agg #[.int .u8 c.f0, .int .i64 c.f1.f0, .int .i64 c.f1.f1, .int .i64 c.f1.f2, .int .i64 c.f1.f3, .int .i64 c.f2, .slice A c.f3.length cc], .int .i64 x, .int .i64 y] w
   fun e w' => ∃ v : Value, e = .returned (.agg #[.int .u8 c.f0, .int .i64 x, .int .i64 y, .int .i64 c.f1.f2, .int .i64 c.f1.f3, .int .i64 c.f2, v]) ∧ Kd.N k26 26 w' w.heap.size (fun k => P k ∨ w.heap.size ≤ k) v (jZ c.f0 c.f3 x y) ∧ Below w.heap.size w w' := by
 intro N
 induction N with
 | zero => intro c h; rw [bV] at h; omega
 | succ N ih =>
  intro c hc hN P A cc x y w hs
  have hsz := bV c
  have hlen := ig c.f3
  have IH := ae.mk fun (k : ai) (hk : k ∈ c.f3) => ih k (by
   have : sz k ≤ dU c.f3 := by
    obtain ⟨p, q, e⟩ := List.append_of_mem hk
    rw [e, pg, df]; omega
   omega) (by omega)
  have NT := ae.mk fun (W : World) (P' : Nat → Prop) (hV : Kd.V k26 26 W w.heap.size P' (.slice A c.f3.length cc) c.f3) => ry.calls P' A cc c.f3 c.f3 W hV (if_pos (by omega))
  have HO := ae.mk hs
  have HL := ae.mk (show c.f3.length ≤ 1000000 by omega)
  have HB := ae.mk (Below.refl w.heap.size w)
  clear ih hs hc hN hsz hlen
  obtain ⟨ck, ⟨cx, cy, cw, ch⟩, ay, l⟩ := c
  simp only [] at HO HL IH NT ⊢
  go_enter Try.func66, Try.ntmps66
  go_upto_region 2 with (first | ((with_reducible refine aG (N := 3) rfl ?_); refine aU ?hg (N := 3) ?hd (cs := #[.int .u8 ck, .int .i64 cx, .int .i64 cy, .int .i64 cw, .int .i64 ch, .int .i64 ay, .slice A l.length cc]) (t := 26) ?hr ?_; (case hd => rfl); (case hg => rfl); (case hr => (go_simp; done)); intro b3 hg Xn hbox hb; have Uw := ae.mk (show w.heap.size ≤ b3 by rw [hg]; exact HB.out.size); have mV := ae.mk (au HB.out hb); have uV := ae.mk (Kd.jT (Kd.pG HO.out b3 (by rw [hg]; exact Nat.le_refl _)) hb); clear HB HO; have HB := mV; have HO := uV; clear mV uV; have dF := ae.mk hbox; clear hb hbox hg) | ((with_reducible refine aG (N := 6) rfl ?_); refine aU ?hg (N := 6) ?hd (cs := #[.int .u8 0, .int .i64 0, .int .i64 0, .int .i64 0, .int .i64 0, .int .i64 0, .slice none 0 0]) (t := 26) ?hr ?_; (case hd => rfl); (case hg => rfl); (case hr => (go_simp; done)); intro b6 hg wb6 hbox hb; have Gb6 := ae.mk (show w.heap.size ≤ b6 by rw [hg]; exact HB.out.size); have xk := ae.mk (show b3 ≠ b6 by rw [hg]; exact Nat.ne_of_lt (gJ dF.out)); have mV := ae.mk (au HB.out hb); have uV := ae.mk (Kd.jT (Kd.pG HO.out b6 (by rw [hg]; exact Nat.le_refl _)) hb); have jv := ae.mk (aQ dF.out hb); clear HB HO dF; have HB := mV; have HO := uV; have dF := jv; clear mV uV jv; have iF := ae.mk hbox; clear hb hbox hg) | ((with_reducible refine mG (.store 3 (.tmp 12) (.tmp 9)) rfl ?_); go_loud (refine iO (w0 := w) rfl rfl 3 (.tmp 12) (.tmp 9) rfl (g := b3) (j := 1) (base := w.heap.size) #[.int .u8 ck, .int .i64 x, .int .i64 cy, .int .i64 cw, .int .i64 ch, .int .i64 ay, .slice A l.length cc] (u := .int .i64 x) (bK := [.int .i64 x]) ?sA ?sX rfl ?sT ?s1 dF.out ?sJ rfl HB.out HB.out.size Uw.out ?_; (case sA => rfl); (case sX => rfl); (case sT => rfl); (case s1 => (simp [Value.oneCell'])); (case sJ => (simp)); intro ws1 hbk hbb hgg; have uV := ae.mk (Kd.xG HO.out hgg (fun k_ hk e_ => absurd (Option.some.inj e_) hk.1.2)); have jw := ae.mk (dG iF.out hgg (fun e_ => absurd (Option.some.inj e_) (by exact (fun O9 => xk.out O9.symm)))); clear HO iF; have HO := uV; have iF := jw; clear uV jw; clear dF HB; have dF := ae.mk hbk; have HB := ae.mk hbb; clear hbk hbb hgg)) | ((with_reducible refine mG (.store 3 (.tmp 14) (.tmp 10)) rfl ?_); go_loud (refine iO (w0 := w) rfl rfl 3 (.tmp 14) (.tmp 10) rfl (g := b3) (j := 2) (base := w.heap.size) #[.int .u8 ck, .int .i64 x, .int .i64 y, .int .i64 cw, .int .i64 ch, .int .i64 ay, .slice A l.length cc] (u := .int .i64 y) (bK := [.int .i64 y]) ?sA ?sX rfl ?sT ?s1 dF.out ?sJ rfl HB.out HB.out.size Uw.out ?_; (case sA => rfl); (case sX => rfl); (case sT => rfl); (case s1 => (simp [Value.oneCell'])); (case sJ => (simp)); intro ws2 hbk hbb hgg; have uV := ae.mk (Kd.xG HO.out hgg (fun k_ hk e_ => absurd (Option.some.inj e_) hk.1.2)); have jw := ae.mk (dG iF.out hgg (fun e_ => absurd (Option.some.inj e_) (by exact (fun O9 => xk.out O9.symm)))); clear HO iF; have HO := uV; have iF := jw; clear uV jw; clear dF HB; have dF := ae.mk hbk; have HB := ae.mk hbb; clear hbk hbb hgg)))
  have Jk : _ = some (Value.slice A l.length cc) := (af dF.out 6).trans rfl
  go_upto_region 3 with (first | ((with_reducible refine mD (f := 137) rfl ?_); refine oN (some 17) rfl rfl Try.func137 (by kernel_rfl) rfl #[.slice A l.length cc] rfl (by (try simp only [List.map_toArray, List.map_cons, List.map_nil]); rfl) ?_; refine (NT.out _ _ HO.out).mono ?_; rintro e wc1 ⟨v1, rfl, ho, hb⟩; refine ⟨_, rfl, ?_⟩; have HN := ae.mk (Ol ho (gJ dF.out) (gJ iF.out) HB.out.size); clear ho HO; obtain ⟨A1, c1, e1⟩ := Kd.jG HN.out; subst e1; have mV := ae.mk (au HB.out hb); have jv := ae.mk (aQ dF.out hb); have jw := ae.mk (aQ iF.out hb); clear HB dF iF; have HB := mV; have dF := jv; have iF := jw; clear mV jv jw; clear hb) | ((with_reducible refine mG (.store 24 (.tmp 18) (.tmp 17)) rfl ?_); go_loud (refine iO (w0 := w) rfl rfl 24 (.tmp 18) (.tmp 17) rfl (g := b3) (j := 6) (base := w.heap.size) #[.int .u8 ck, .int .i64 x, .int .i64 y, .int .i64 cw, .int .i64 ch, .int .i64 ay, .slice A1 l.length c1] (u := .slice A1 l.length c1) (bK := [.slice A1 l.length c1]) ?sA ?sX rfl ?sT ?s1 dF.out ?sJ rfl HB.out HB.out.size Uw.out ?_; (case sA => rfl); (case sX => rfl); (case sT => rfl); (case s1 => (simp [Value.oneCell'])); (case sJ => (simp)); intro ws3 hbk hbb hgg; have jw := ae.mk (dG iF.out hgg (fun e_ => absurd (Option.some.inj e_) (by exact (fun O9 => xk.out O9.symm)))); have mW := ae.mk (Kd.xC HN.out hgg (fun k_ hk e_ => absurd (Option.some.inj e_) hk.1.2)); clear iF HN; have iF := jw; have HN := mW; clear jw mW; clear dF HB; have dF := ae.mk hbk; have HB := ae.mk hbb; clear hbk hbb hgg)))
  clear Jk
  have Jk : _ = some (Value.slice A1 l.length c1) := (af dF.out 6).trans rfl
  go_wp2
  clear Jk
  go_loopg [1, 2, 22] l.length (fun gg v1 v2 v22 wr => ∃ (pre rest : List ai), v1 = .int .i64 (oW ck pre x) ∧ v2 = .int .i64 (oZ ck pre y) ∧ v22 = .int .i64 (pre.length : Int) ∧ ae (pre ++ rest = l) ∧ rest.length ≤ gg ∧ ae (Kd.N k26 26 wr w.heap.size (fun q => ((P q ∨ w.heap.size ≤ q) ∧ q ≠ b3) ∧ q ≠ b6) (.slice A1 l.length c1) (jZ ck pre x y ++ rest)) ∧ ae (wr.heap[b3]? = some (.cells #[.int .u8 ck, .int .i64 x, .int .i64 y, .int .i64 cw, .int .i64 ch, .int .i64 ay, .slice A1 l.length c1] 26 (0, 0))) ∧ ae (wr.heap[b6]? = some (.cells #[.int .u8 0, .int .i64 0, .int .i64 0, .int .i64 0, .int .i64 0, .int .i64 0, .slice none 0 0] 26 (0, 0))) ∧ ae (Below w.heap.size w wr))
  case atStart => exact ⟨[], l, rfl, rfl, rfl, ⟨rfl⟩, Nat.le_refl _, ⟨by rw [mZ]; exact HN.out⟩, dF, iF, HB⟩
  case round =>
   clear HN dF iF HB
   obtain ⟨pre, rest, rfl, rfl, rfl, HE, hgg, HN, dF, iF, HB⟩ := hrel
   cases rest with
   | nil =>
    have hpl : pre = l := by have := HE.out; rwa [List.append_nil] at this
    have hlt : ¬ ((pre.length : Int) < (l.length : Int)) := by rw [hpl]; omega
    have HP := ae.mk hpl
    clear hpl hgg
    have c30 := (af dF.out 0).trans rfl
    have c31 := (af dF.out 1).trans rfl
    have c32 := (af dF.out 2).trans rfl
    have c33 := (af dF.out 3).trans rfl
    have c34 := (af dF.out 4).trans rfl
    have c35 := (af dF.out 5).trans rfl
    have Jk := (af dF.out 6).trans rfl
    go_wp2_with (((with_reducible refine mG (.store 26 (.tmp 6) (.tmp 54)) rfl ?_); go_loud (refine iO (w0 := w) rfl rfl 26 (.tmp 6) (.tmp 54) rfl (g := b6) (j := 0) (base := w.heap.size) #[.int .u8 ck, .int .i64 x, .int .i64 y, .int .i64 cw, .int .i64 ch, .int .i64 ay, .slice A1 l.length c1] (u := .agg #[.int .u8 ck, .int .i64 x, .int .i64 y, .int .i64 cw, .int .i64 ch, .int .i64 ay, .slice A1 l.length c1]) (bK := [.int .u8 ck, .int .i64 x, .int .i64 y, .int .i64 cw, .int .i64 ch, .int .i64 ay, .slice A1 l.length c1]) ?sA ?sX rfl ?sT ?s1 iF.out ?sJ rfl HB.out HB.out.size Gb6.out ?_; (case sA => rfl); (case sX => rfl); (case sT => rfl); (case s1 => (simp [Value.oneCell'])); (case sJ => (simp)); intro ai' hbk hbb hgg; have mW := ae.mk (Kd.xC HN.out hgg (fun k_ hk e_ => absurd (Option.some.inj e_) hk.2)); have jv := ae.mk (dG dF.out hgg (fun e_ => absurd (Option.some.inj e_) xk.out)); clear HN dF; have HN := mW; have dF := jv; clear mW jv; clear iF HB; have iF := ae.mk hbk; have HB := ae.mk hbb; clear hbk hbb hgg)))
    refine bodyPost_ret (results_cell_row rfl _ _ b6 26 _ (0, 0) _ rfl iF.out Try.underlying26 rfl (by kernel_rfl)) rfl ?_
    refine ⟨_, rfl, ?_, HB.out⟩
    rw [← HP.out]
    have hf := HN.out
    rw [List.append_nil] at hf
    rw [HP.out] at hf ⊢
    exact Kd.jq hf (fun q hq => hq.1.1)
   | cons k rest =>
    have hk : k ∈ l := by rw [← HE.out]; simp
    have hlt : (pre.length : Int) < (l.length : Int) := by rw [← HE.out, List.length_append, List.length_cons]; omega
    have hw : wrap64 ((pre.length : Int) + 1) = ((pre ++ [k]).length : Int) := by rw [List.length_append, List.length_singleton]; unfold wrap64; have := HL.out; omega
    obtain ⟨g, cap, he, hgb, Yn, _⟩ := Kd.wE HN.out (by rw [List.length_append, List.length_cons]; omega)
    injection he with ea en ec
    subst ea
    subst ec
    clear en
    have qW := ae.mk hgb
    obtain ⟨ce, hcl, hM, hcc, hfr⟩ := Kd.zu HN.out z26 (pre.length : Int) (Int.natCast_nonneg _) hlt
    have hrd : (jZ ck pre x y ++ k :: rest).getD (pre.length : Int).toNat z26 = k := Xb ck pre k rest x y
    rw [hrd] at hM
    obtain ⟨ua, uc, rfl, ul, ge⟩ := o5 hM
    have HV := ae.mk (show Kd.V k26 26 wr w.heap.size _ (.slice ua k.f3.length uc) k.f3 from Kd.x_ ul ge)
    have x0 : wr.cell? ⟨g, pre.length * 7, none⟩ = some (.int .u8 k.f0) := hcc 0 _ rfl
    have x1 : wr.cell? ⟨g, pre.length * 7 + 1, none⟩ = some (.int .i64 k.f1.f0) := hcc 1 _ rfl
    have x2 : wr.cell? ⟨g, pre.length * 7 + 2, none⟩ = some (.int .i64 k.f1.f1) := hcc 2 _ rfl
    have x3 : wr.cell? ⟨g, pre.length * 7 + 3, none⟩ = some (.int .i64 k.f1.f2) := hcc 3 _ rfl
    have x4 : wr.cell? ⟨g, pre.length * 7 + 4, none⟩ = some (.int .i64 k.f1.f3) := hcc 4 _ rfl
    have x5 : wr.cell? ⟨g, pre.length * 7 + 5, none⟩ = some (.int .i64 k.f2) := hcc 5 _ rfl
    have x6 : wr.cell? ⟨g, pre.length * 7 + 6, none⟩ = some (.slice ua k.f3.length uc) := hcc 6 _ rfl
    have HW1 := ae.mk hw
    have HK := ae.mk hk
    have fM := ae.mk hgg
    clear hcl hM hcc hfr hrd ul ge hgb Yn hw hk hgg
    go_upto_region 6 with (first | ((with_reducible refine aG (N := 8) rfl ?_); refine aU ?hg (N := 8) ?hd (cs := #[.int .u8 0, .int .i64 0, .int .i64 0, .int .i64 0, .int .i64 0, .int .i64 0, .slice none 0 0]) (t := 26) ?hr ?_; (case hd => rfl); (case hg => rfl); (case hr => (go_simp; done)); intro b8 hg wb8 hbox hb; have Gb8 := ae.mk (show w.heap.size ≤ b8 by rw [hg]; exact HB.out.size); have Ib := ae.mk (show b3 ≠ b8 by rw [hg]; exact Nat.ne_of_lt (gJ dF.out)); have Ic := ae.mk (show b6 ≠ b8 by rw [hg]; exact Nat.ne_of_lt (gJ iF.out)); have mV := ae.mk (au HB.out hb); have mW := ae.mk (Kd.qY (Kd.DR HN.out b8 (by rw [hg]; exact Nat.le_refl _)) hb); have uX := ae.mk (Kd.jT (Kd.pG HV.out b8 (by rw [hg]; exact Nat.le_refl _)) hb); have jv := ae.mk (aQ dF.out hb); have jw := ae.mk (aQ iF.out hb); clear HB HN HV dF iF; have HB := mV; have HN := mW; have HV := uX; have dF := jv; have iF := jw; clear mV mW uX jv jw; have Kb8 := ae.mk hbox; clear hb hbox hg) | ((with_reducible refine mG (.store 26 (.tmp 8) (.tmp 26)) rfl ?_); go_loud (refine iO (w0 := w) rfl rfl 26 (.tmp 8) (.tmp 26) rfl (g := b8) (j := 0) (base := w.heap.size) #[.int .u8 k.f0, .int .i64 k.f1.f0, .int .i64 k.f1.f1, .int .i64 k.f1.f2, .int .i64 k.f1.f3, .int .i64 k.f2, .slice ua k.f3.length uc] (u := .agg #[.int .u8 k.f0, .int .i64 k.f1.f0, .int .i64 k.f1.f1, .int .i64 k.f1.f2, .int .i64 k.f1.f3, .int .i64 k.f2, .slice ua k.f3.length uc]) (bK := [.int .u8 k.f0, .int .i64 k.f1.f0, .int .i64 k.f1.f1, .int .i64 k.f1.f2, .int .i64 k.f1.f3, .int .i64 k.f2, .slice ua k.f3.length uc]) ?sA ?sX rfl ?sT ?s1 Kb8.out ?sJ rfl HB.out HB.out.size Gb8.out ?_; (case sA => rfl); (case sX => rfl); (case sT => rfl); (case s1 => (simp [Value.oneCell'])); (case sJ => (simp)); intro Y9 hbk hbb hgg; have mW := ae.mk (Kd.xC HN.out hgg (fun k_ hk e_ => absurd (Option.some.inj e_) hk.2)); have uX := ae.mk (Kd.xG HV.out hgg (fun k_ hk e_ => absurd (Option.some.inj e_) hk.2)); have jv := ae.mk (dG dF.out hgg (fun e_ => absurd (Option.some.inj e_) Ib.out)); have jw := ae.mk (dG iF.out hgg (fun e_ => absurd (Option.some.inj e_) Ic.out)); clear HN HV dF iF; have HN := mW; have HV := uX; have dF := jv; have iF := jw; clear mW uX jv jw; clear Kb8 HB; have Kb8 := ae.mk hbk; have HB := ae.mk hbb; clear hbk hbb hgg)))
    clear x0 x1 x2 x3 x4 x5 x6
    have q_ := ae.mk (wG HB.out)
    clear HB
    have HB := q_
    clear q_
    have q_ := ae.mk (Kd.UN HN.out)
    clear HN
    have HN := q_
    clear q_
    have q_ := ae.mk (Kd.Oq HV.out)
    clear HV
    have HV := q_
    clear q_
    have q_ := ae.mk (xm dF.out)
    clear dF
    have dF := q_
    clear q_
    have q_ := ae.mk (xm iF.out)
    clear iF
    have iF := q_
    clear q_
    have q_ := ae.mk (xm Kb8.out)
    clear Kb8
    have Kb8 := q_
    clear q_
    refine gX (n := 9) (S := fun w' => w'.heap[b3]? = some (.cells #[.int .u8 ck, .int .i64 x, .int .i64 y, .int .i64 cw, .int .i64 ch, .int .i64 ay, .slice (some ⟨g, 0, none⟩) l.length c1] 26 (0, 0)) ∧ w'.heap[b8]? = some (.cells #[.int .u8 k.f0, .int .i64 k.f1.f0, .int .i64 k.f1.f1, .int .i64 k.f1.f2, .int .i64 k.f1.f3, .int .i64 k.f2, .slice ua k.f3.length uc] 26 (0, 0))) (ds := [8]) #[false, false, false, false, false, false, false, false, false] (by kernel_rfl) rfl rfl ⟨dF.out, Kb8.out⟩ (fun hHeld => ?_); refine dZ oP.tab6 oP.CG (fun aj dE => ?_)
    generalize Y9.drew = wd at HB HN HV dF iF Kb8 hHeld ⊢
    refine uq (i := 0) (N := some 27) (v := ?_) (a' := ?_) #[true, false, false, false, false, false, false, false, false] rfl rfl (qm aj.out (by kernel_rfl)) (fun _ _ _ h => h) (Or.inl ⟨by rfl, ?_⟩) ?_ ?_
    rotate_left
    ·intro w'; go_simp; with_reducible rfl
    rotate_left
    ·simp only [Act.put, List.setIfInBounds_toArray, List.set_cons_zero, List.set_cons_succ, lH, lG]
     rfl
    refine uq (i := 2) (N := some 29) (v := ?_) (a' := ?_) #[true, false, true, false, false, false, false, false, false] rfl rfl (qm aj.out (by kernel_rfl)) (fun _ _ _ h => h) (Or.inl ⟨by rfl, ?_⟩) ?_ ?_
    rotate_left
    ·intro w'; go_simp; with_reducible rfl
    rotate_left
    ·simp only [Act.put, List.setIfInBounds_toArray, List.set_cons_zero, List.set_cons_succ, lH, lG]
     rfl
    refine uq (i := 4) (N := some 31) (v := ?_) (a' := ?_) #[true, false, true, false, true, false, false, false, false] rfl rfl (qm aj.out (by kernel_rfl)) (fun _ _ _ h => h) (Or.inl ⟨by rfl, ?_⟩) ?_ ?_
    rotate_left
    ·intro w'; go_simp; with_reducible rfl
    rotate_left
    ·simp only [Act.put, List.setIfInBounds_toArray, List.set_cons_zero, List.set_cons_succ, lH, lG]
     rfl
    refine uq (i := 5) (N := some 32) (v := ?_) (a' := ?_) #[true, false, true, false, true, true, false, false, false] rfl rfl (qm aj.out (by kernel_rfl)) (fun _ _ _ h => h) (Or.inl ⟨by rfl, ?_⟩) ?_ ?_
    rotate_left
    ·intro w'; go_simp; with_reducible rfl
    rotate_left
    ·simp only [Act.put, List.setIfInBounds_toArray, List.set_cons_zero, List.set_cons_succ, lH, lG]
     rfl
    refine Bf (i := 1) (N := some 28) (v := ?_) (a' := ?_) #[true, true, true, false, true, true, false, false, false] rfl rfl (xx aj.out dE.out (by kernel_rfl)) (fun _ _ _ h => h) (Or.inl ⟨by rfl, ?_⟩) hHeld ?_ ?_
    rotate_left
    ·intro w' hs_
     have c := (af hs_.1 6).trans rfl
     go_simp; with_reducible rfl
    rotate_left
    ·simp only [Act.put, List.setIfInBounds_toArray, List.set_cons_zero, List.set_cons_succ, lH, lG]
     rfl
    refine Bf (i := 3) (N := some 30) (v := ?_) (a' := ?_) #[true, true, true, true, true, true, false, false, false] rfl rfl (xx aj.out dE.out (by kernel_rfl)) (fun _ _ _ h => h) (Or.inl ⟨by rfl, ?_⟩) hHeld ?_ ?_
    rotate_left
    ·intro w' hs_
     have c0 := (af hs_.2 0).trans rfl
     have c1 := (af hs_.2 1).trans rfl
     have c2 := (af hs_.2 2).trans rfl
     have c3 := (af hs_.2 3).trans rfl
     have c4 := (af hs_.2 4).trans rfl
     have c5 := (af hs_.2 5).trans rfl
     have c6 := (af hs_.2 6).trans rfl
     go_simp; with_reducible rfl
    rotate_left
    ·simp only [Act.put, List.setIfInBounds_toArray, List.set_cons_zero, List.set_cons_succ, lH, lG]
     rfl
    refine P7 (i := 6) (N := some 33) #[true, true, true, true, true, true, true, false, false] rfl rfl (zB aj.out (by kernel_rfl)) (by decide) (fun K hK => ?_)
    refine ja Try.func66 (by kernel_rfl) rfl #[.agg #[.int .u8 k.f0, .int .i64 k.f1.f0, .int .i64 k.f1.f1, .int .i64 k.f1.f2, .int .i64 k.f1.f3, .int .i64 k.f2, .slice ua k.f3.length uc], .int .i64 (oW ck pre x), .int .i64 (oZ ck pre y)] (by rfl) rfl rfl (by (try simp only [List.map_toArray, List.map_cons, List.map_nil]); rfl) ?_
    refine (IH.out k HK.out _ ua uc (oW ck pre x) (oZ ck pre y) wd HV.out).mono ?_
    rintro e wk ⟨v, rfl, ho, hb⟩
    refine ⟨_, rfl, ?_⟩
    have HE3 := ae.mk (gJ dF.out)
    have HE6 := ae.mk (gJ iF.out)
    have HE8 := ae.mk (gJ Kb8.out)
    have HEG := ae.mk (Kd.EP HN.out g rfl)
    have HS := ae.mk HB.out.size
    have mV := ae.mk (au HB.out hb); have mW := ae.mk (Kd.qY HN.out hb); have uX := ae.mk (Kd.jT HV.out hb); have jv := ae.mk (aQ dF.out hb); have jw := ae.mk (aQ iF.out hb); have JF := ae.mk (aQ Kb8.out hb); clear HB HN HV dF iF Kb8; have HB := mV; have HN := mW; have HV := uX; have dF := jv; have iF := jw; have Kb8 := JF; clear mV mW uX jv jw JF
    clear HV hb
    obtain ⟨Av, cv, ev⟩ := Kd.jG ho
    subst ev
    have qX := ae.mk ho
    clear ho
    refine hK.out _ _ ⟨dF.out, Kb8.out⟩ (fun hHeld => ?_)
    clear hK K
    refine mP (a' := ?_) ?_ ?_
    rotate_left
    ·show Act.put _ (some 33) _ = _
     simp only [Act.put, List.setIfInBounds_toArray, List.set_cons_zero, List.set_cons_succ, lH, lG]
     rfl
    refine uq (i := 7) (N := some 34) (v := ?_) (a' := ?_) #[true, true, true, true, true, true, true, true, false] rfl rfl (qm aj.out (by kernel_rfl)) (fun _ _ _ h => h) (Or.inl ⟨by rfl, ?_⟩) ?_ ?_
    rotate_left
    ·intro w'; go_simp; with_reducible rfl
    rotate_left
    ·simp only [Act.put, List.setIfInBounds_toArray, List.set_cons_zero, List.set_cons_succ, lH, lG]
     rfl
    obtain ⟨ce, hcl, hM, hcc, hfr⟩ := Kd.zu HN.out z26 (pre.length : Int) (Int.natCast_nonneg _) hlt
    have hrd : (jZ ck pre x y ++ k :: rest).getD (pre.length : Int).toNat z26 = k := Xb ck pre k rest x y
    rw [hrd] at hM
    obtain ⟨ub, ud, rfl, _, _⟩ := o5 hM
    have x0 : wk.cell? ⟨g, pre.length * 7, none⟩ = some (.int .u8 k.f0) := hcc 0 _ rfl
    have f0 : wk.frozen? ⟨g, pre.length * 7, none⟩ = false := hfr 0
    have x1 : wk.cell? ⟨g, pre.length * 7 + 1, none⟩ = some (.int .i64 k.f1.f0) := hcc 1 _ rfl
    have f1 : wk.frozen? ⟨g, pre.length * 7 + 1, none⟩ = false := hfr 1
    have x2 : wk.cell? ⟨g, pre.length * 7 + 2, none⟩ = some (.int .i64 k.f1.f1) := hcc 2 _ rfl
    have f2 : wk.frozen? ⟨g, pre.length * 7 + 2, none⟩ = false := hfr 2
    have x3 : wk.cell? ⟨g, pre.length * 7 + 3, none⟩ = some (.int .i64 k.f1.f2) := hcc 3 _ rfl
    have f3 : wk.frozen? ⟨g, pre.length * 7 + 3, none⟩ = false := hfr 3
    have x4 : wk.cell? ⟨g, pre.length * 7 + 4, none⟩ = some (.int .i64 k.f1.f3) := hcc 4 _ rfl
    have f4 : wk.frozen? ⟨g, pre.length * 7 + 4, none⟩ = false := hfr 4
    have x5 : wk.cell? ⟨g, pre.length * 7 + 5, none⟩ = some (.int .i64 k.f2) := hcc 5 _ rfl
    have f5 : wk.frozen? ⟨g, pre.length * 7 + 5, none⟩ = false := hfr 5
    have x6 : wk.cell? ⟨g, pre.length * 7 + 6, none⟩ = some (.slice ub k.f3.length ud) := hcc 6 _ rfl
    have f6 : wk.frozen? ⟨g, pre.length * 7 + 6, none⟩ = false := hfr 6
    have kR : ∀ q, (((fun q => ((P q ∨ w.heap.size ≤ q) ∧ q ≠ b3) ∧ q ≠ b6) q ∧ q ≠ g) ∧ q ≠ b8) ∨ wd.heap.size ≤ q → ((fun q => ((P q ∨ w.heap.size ≤ q) ∧ q ≠ b3) ∧ q ≠ b6) q ∧ q ≠ b8) ∧ q ≠ g := fun q hq => hq.elim (fun h => ⟨⟨h.1.1, h.2⟩, h.1.2⟩) (fun hn => ⟨⟨⟨⟨.inr (Nat.le_trans HS.out hn), Nat.ne_of_gt (Nat.lt_of_lt_of_le HE3.out hn)⟩, Nat.ne_of_gt (Nat.lt_of_lt_of_le HE6.out hn)⟩, Nat.ne_of_gt (Nat.lt_of_lt_of_le HE8.out hn)⟩, Nat.ne_of_gt (Nat.lt_of_lt_of_le HEG.out hn)⟩)
    have MH := o_ wk _ (bD k (oW ck pre x) (oZ ck pre y)) (A6 := Av) (c6 := cv) (by rw [l9]; exact (Kd.jF qX.out).2.1) (by rw [l9]; exact Kd.Zk qX.out)
    have hseg := Kd.SX HN.out (pre.length : Int) (Int.natCast_nonneg _) hlt (bK := [.int .u8 k.f0, .int .i64 (oW ck pre x), .int .i64 (oZ ck pre y), .int .i64 k.f1.f2, .int .i64 k.f1.f3, .int .i64 k.f2, .slice Av (jZ k.f0 k.f3 (oW ck pre x) (oZ ck pre y)).length cv]) (j := 0) hcl hcc (show 0 + 7 ≤ 7 from by decide) (x' := bD k (oW ck pre x) (oZ ck pre y)) (by rw [l9] at MH ⊢; exact MH) kR
    rw [show (jZ ck pre x y ++ k :: rest).set (pre.length : Int).toNat (bD k (oW ck pre x) (oZ ck pre y)) = jZ ck (pre ++ [k]) x y ++ rest from acB ck pre k rest x y] at hseg
    obtain ⟨w9, FO⟩ : ∃ w9, w9 = wk.setCells g ((pre.length : Int).toNat * 7 + 0) [.int .u8 k.f0, .int .i64 (oW ck pre x), .int .i64 (oZ ck pre y), .int .i64 k.f1.f2, .int .i64 k.f1.f3, .int .i64 k.f2, .slice Av (jZ k.f0 k.f3 (oW ck pre x) (oZ ck pre y)).length cv] := ⟨_, rfl⟩
    replace hseg : Kd.N k26 26 w9 w.heap.size (fun q => (fun q => ((P q ∨ w.heap.size ≤ q) ∧ q ≠ b3) ∧ q ≠ b6) q ∧ q ≠ b8) (.slice (some ⟨g, 0, none⟩) l.length c1) (jZ ck (pre ++ [k]) x y ++ rest) ∧ wk.grownBy w9 (some g) := by rw [FO]; exact hseg
    have UF := ae.mk (Kd.UO hseg.1)
    have NU := ae.mk (grown_below HB.out hseg.2 qW.out HB.out.size)
    have zY := ae.mk (dG dF.out hseg.2 (fun e_ => (HN.out.1 g rfl).1.1.2 (Option.some.inj e_).symm))
    have Oe := ae.mk (dG iF.out hseg.2 (fun e_ => (HN.out.1 g rfl).1.2 (Option.some.inj e_).symm))
    have Ia := ae.mk (dG Kb8.out hseg.2 (fun e_ => (HN.out.1 g rfl).2 (Option.some.inj e_).symm))
    clear hseg MH kR hcl hcc hfr hM hrd HN HB dF iF Kb8 hHeld qX
    refine TN (i := 8) (N := none) #[true, true, true, true, true, true, true, true, true] rfl rfl (zB aj.out (by kernel_rfl)) (by decide) (fun K hK => ?_)
    refine JK (w1 := w9) (by rfl) rfl ?_ ?_
    ·rw [FO]; go_simp; rfl
    refine hK.out _ _ ?_
    clear hK K x0 x1 x2 x3 x4 x5 x6 f0 f1 f2 f3 f4 f5 f6 FO
    refine jf (fJ aj.out (by kernel_rfl)) ?_
    have d0 := (af zY.out 0).trans rfl
    have e0 := (af Ia.out 0).trans rfl
    have d1 := (af zY.out 1).trans rfl
    have e1 := (af Ia.out 1).trans rfl
    have d2 := (af zY.out 2).trans rfl
    have e2 := (af Ia.out 2).trans rfl
    have d3 := (af zY.out 3).trans rfl
    have e3 := (af Ia.out 3).trans rfl
    have d4 := (af zY.out 4).trans rfl
    have e4 := (af Ia.out 4).trans rfl
    have d5 := (af zY.out 5).trans rfl
    have e5 := (af Ia.out 5).trans rfl
    have d6 := (af zY.out 6).trans rfl
    have e6 := (af Ia.out 6).trans rfl
    by_cases k2 : ck = 2
    ·have aiW : (ck == 2) = true := beq_iff_eq.mpr k2
     have K2 := ae.mk k2
     clear k2
     have hw := HW1.out
     go_wp2
     clear d0 d1 d2 d3 d4 d5 d6 e0 e1 e2 e3 e4 e5 e6
     go_roundg rest.length
     case measure => exact Nat.lt_of_lt_of_le (Nat.lt_succ_self _) fM.out
     case rel => exact ⟨pre ++ [k], rest, (by rw [vI]; unfold xq; rw [if_pos K2.out]), (by rw [vJ]; unfold xu; rw [if_pos K2.out]), (by rw [hw]), ⟨by rw [List.append_assoc]; exact HE.out⟩, Nat.le_refl _, UF, zY, Oe, NU⟩
    ·have aiW : (ck == 2) = false := beq_eq_false_iff_ne.mpr k2
     have K2 := ae.mk k2
     clear k2
     by_cases k3 : ck = 3
     ·have aiX : (ck == 3) = true := beq_iff_eq.mpr k3
      have K3 := ae.mk k3
      clear k3
      have hw := HW1.out
      go_wp2
      clear d0 d1 d2 d3 d4 d5 d6 e0 e1 e2 e3 e4 e5 e6
      go_roundg rest.length
      case measure => exact Nat.lt_of_lt_of_le (Nat.lt_succ_self _) fM.out
      case rel => exact ⟨pre ++ [k], rest, (by rw [vI]; unfold xq; rw [if_neg K2.out]), (by rw [vJ]; unfold xu; rw [if_neg K2.out, if_pos K3.out]), (by rw [hw]), ⟨by rw [List.append_assoc]; exact HE.out⟩, Nat.le_refl _, UF, zY, Oe, NU⟩
     ·have aiX : (ck == 3) = false := beq_eq_false_iff_ne.mpr k3
      have K3 := ae.mk k3
      clear k3
      have hw := HW1.out
      go_wp2
      clear d0 d1 d2 d3 d4 d5 d6 e0 e1 e2 e3 e4 e5 e6
      go_roundg rest.length
      case measure => exact Nat.lt_of_lt_of_le (Nat.lt_succ_self _) fM.out
      case rel => exact ⟨pre ++ [k], rest, (by rw [vI]; unfold xq; rw [if_neg K2.out]), (by rw [vJ]; unfold xu; rw [if_neg K2.out, if_neg K3.out]), (by rw [hw]), ⟨by rw [List.append_assoc]; exact HE.out⟩, Nat.le_refl _, UF, zY, Oe, NU⟩
def oP.f (a0 a1 a2 a3 a4 a5 : Int) (l : List ai) (x y : Int) : Option (Int × Int × Int × Int × Int × Int × List ai) := if sz ⟨a0, ⟨a1, a2, a3, a4⟩, a5, l⟩ ≤ 1000000 then some (a0, x, y, a3, a4, a5, jZ a0 l x y) else none
section
variable {W : World} {b : Nat} {P : Nat → Prop} {A : Option Addr} {cc : Nat}
abbrev yX (w : World) (P : Nat → Prop) (z : ai) (e : Ending) (w' : World) : Prop := ∃ A c, e = .returned (.agg #[.int .u8 z.f0, .int .i64 z.f1.f0, .int .i64 z.f1.f1, .int .i64 z.f1.f2, .int .i64 z.f1.f3, .int .i64 z.f2, .slice A z.f3.length c]) ∧ Kd.N k26 26 w' w.heap.size (fun k => P k ∨ w.heap.size ≤ k) (.slice A z.f3.length c) z.f3 ∧ Below w.heap.size w w'
theorem Dz (c : ai) (ax : Int) (hz : sz c ≤ 1048576) (hV : Kd.V k26 26 W b P (.slice A c.f3.length cc) c.f3) :
  Calls Try.prog 86 #[.agg #[.int .u8 c.f0, .int .i64 c.f1.f0, .int .i64 c.f1.f1, .int .i64 c.f1.f2, .int .i64 c.f1.f3, .int .i64 c.f2, .slice A c.f3.length cc], .int .u8 ax] W fun e w' => e = .returned (.int .i64 (aH ax c)) ∧ Below W.heap.size W w' := by
 obtain ⟨k, hk⟩ := (Yd c hz ax).rounds
 exact dC.calls k _ _ _ _ _ _ P A cc c.f3 ax _ W (eY hV) hk
theorem aav (c : ai) (ax : Int) (hV : Kd.V k26 26 W b P (.slice A c.f3.length cc) c.f3) :
  Calls Try.prog 99 #[.agg #[.int .u8 c.f0, .int .i64 c.f1.f0, .int .i64 c.f1.f1, .int .i64 c.f1.f2, .int .i64 c.f1.f3, .int .i64 c.f2, .slice A c.f3.length cc], .int .u8 ax] W fun e w' => e = .returned (.bool (fK ax c.f0)) ∧ Below W.heap.size W w' := by
 have h := Kd.kQ hV
 exact tV.calls _ _ _ _ _ _ A cc c.f3 ax _ W h.2.2 h.2.1 (DW c ax)
theorem aaA (l : List ai) (hl : l.length ≤ 1000000) (hV : Kd.V k26 26 W b P (.slice A l.length cc) l) :
  Calls Try.prog 137 #[.slice A l.length cc] W fun e w' => ∃ A' c', e = .returned (.slice A' l.length c') ∧ Kd.N k26 26 w' W.heap.size (fun k => P k ∨ W.heap.size ≤ k) (.slice A' l.length c') l ∧ Below W.heap.size W w' :=
 (ry.calls P A cc l l W (eY hV) (if_pos hl)).mono (fun e w' ⟨v, he, hN, hB⟩ => by
  obtain ⟨A', c', rfl⟩ := Kd.jG hN
  exact ⟨A', c', he, hN, hB⟩)
theorem NG (c : ai) (x y : Int) (hz : sz c ≤ 1000000) (hV : Kd.V k26 26 W b P (.slice A c.f3.length cc) c.f3) :
  Calls Try.prog 66 #[.agg #[.int .u8 c.f0, .int .i64 c.f1.f0, .int .i64 c.f1.f1, .int .i64 c.f1.f2, .int .i64 c.f1.f3, .int .i64 c.f2, .slice A c.f3.length cc], .int .i64 x, .int .i64 y] W (yX W P (bD c x y)) :=
 (aho 1000000 c hz (Nat.le_refl _) P A cc x y W (eY hV)).mono (fun e w' ⟨v, he, hN, hB⟩ => by
  rw [l9]
  obtain ⟨A', c', rfl⟩ := Kd.jG hN
  exact ⟨A', c', he, hN, hB⟩)
theorem Y2 (b : Int) (gs : List Int) (hl : gs.length ≤ 100000) (h0 : -2147483647 ≤ b) (h1 : b ≤ 2147483647) (hC : Kd.C (Kd.int .i64) W A gs.length gs) (hc : gs.length ≤ cc) :
  Calls Try.prog 49 #[.int .i64 b, .slice A gs.length cc] W fun e w' => ∃ A' c', e = .returned (.tuple #[.slice A' (oz b gs).1.length c', .bool (oz b gs).2]) ∧ (Kd.int .i64).R 3 w' W.heap.size (fun _ => True) (.slice A' (oz b gs).1.length c') (oz b gs).1 ∧ Below W.heap.size W w' := by
 obtain ⟨k, hk⟩ := (zH b gs hl h0 h1).2.rounds
 exact (bJ.calls k b A cc gs _ _ W hC hc hk).mono (fun e w' ⟨v, he, hR, hB⟩ => by
  obtain ⟨A', c', rfl⟩ := Kd.iG hR
  exact ⟨A', c', he, hR, hB⟩)
end
def zh.T6 : Bool × List (List Nat × List Nat) := (true, [([], []), ([0], [0]), ([], []), ([1, 2], [1, 2]), ([3], [3]), ([], []), ([5], [5]), ([], []), ([6, 7], [6, 7]), ([8], [8]), ([4, 9], [4, 9]), ([10], [10])])
def zh.B6 : List Nat := [0, 1, 0, 7, 15, 0, 32, 0, 224, 480, 1023, 2047]
theorem zh.tab6 : iM .any (opsOf Try.f64 6) = zh.T6 := by kernel_rfl
theorem zh.CG : gZ zh.T6.2 zh.B6 = true := by kernel_rfl
theorem WZ {x y : ai} {v : Bool} {args : Array Value} {W : World} (h : w_ x y = v) (hc : Calls Try.prog 64 args W fun e w' => e = .returned (.bool (w_ x y)) ∧ Below W.heap.size W w') : Calls Try.prog 64 args W fun e w' => e = .returned (.bool v) ∧ Below W.heap.size W w' := by
 rw [h] at hc
 exact hc
theorem M_ : ∀ (a a' b b' : List ai), a.length = a'.length → vH (a ++ b) (a' ++ b') = (vH a a' && vH b b') := by
 intro a
 induction a with
 | nil => intro a' b b' h; cases a' with
  | nil => rw [zG]; rfl
  | cons y ys => simp at h
 | cons x xs ih =>
  intro a' b b' h
  cases a' with
  | nil => simp at h
  | cons y ys => rw [List.cons_append, List.cons_append, yz, yz, ih ys b b' (by simpa using h), Bool.and_assoc]
theorem af4 : ∀ (N : Nat) (c : ai), sz c ≤ N → N ≤ 1048576 → ∀ (d : ai) (P : Nat → Prop) (A : Option Addr) (cc : Nat) (A' : Option Addr) (cc' : Nat) (w : World), Kd.V k26 26 w w.heap.size P (.slice A c.f3.length cc) c.f3 → Kd.V k26 26 w w.heap.size P (.slice A' d.f3.length cc') d.f3 →
  Calls Try.prog 64 #[.agg #[.int .u8 c.f0, .int .i64 c.f1.f0, .int .i64 c.f1.f1, .int .i64 c.f1.f2, .int .i64 c.f1.f3, .int .i64 c.f2, .slice A c.f3.length cc], .agg #[.int .u8 d.f0, .int .i64 d.f1.f0, .int .i64 d.f1.f1, .int .i64 d.f1.f2, .int .i64 d.f1.f3, .int .i64 d.f2, .slice A' d.f3.length cc']] w fun e w' => e = .returned (.bool (w_ c d)) ∧ Below w.heap.size w w' := by
 intro N
 induction N with
 | zero => intro c h; rw [bV] at h; omega
 | succ N ih =>
  intro c hc hN d P A cc A' cc' w hv hv'
  have hsz := bV c
  have hlen := ig c.f3
  have S := ae.mk (St.start (ts := [(.slice A c.f3.length cc, c.f3), (.slice A' d.f3.length cc', d.f3)]) (b0 := w.heap.size) (w := w) (P := P) (fun t ht => by
   rcases List.mem_cons.1 ht with rfl | ht
   ·exact hv
   ·rw [List.mem_singleton.1 ht]; exact hv'))
  have gY := ae.mk (show c.f3.length ≤ 1048576 by omega)
  have IH := ae.mk fun (k : ai) (hk : k ∈ c.f3) d P A cc A' cc' w h h' => ih k (by have := Bi hk; omega) (by omega) d P A cc A' cc' w h h'
  have Ja := ae.mk (Qn c d)
  obtain ⟨ck, ⟨cx, cy, cw, ch⟩, ay, l⟩ := c
  obtain ⟨dk, ⟨dx, dy, dw, dh⟩, did, m⟩ := d
  simp only [] at S IH gY Ja ⊢
  clear ih hc hN hv hv' hsz hlen
  by_cases hk : ck = dk
  case neg =>
   have hkb : (ck == dk) = false := beq_eq_false_iff_ne.mpr hk
   have hkc : (ck != dk) = true := bne_iff_ne.mpr hk
   have hkd : decide (ck = dk) = false := decide_eq_false hk
   have HB := ae.mk hkb
   clear hk
   go_enter Try.func64, Try.ntmps64
   go_wp2_with (first | (refine boxS 2 _ 26 S ?_; clear S; intro b2 di S) | (refine boxS 3 _ 26 S ?_; clear S; intro b3 dS S; have jr := (S.out.at aY 0).trans rfl; have bf := (S.out.at (.head _) 0).trans rfl))
   clear jr bf
   go_ret
   refine ⟨?_, S.out.below⟩
   rw [Ja.out]
   rw [HB.out, Bool.false_and]
   rfl
  subst hk
  have hkb : (ck != ck) = false := bne_self_eq_false _
  by_cases hr : oH ⟨cx, cy, cw, ch⟩ ⟨dx, dy, dw, dh⟩ = true
  case neg =>
   have HB := ae.mk (Bool.eq_false_iff.mpr hr)
   clear hr
   go_enter Try.func64, Try.ntmps64
   go_wp2_with (first | (refine boxS 2 _ 26 S ?_; clear S; intro b2 di S) | (refine boxS 3 _ 26 S ?_; clear S; intro b3 dS S; have jr := (S.out.at aY 0).trans rfl; have bf := (S.out.at (.head _) 0).trans rfl; have kU := (S.out.at aY 1).trans rfl; have kV := (S.out.at aY 2).trans rfl; have kW := (S.out.at aY 3).trans rfl; have kX := (S.out.at aY 4).trans rfl; have bg := (S.out.at (.head _) 1).trans rfl; have bu := (S.out.at (.head _) 2).trans rfl; have bz := (S.out.at (.head _) 3).trans rfl; have bM := (S.out.at (.head _) 4).trans rfl))
   clear jr bf kU kV kW kX bg bu bz bM
   all_goals (first | (exfalso; have h := HB.out; clear S; simp [oH, *] at h; done) | (go_ret; refine ⟨?_, S.out.below⟩; rw [Ja.out, HB.out, Bool.false_and, Bool.and_false]; rfl))
  have HR := ae.mk hr
  unfold oH at hr
  simp only [Bool.and_eq_true, beq_iff_eq] at hr
  obtain ⟨rfl, rfl, rfl, rfl⟩ := hr
  by_cases hi : ay = did
  case neg =>
   have hib : (ay == did) = false := beq_eq_false_iff_ne.mpr hi
   have hic : (ay != did) = true := bne_iff_ne.mpr hi
   have hid : decide (ay = did) = false := decide_eq_false hi
   have HB := ae.mk hib
   clear hi
   go_enter Try.func64, Try.ntmps64
   go_wp2_with (first | (refine boxS 2 _ 26 S ?_; clear S; intro b2 di S) | (refine boxS 3 _ 26 S ?_; clear S; intro b3 dS S; have jr := (S.out.at aY 0).trans rfl; have bf := (S.out.at (.head _) 0).trans rfl; have kU := (S.out.at aY 1).trans rfl; have kV := (S.out.at aY 2).trans rfl; have kW := (S.out.at aY 3).trans rfl; have kX := (S.out.at aY 4).trans rfl; have bg := (S.out.at (.head _) 1).trans rfl; have bu := (S.out.at (.head _) 2).trans rfl; have bz := (S.out.at (.head _) 3).trans rfl; have bM := (S.out.at (.head _) 4).trans rfl; have kY := (S.out.at aY 5).trans rfl; have bU := (S.out.at (.head _) 5).trans rfl))
   clear jr bf kU kV kW kX bg bu bz bM kY bU
   go_ret
   refine ⟨?_, S.out.below⟩
   rw [Ja.out]
   rw [HB.out, Bool.false_and, Bool.and_false, Bool.and_false]
   rfl
  subst hi
  have hib : (ay != ay) = false := bne_self_eq_false _
  by_cases hl : l.length = m.length
  case neg =>
   have hl2 : ¬ ((l.length : Int) = (m.length : Int)) := by omega
   have afr : ((l.length : Int) == (m.length : Int)) = false := beq_eq_false_iff_ne.mpr hl2
   have afs : ((l.length : Int) != (m.length : Int)) = true := bne_iff_ne.mpr hl2
   have aft : decide ((l.length : Int) = (m.length : Int)) = false := decide_eq_false hl2
   have hl3 : (l.length == m.length) = false := beq_eq_false_iff_ne.mpr hl
   have hl4 : decide (l.length = m.length) = false := decide_eq_false hl
   have hl5 : (l.length != m.length) = true := bne_iff_ne.mpr hl
   have HB := ae.mk hl3
   clear hl hl2
   go_enter Try.func64, Try.ntmps64
   go_wp2_with (first | (refine boxS 2 _ 26 S ?_; clear S; intro b2 di S) | (refine boxS 3 _ 26 S ?_; clear S; intro b3 dS S; obtain ⟨bf, bg, bu, bz, bM, bU, bC⟩ := St.dD S (.head _); obtain ⟨jr, kU, kV, kW, kX, kY, fD⟩ := St.dD S aY))
   clear bf bg bu bz bM bU bC jr kU kV kW kX kY fD
   go_ret
   refine ⟨?_, S.out.below⟩
   rw [Ja.out]
   rw [HB.out, Bool.false_and, Bool.and_false, Bool.and_false, Bool.and_false]
   rfl
  have HL := ae.mk hl
  have hl2 : (l.length : Int) = (m.length : Int) := by omega
  have afr : ((l.length : Int) == (m.length : Int)) = true := beq_iff_eq.mpr hl2
  have afs : ((l.length : Int) != (m.length : Int)) = false := bne_eq_false_iff_eq.mpr hl2
  have aft : decide ((l.length : Int) = (m.length : Int)) = true := decide_eq_true hl2
  have hl4 : decide (l.length = m.length) = true := decide_eq_true hl
  have hl5 : (l.length != m.length) = false := bne_eq_false_iff_eq.mpr hl
  clear hl hl2
  go_enter Try.func64, Try.ntmps64
  go_wp2_with (first | (refine boxS 2 _ 26 S ?_; clear S; intro b2 di S) | (refine boxS 3 _ 26 S ?_; clear S; intro b3 dS S; obtain ⟨bf, bg, bu, bz, bM, bU, bC⟩ := St.dD S (.head _); obtain ⟨jr, kU, kV, kW, kX, kY, fD⟩ := St.dD S aY))
  clear bf bg bu bz bM bU bC jr kU kV kW kX kY fD
  clear hkb hib afr afs aft hl4 hl5
  go_loopg [37] l.length (fun gg v37 wr => ∃ (pre rest pb rb : List ai), v37 = .int .i64 (pre.length : Int) ∧ ae (pre ++ rest = l) ∧ ae (pb ++ rb = m) ∧ ae (pre.length = pb.length) ∧ ae (vH pre pb = true) ∧ rest.length ≤ gg ∧ ae (St w P [(some b3, .cells #[.int .u8 ck, .int .i64 cx, .int .i64 cy, .int .i64 cw, .int .i64 ch, .int .i64 ay, .slice A' m.length cc'] 26 (0, 0)), (some b2, .cells #[.int .u8 ck, .int .i64 cx, .int .i64 cy, .int .i64 cw, .int .i64 ch, .int .i64 ay, .slice A l.length cc] 26 (0, 0))] [] [(.slice A l.length cc, l), (.slice A' m.length cc', m)] [] wr))
  case atStart => exact ⟨[], l, [], m, rfl, ⟨rfl⟩, ⟨rfl⟩, ⟨rfl⟩, ⟨zG _⟩, Nat.le_refl _, ⟨S.out⟩⟩
  case round =>
   clear S
   obtain ⟨pre, rest, pb, rb, rfl, HE, HE2, zn, QM, hgg, S⟩ := hrel
   have hlr : rest.length = rb.length := by have h1 := congrArg List.length HE.out; have h2 := congrArg List.length HE2.out; rw [List.length_append] at h1 h2; have := zn.out; have := HL.out; omega
   cases rest with
   | nil =>
    have hE := HE.out
    rw [List.append_nil] at hE
    have hE2 := hE.symm
    subst hE2
    have hrb := List.eq_nil_of_length_eq_zero hlr.symm
    subst hrb
    have Q5 := HE2.out
    rw [List.append_nil] at Q5
    subst Q5
    clear hE HE HE2 hgg hlr
    have hlt : ¬ ((l.length : Int) < (l.length : Int)) := by omega
    go_wp2
    go_ret
    refine ⟨?_, S.out.below⟩
    rw [Ja.out, HR.out, QM.out, beq_iff_eq.mpr HL.out, beq_self_eq_true, beq_self_eq_true]
    rfl
   | cons k rest =>
    cases rb with
    | nil => simp at hlr
    | cons q rb =>
     have hk : k ∈ l := by rw [← HE.out]; simp
     have hlt : (pre.length : Int) < (l.length : Int) := by rw [← HE.out, List.length_append, List.length_cons]; omega
     have hlt2 : (pre.length : Int) < (m.length : Int) := by rw [← HE2.out, List.length_append, List.length_cons]; have := zn.out; omega
     have hlt3 : pre.length < m.length := by omega
     have hw1 : wrap64 ((pre.length : Int) + 1) = ((pre ++ [k]).length : Int) := by have := gY.out; rw [List.length_append, List.length_singleton]; unfold wrap64; omega
     have HW1 := ae.mk hw1
     have fM := ae.mk hgg
     have HK := ae.mk hk
     obtain ⟨gK, ua, uc, ek, S1⟩ := S.out.elem (.head _) (pre.length : Int) (Int.natCast_nonneg _) hlt
     subst ek
     have hrd : aA l (pre.length : Int) = k := by rw [← HE.out]; exact kE pre k rest
     rw [hrd] at S1
     simp only [Int.toNat_natCast] at S1
     obtain ⟨adq, va, vc, Ve, S2⟩ := S1.elem dL (pre.length : Int) (Int.natCast_nonneg _) hlt2
     subst Ve
     have afB : aA m (pre.length : Int) = q := by rw [← HE2.out, zn.out]; exact kE pb q rb
     rw [afB] at S2
     simp only [Int.toNat_natCast] at S2
     replace S := ae.mk S2
     clear S1 S2 hrd afB hk hgg hw1 hlr
     cases hsm : w_ k q with
     | false =>
      have HS := ae.mk hsm
      clear hsm
      go_wp2
      refine gX (n := 12) (S := fun w' => St w _ _ _ _ _ w') (ds := []) (bA 12 0) (by kernel_rfl) rfl rfl (S.out.call (a_ (Below.refl _ _))) (fun hHeld => ?_); refine dZ zh.tab6 zh.CG (fun aj dE => ?_)
      replace S := ae.mk (S.out.call (a_ (Below.refl _ _)))
      generalize wr.drew = wd3 at S hHeld ⊢
      refine ak 0 40 (bA 12 1) aj ?_
      refine b_ 1 41 (bA 12 3) aj dE hHeld ?_ (hv := by intro w' hs_; have fD := (hs_.at aY 6).trans rfl; go_simp; with_reducible rfl)
      refine ak 2 42 (bA 12 7) aj ?_
      refine ak 3 43 (bA 12 15) aj ?_
      refine b_ 4 44 (bA 12 31) aj dE hHeld ?_ (hv := by intro w' hs_; have C9 := (hs_.cell _ FU).1; have y8_ := (hs_.cell _ mm8).1; have y9_ := (hs_.cell _ EI).1; have aja := (hs_.cell _ (.tail _ EI)).1; have ajb := (hs_.cell _ (.tail _ (.tail _ EI))).1; have Qx := (hs_.cell _ (.tail _ (.tail _ (.tail _ EI)))).1; have ajc := (hs_.cell _ (.tail _ (.tail _ (.tail _ (.tail _ EI))))).1; go_simp; with_reducible rfl)
      refine ak 5 45 (bA 12 63) aj ?_
      refine b_ 6 46 (bA 12 127) aj dE hHeld ?_ (hv := by intro w' hs_; have bC := (hs_.at (.head _) 6).trans rfl; go_simp; with_reducible rfl)
      refine ak 7 47 (bA 12 255) aj ?_
      refine ak 8 48 (bA 12 511) aj ?_
      refine b_ 9 49 (bA 12 1023) aj dE hHeld ?_ (hv := by intro w' hs_; have gQ := (hs_.cell _ (.head _)).1; have iD := (hs_.cell _ aY).1; have jd := (hs_.cell _ dL).1; have iP := (hs_.cell _ jB).1; have iQ := (hs_.cell _ lK).1; have jL := (hs_.cell _ qB).1; have jM := (hs_.cell _ zy).1; go_simp; with_reducible rfl)
      refine iL 10 (some 50) (bA 12 2047) aj (fun K hK => ?_)
      refine ja Try.func64 (by kernel_rfl) rfl #[.agg #[.int .u8 k.f0, .int .i64 k.f1.f0, .int .i64 k.f1.f1, .int .i64 k.f1.f2, .int .i64 k.f1.f3, .int .i64 k.f2, .slice ua k.f3.length uc], .agg #[.int .u8 q.f0, .int .i64 q.f1.f0, .int .i64 q.f1.f1, .int .i64 q.f1.f2, .int .i64 q.f1.f3, .int .i64 q.f2, .slice va q.f3.length vc]] (by rfl) rfl rfl (by (try simp only [List.map_toArray, List.map_cons, List.map_nil]); rfl) ?_
      refine (WZ HS.out (IH.out k HK.out q _ ua uc va vc _ (eY (S.out.tree _ aY)) (eY (S.out.tree _ (.head _))))).mono ?_
      rintro e gz ⟨rfl, hb⟩
      refine ⟨_, rfl, ?_⟩
      replace S := ae.mk (S.out.call hb)
      clear hb
      refine hK.out _ _ S.out (fun hHeld => ?_)
      clear hK K
      refine dR 50 ?_
      refine ak 11 51 (bA 12 4095) aj ?_
      refine jf (fJ aj.out (by kernel_rfl)) ?_
      clear hHeld
      go_wp2
      go_ret
      refine ⟨?_, S.out.below⟩
      rw [Ja.out, ← HE.out, ← HE2.out, M_ _ _ _ _ zn.out, yz, HS.out, Bool.false_and, Bool.and_false, Bool.and_false, Bool.and_false, Bool.and_false, Bool.and_false]
      rfl
     | true =>
      have HS := ae.mk hsm
      clear hsm
      go_wp2
      refine gX (n := 12) (S := fun w' => St w _ _ _ _ _ w') (ds := []) (bA 12 0) (by kernel_rfl) rfl rfl (S.out.call (a_ (Below.refl _ _))) (fun hHeld => ?_); refine dZ zh.tab6 zh.CG (fun aj dE => ?_)
      replace S := ae.mk (S.out.call (a_ (Below.refl _ _)))
      generalize wr.drew = wd5 at S hHeld ⊢
      refine ak 0 40 (bA 12 1) aj ?_
      refine b_ 1 41 (bA 12 3) aj dE hHeld ?_ (hv := by intro w' hs_; have fD := (hs_.at aY 6).trans rfl; go_simp; with_reducible rfl)
      refine ak 2 42 (bA 12 7) aj ?_
      refine ak 3 43 (bA 12 15) aj ?_
      refine b_ 4 44 (bA 12 31) aj dE hHeld ?_ (hv := by intro w' hs_; have C9 := (hs_.cell _ FU).1; have y8_ := (hs_.cell _ mm8).1; have y9_ := (hs_.cell _ EI).1; have aja := (hs_.cell _ (.tail _ EI)).1; have ajb := (hs_.cell _ (.tail _ (.tail _ EI))).1; have Qx := (hs_.cell _ (.tail _ (.tail _ (.tail _ EI)))).1; have ajc := (hs_.cell _ (.tail _ (.tail _ (.tail _ (.tail _ EI))))).1; go_simp; with_reducible rfl)
      refine ak 5 45 (bA 12 63) aj ?_
      refine b_ 6 46 (bA 12 127) aj dE hHeld ?_ (hv := by intro w' hs_; have bC := (hs_.at (.head _) 6).trans rfl; go_simp; with_reducible rfl)
      refine ak 7 47 (bA 12 255) aj ?_
      refine ak 8 48 (bA 12 511) aj ?_
      refine b_ 9 49 (bA 12 1023) aj dE hHeld ?_ (hv := by intro w' hs_; have gQ := (hs_.cell _ (.head _)).1; have iD := (hs_.cell _ aY).1; have jd := (hs_.cell _ dL).1; have iP := (hs_.cell _ jB).1; have iQ := (hs_.cell _ lK).1; have jL := (hs_.cell _ qB).1; have jM := (hs_.cell _ zy).1; go_simp; with_reducible rfl)
      refine iL 10 (some 50) (bA 12 2047) aj (fun K hK => ?_)
      refine ja Try.func64 (by kernel_rfl) rfl #[.agg #[.int .u8 k.f0, .int .i64 k.f1.f0, .int .i64 k.f1.f1, .int .i64 k.f1.f2, .int .i64 k.f1.f3, .int .i64 k.f2, .slice ua k.f3.length uc], .agg #[.int .u8 q.f0, .int .i64 q.f1.f0, .int .i64 q.f1.f1, .int .i64 q.f1.f2, .int .i64 q.f1.f3, .int .i64 q.f2, .slice va q.f3.length vc]] (by rfl) rfl rfl (by (try simp only [List.map_toArray, List.map_cons, List.map_nil]); rfl) ?_
      refine (WZ HS.out (IH.out k HK.out q _ ua uc va vc _ (eY (S.out.tree _ aY)) (eY (S.out.tree _ (.head _))))).mono ?_
      rintro e tJ ⟨rfl, hb⟩
      refine ⟨_, rfl, ?_⟩
      replace S := ae.mk (S.out.call hb)
      clear hb
      refine hK.out _ _ S.out (fun hHeld => ?_)
      clear hK K
      refine dR 50 ?_
      refine ak 11 51 (bA 12 4095) aj ?_
      refine jf (fJ aj.out (by kernel_rfl)) ?_
      clear hHeld
      go_wp2
      have hw1 := HW1.out
      go_wp2
      go_roundg rest.length
      case measure => exact Nat.lt_of_lt_of_le (Nat.lt_succ_self _) fM.out
      case rel => exact ⟨pre ++ [k], rest, pb ++ [q], rb, (by rw [hw1]), ⟨by rw [List.append_assoc]; exact HE.out⟩, ⟨by rw [List.append_assoc]; exact HE2.out⟩, ⟨by rw [List.length_append, List.length_append, zn.out]; rfl⟩, ⟨by rw [M_ _ _ _ _ zn.out, QM.out, yz, HS.out, zG]; rfl⟩, Nat.le_refl _, ⟨S.out.bQ.bQ.aX.aX.aX.aX.aX.aX.aX.aX.aX.aX.aX.aX.aX.aX⟩⟩
theorem J3 : ∀ (is : List Int) (c x : ai), qo c is = some x → sz x ≤ sz c := by
 intro is
 induction is with
 | nil => intro c x h; injection h with h; rw [h]; exact Nat.le_refl _
 | cons i is ih =>
  intro c x h
  simp only [qo] at h
  split at h
  ·cases h
  ·rename_i hi
   have h1 := ih _ x h
   have h2 := tC (F5 c.f3 i (by omega) (by omega))
   have h3 := bV c
   omega
theorem Dx (id : Int) : ∀ (N : Nat), (∀ c : ai, sz c ≤ N → ∀ p, iR id c = some p → ∃ z, qo c p = some z ∧ z.f0 = 1 ∧ z.f2 = id) ∧
  (∀ l : List ai, dU l ≤ N → ∀ (pre : List ai) (p : List Int), qp id pre.length l = some p → ∃ i is z, p = i :: is ∧ 0 ≤ i ∧ i < ((pre ++ l).length : Int) ∧ qo (aA (pre ++ l) i) is = some z ∧ z.f0 = 1 ∧ z.f2 = id) := by
 intro N
 induction N with
 | zero =>
  refine ⟨fun c h => ?_, fun l h => ?_⟩
  ·rw [bV] at h; omega
  ·cases l with
   | nil => intro pre p hp; rw [uS] at hp; cases hp
   | cons z zs => rw [df, bV] at h; omega
 | succ N ih =>
  have hC : ∀ c : ai, sz c ≤ N + 1 → ∀ p, iR id c = some p → ∃ z, qo c p = some z ∧ z.f0 = 1 ∧ z.f2 = id := by
   intro c h p hp
   have hs := bV c
   rw [D6] at hp
   split at hp
   ·rename_i hq
    injection hp with hp
    subst hp
    exact ⟨c, rfl, hq.1, hq.2⟩
   ·obtain ⟨i, is, z, rfl, h0, h1, h2, h3⟩ := ih.2 c.f3 (by omega) [] p hp
    refine ⟨z, ?_, h3⟩
    rw [List.nil_append] at h1 h2
    simp only [qo]
    rw [if_neg (by omega)]
    exact h2
  refine ⟨hC, fun l => ?_⟩
  induction l with
  | nil => intro _ pre p hp; rw [uS] at hp; cases hp
  | cons x xs ihl =>
   intro h pre p hp
   rw [df] at h
   rw [qw] at hp
   cases hx : iR id x with
   | some q =>
    rw [hx] at hp
    injection hp with hp
    obtain ⟨z, hz, h3⟩ := hC x (by omega) q hx
    refine ⟨(pre.length : Int), q, z, hp.symm, by omega, by rw [List.length_append, List.length_cons]; omega, ?_, h3⟩
    rw [kE]
    exact hz
   | none =>
    rw [hx] at hp
    have e := ihl (by omega) (pre ++ [x]) p (by rw [List.length_append]; exact hp)
    rwa [List.append_assoc] at e
def oQ.T5 : Bool × List (List Nat × List Nat) := (true, [([], []), ([0], [0]), ([], []), ([], []), ([3], [3]), ([1, 2, 0, 1, 2, 3, 4], [1, 2]), ([5, 4, 4, 0, 1, 2, 3, 4], [4, 5])])
def oQ.B5 : List Nat := [0, 1, 0, 0, 8, 31, 63]
theorem oQ.Gh : iM .any (opsOf Try.f151 5) = oQ.T5 := by kernel_rfl
theorem oQ.CE : gZ oQ.T5.2 oQ.B5 = true := by kernel_rfl
theorem Ij : ∀ (N : Nat) (c : ai), sz c ≤ N → N ≤ 1000000 → ∀ (P : Nat → Prop) (A : Option Addr) (cc : Nat) (w : World), Kd.V k26 26 w w.heap.size P (.slice A c.f3.length cc) c.f3 →
  Calls Try.prog 151 #[.agg #[.int .u8 c.f0, .int .i64 c.f1.f0, .int .i64 c.f1.f1, .int .i64 c.f1.f2, .int .i64 c.f1.f3, .int .i64 c.f2, .slice A c.f3.length cc]] w
   fun e w' => ∃ v : Value, e = .returned (.agg #[.int .u8 c.f0, .int .i64 c.f1.f0, .int .i64 c.f1.f1, .int .i64 c.f1.f2, .int .i64 c.f1.f3, .int .i64 c.f2, v]) ∧ Kd.N k26 26 w' w.heap.size (fun k => P k ∨ w.heap.size ≤ k) v c.f3 ∧ Below w.heap.size w w' := by
 intro N
 induction N with
 | zero => intro c h; rw [bV] at h; omega
 | succ N ih =>
  intro c hc hN P A cc w hs
  have hsz := bV c
  have hlen := ig c.f3
  have IH := ae.mk fun (k : ai) (hk : k ∈ c.f3) => ih k (by
   have : sz k ≤ dU c.f3 := by
    obtain ⟨p, q, e⟩ := List.append_of_mem hk
    rw [e, pg, df]; omega
   omega) (by omega)
  have NT := ae.mk fun (W : World) (P' : Nat → Prop) (hV : Kd.V k26 26 W w.heap.size P' (.slice A c.f3.length cc) c.f3) => ry.calls P' A cc c.f3 c.f3 W hV (if_pos (by omega))
  have HO := ae.mk hs
  have HL := ae.mk (show c.f3.length ≤ 1000000 by omega)
  have HB := ae.mk (Below.refl w.heap.size w)
  clear ih hs hc hN hsz hlen
  obtain ⟨ck, ⟨cx, cy, cw, ch⟩, ay, l⟩ := c
  simp only [] at HO HL IH NT ⊢
  go_enter Try.func151, Try.ntmps151
  go_upto_region 1 with (first | ((with_reducible refine aG (N := 1) rfl ?_); refine aU ?hg (N := 1) ?hd (cs := #[.int .u8 ck, .int .i64 cx, .int .i64 cy, .int .i64 cw, .int .i64 ch, .int .i64 ay, .slice A l.length cc]) (t := 26) ?hr ?_; (case hd => rfl); (case hg => rfl); (case hr => (go_simp; done)); intro b3 hg Xn hbox hb; have Uw := ae.mk (show w.heap.size ≤ b3 by rw [hg]; exact HB.out.size); have mV := ae.mk (au HB.out hb); have uV := ae.mk (Kd.jT (Kd.pG HO.out b3 (by rw [hg]; exact Nat.le_refl _)) hb); clear HB HO; have HB := mV; have HO := uV; clear mV uV; have dF := ae.mk hbox; clear hb hbox hg) | ((with_reducible refine aG (N := 2) rfl ?_); refine aU ?hg (N := 2) ?hd (cs := #[.int .u8 0, .int .i64 0, .int .i64 0, .int .i64 0, .int .i64 0, .int .i64 0, .slice none 0 0]) (t := 26) ?hr ?_; (case hd => rfl); (case hg => rfl); (case hr => (go_simp; done)); intro b6 hg wb6 hbox hb; have Gb6 := ae.mk (show w.heap.size ≤ b6 by rw [hg]; exact HB.out.size); have xk := ae.mk (show b3 ≠ b6 by rw [hg]; exact Nat.ne_of_lt (gJ dF.out)); have mV := ae.mk (au HB.out hb); have uV := ae.mk (Kd.jT (Kd.pG HO.out b6 (by rw [hg]; exact Nat.le_refl _)) hb); have jv := ae.mk (aQ dF.out hb); clear HB HO dF; have HB := mV; have HO := uV; have dF := jv; clear mV uV jv; have iF := ae.mk hbox; clear hb hbox hg))
  have Jk : _ = some (Value.slice A l.length cc) := (af dF.out 6).trans rfl
  go_upto_region 2 with (first | ((with_reducible refine mD (f := 137) rfl ?_); refine oN (some 7) rfl rfl Try.func137 (by kernel_rfl) rfl #[.slice A l.length cc] rfl (by (try simp only [List.map_toArray, List.map_cons, List.map_nil]); rfl) ?_; refine (NT.out _ _ HO.out).mono ?_; rintro e wc1 ⟨v1, rfl, ho, hb⟩; refine ⟨_, rfl, ?_⟩; have HN := ae.mk (Ol ho (gJ dF.out) (gJ iF.out) HB.out.size); clear ho HO; obtain ⟨A1, c1, e1⟩ := Kd.jG HN.out; subst e1; have mV := ae.mk (au HB.out hb); have jv := ae.mk (aQ dF.out hb); have jw := ae.mk (aQ iF.out hb); clear HB dF iF; have HB := mV; have dF := jv; have iF := jw; clear mV jv jw; clear hb) | ((with_reducible refine mG (.store 24 (.tmp 8) (.tmp 7)) rfl ?_); go_loud (refine iO (w0 := w) rfl rfl 24 (.tmp 8) (.tmp 7) rfl (g := b3) (j := 6) (base := w.heap.size) #[.int .u8 ck, .int .i64 cx, .int .i64 cy, .int .i64 cw, .int .i64 ch, .int .i64 ay, .slice A1 l.length c1] (u := .slice A1 l.length c1) (bK := [.slice A1 l.length c1]) ?sA ?sX rfl ?sT ?s1 dF.out ?sJ rfl HB.out HB.out.size Uw.out ?_; (case sA => rfl); (case sX => rfl); (case sT => rfl); (case s1 => (simp [Value.oneCell'])); (case sJ => (simp)); intro ws1 hbk hbb hgg; have jw := ae.mk (dG iF.out hgg (fun e_ => absurd (Option.some.inj e_) (by exact (fun O9 => xk.out O9.symm)))); have mW := ae.mk (Kd.xC HN.out hgg (fun k_ hk e_ => absurd (Option.some.inj e_) hk.1.2)); clear iF HN; have iF := jw; have HN := mW; clear jw mW; clear dF HB; have dF := ae.mk hbk; have HB := ae.mk hbb; clear hbk hbb hgg)))
  clear Jk
  have Jk : _ = some (Value.slice A1 l.length c1) := (af dF.out 6).trans rfl
  go_wp2
  clear Jk
  go_loopg [12] l.length (fun gg v22 wr => ∃ (pre rest : List ai), v22 = .int .i64 (pre.length : Int) ∧ ae (pre ++ rest = l) ∧ rest.length ≤ gg ∧ ae (Kd.N k26 26 wr w.heap.size (fun q => ((P q ∨ w.heap.size ≤ q) ∧ q ≠ b3) ∧ q ≠ b6) (.slice A1 l.length c1) l) ∧ ae (wr.heap[b3]? = some (.cells #[.int .u8 ck, .int .i64 cx, .int .i64 cy, .int .i64 cw, .int .i64 ch, .int .i64 ay, .slice A1 l.length c1] 26 (0, 0))) ∧ ae (wr.heap[b6]? = some (.cells #[.int .u8 0, .int .i64 0, .int .i64 0, .int .i64 0, .int .i64 0, .int .i64 0, .slice none 0 0] 26 (0, 0))) ∧ ae (Below w.heap.size w wr))
  case atStart => exact ⟨[], l, rfl, ⟨rfl⟩, Nat.le_refl _, HN, dF, iF, HB⟩
  case round =>
   clear HN dF iF HB
   obtain ⟨pre, rest, rfl, HE, hgg, HN, dF, iF, HB⟩ := hrel
   cases rest with
   | nil =>
    have hpl : pre = l := by have := HE.out; rwa [List.append_nil] at this
    have hlt : ¬ ((pre.length : Int) < (l.length : Int)) := by rw [hpl]; omega
    clear hpl hgg
    have c30 := (af dF.out 0).trans rfl
    have c31 := (af dF.out 1).trans rfl
    have c32 := (af dF.out 2).trans rfl
    have c33 := (af dF.out 3).trans rfl
    have c34 := (af dF.out 4).trans rfl
    have c35 := (af dF.out 5).trans rfl
    have Jk := (af dF.out 6).trans rfl
    go_wp2_with (((with_reducible refine mG (.store 26 (.tmp 2) (.tmp 24)) rfl ?_); go_loud (refine iO (w0 := w) rfl rfl 26 (.tmp 2) (.tmp 24) rfl (g := b6) (j := 0) (base := w.heap.size) #[.int .u8 ck, .int .i64 cx, .int .i64 cy, .int .i64 cw, .int .i64 ch, .int .i64 ay, .slice A1 l.length c1] (u := .agg #[.int .u8 ck, .int .i64 cx, .int .i64 cy, .int .i64 cw, .int .i64 ch, .int .i64 ay, .slice A1 l.length c1]) (bK := [.int .u8 ck, .int .i64 cx, .int .i64 cy, .int .i64 cw, .int .i64 ch, .int .i64 ay, .slice A1 l.length c1]) ?sA ?sX rfl ?sT ?s1 iF.out ?sJ rfl HB.out HB.out.size Gb6.out ?_; (case sA => rfl); (case sX => rfl); (case sT => rfl); (case s1 => (simp [Value.oneCell'])); (case sJ => (simp)); intro ai' hbk hbb hgg; have mW := ae.mk (Kd.xC HN.out hgg (fun k_ hk e_ => absurd (Option.some.inj e_) hk.2)); have jv := ae.mk (dG dF.out hgg (fun e_ => absurd (Option.some.inj e_) xk.out)); clear HN dF; have HN := mW; have dF := jv; clear mW jv; clear iF HB; have iF := ae.mk hbk; have HB := ae.mk hbb; clear hbk hbb hgg)))
    refine bodyPost_ret (results_cell_row rfl _ _ b6 26 _ (0, 0) _ rfl iF.out Try.underlying26 rfl (by kernel_rfl)) rfl ?_
    exact ⟨_, rfl, Kd.jq HN.out (fun q hq => hq.1.1), HB.out⟩
   | cons k rest =>
    have hk : k ∈ l := by rw [← HE.out]; simp
    have hlt : (pre.length : Int) < (l.length : Int) := by rw [← HE.out, List.length_append, List.length_cons]; omega
    have hw : wrap64 ((pre.length : Int) + 1) = ((pre ++ [k]).length : Int) := by rw [List.length_append, List.length_singleton]; unfold wrap64; have := HL.out; omega
    obtain ⟨g, cap, he, hgb, Yn, _⟩ := Kd.wE HN.out (by omega)
    injection he with ea en ec
    subst ea
    subst ec
    clear en
    have qW := ae.mk hgb
    obtain ⟨ce, hcl, hM, hcc, hfr⟩ := Kd.zu HN.out z26 (pre.length : Int) (Int.natCast_nonneg _) hlt
    have hrd : l.getD (pre.length : Int).toNat z26 = k := by rw [← HE.out, Int.toNat_natCast]; simp [List.getD_eq_getElem?_getD]
    rw [hrd] at hM
    obtain ⟨ua, uc, rfl, ul, ge⟩ := o5 hM
    have HV := ae.mk (show Kd.V k26 26 wr w.heap.size _ (.slice ua k.f3.length uc) k.f3 from Kd.x_ ul ge)
    have HRD := ae.mk hrd
    have x0 : wr.cell? ⟨g, pre.length * 7, none⟩ = some (.int .u8 k.f0) := hcc 0 _ rfl
    have x1 : wr.cell? ⟨g, pre.length * 7 + 1, none⟩ = some (.int .i64 k.f1.f0) := hcc 1 _ rfl
    have x2 : wr.cell? ⟨g, pre.length * 7 + 2, none⟩ = some (.int .i64 k.f1.f1) := hcc 2 _ rfl
    have x3 : wr.cell? ⟨g, pre.length * 7 + 3, none⟩ = some (.int .i64 k.f1.f2) := hcc 3 _ rfl
    have x4 : wr.cell? ⟨g, pre.length * 7 + 4, none⟩ = some (.int .i64 k.f1.f3) := hcc 4 _ rfl
    have x5 : wr.cell? ⟨g, pre.length * 7 + 5, none⟩ = some (.int .i64 k.f2) := hcc 5 _ rfl
    have x6 : wr.cell? ⟨g, pre.length * 7 + 6, none⟩ = some (.slice ua k.f3.length uc) := hcc 6 _ rfl
    have HW1 := ae.mk hw
    have HK := ae.mk hk
    have fM := ae.mk hgg
    clear hcl hM hcc hfr hrd ul ge hgb Yn hw hk hgg
    go_upto_region 5 with (first | ((with_reducible refine aG (N := 4) rfl ?_); refine aU ?hg (N := 4) ?hd (cs := #[.int .u8 0, .int .i64 0, .int .i64 0, .int .i64 0, .int .i64 0, .int .i64 0, .slice none 0 0]) (t := 26) ?hr ?_; (case hd => rfl); (case hg => rfl); (case hr => (go_simp; done)); intro b8 hg wb8 hbox hb; have Gb8 := ae.mk (show w.heap.size ≤ b8 by rw [hg]; exact HB.out.size); have Ib := ae.mk (show b3 ≠ b8 by rw [hg]; exact Nat.ne_of_lt (gJ dF.out)); have Ic := ae.mk (show b6 ≠ b8 by rw [hg]; exact Nat.ne_of_lt (gJ iF.out)); have mV := ae.mk (au HB.out hb); have mW := ae.mk (Kd.qY (Kd.DR HN.out b8 (by rw [hg]; exact Nat.le_refl _)) hb); have uX := ae.mk (Kd.jT (Kd.pG HV.out b8 (by rw [hg]; exact Nat.le_refl _)) hb); have jv := ae.mk (aQ dF.out hb); have jw := ae.mk (aQ iF.out hb); clear HB HN HV dF iF; have HB := mV; have HN := mW; have HV := uX; have dF := jv; have iF := jw; clear mV mW uX jv jw; have Kb8 := ae.mk hbox; clear hb hbox hg) | ((with_reducible refine mG (.store 26 (.tmp 4) (.tmp 16)) rfl ?_); go_loud (refine iO (w0 := w) rfl rfl 26 (.tmp 4) (.tmp 16) rfl (g := b8) (j := 0) (base := w.heap.size) #[.int .u8 k.f0, .int .i64 k.f1.f0, .int .i64 k.f1.f1, .int .i64 k.f1.f2, .int .i64 k.f1.f3, .int .i64 k.f2, .slice ua k.f3.length uc] (u := .agg #[.int .u8 k.f0, .int .i64 k.f1.f0, .int .i64 k.f1.f1, .int .i64 k.f1.f2, .int .i64 k.f1.f3, .int .i64 k.f2, .slice ua k.f3.length uc]) (bK := [.int .u8 k.f0, .int .i64 k.f1.f0, .int .i64 k.f1.f1, .int .i64 k.f1.f2, .int .i64 k.f1.f3, .int .i64 k.f2, .slice ua k.f3.length uc]) ?sA ?sX rfl ?sT ?s1 Kb8.out ?sJ rfl HB.out HB.out.size Gb8.out ?_; (case sA => rfl); (case sX => rfl); (case sT => rfl); (case s1 => (simp [Value.oneCell'])); (case sJ => (simp)); intro Y9 hbk hbb hgg; have mW := ae.mk (Kd.xC HN.out hgg (fun k_ hk e_ => absurd (Option.some.inj e_) hk.2)); have uX := ae.mk (Kd.xG HV.out hgg (fun k_ hk e_ => absurd (Option.some.inj e_) hk.2)); have jv := ae.mk (dG dF.out hgg (fun e_ => absurd (Option.some.inj e_) Ib.out)); have jw := ae.mk (dG iF.out hgg (fun e_ => absurd (Option.some.inj e_) Ic.out)); clear HN HV dF iF; have HN := mW; have HV := uX; have dF := jv; have iF := jw; clear mW uX jv jw; clear Kb8 HB; have Kb8 := ae.mk hbk; have HB := ae.mk hbb; clear hbk hbb hgg)))
    clear x0 x1 x2 x3 x4 x5 x6
    have q_ := ae.mk (wG HB.out)
    clear HB
    have HB := q_
    clear q_
    have q_ := ae.mk (Kd.UN HN.out)
    clear HN
    have HN := q_
    clear q_
    have q_ := ae.mk (Kd.Oq HV.out)
    clear HV
    have HV := q_
    clear q_
    have q_ := ae.mk (xm dF.out)
    clear dF
    have dF := q_
    clear q_
    have q_ := ae.mk (xm iF.out)
    clear iF
    have iF := q_
    clear q_
    have q_ := ae.mk (xm Kb8.out)
    clear Kb8
    have Kb8 := q_
    clear q_
    refine gX (n := 7) (S := fun w' => w'.heap[b3]? = some (.cells #[.int .u8 ck, .int .i64 cx, .int .i64 cy, .int .i64 cw, .int .i64 ch, .int .i64 ay, .slice (some ⟨g, 0, none⟩) l.length c1] 26 (0, 0)) ∧ w'.heap[b8]? = some (.cells #[.int .u8 k.f0, .int .i64 k.f1.f0, .int .i64 k.f1.f1, .int .i64 k.f1.f2, .int .i64 k.f1.f3, .int .i64 k.f2, .slice ua k.f3.length uc] 26 (0, 0))) (ds := [6]) #[false, false, false, false, false, false, false] (by kernel_rfl) rfl rfl ⟨dF.out, Kb8.out⟩ (fun hHeld => ?_); refine dZ oQ.Gh oQ.CE (fun aj dE => ?_)
    generalize Y9.drew = wd at HB HN HV dF iF Kb8 hHeld ⊢
    refine uq (i := 0) (N := some 17) (v := ?_) (a' := ?_) #[true, false, false, false, false, false, false] rfl rfl (qm aj.out (by kernel_rfl)) (fun _ _ _ h => h) (Or.inl ⟨by rfl, ?_⟩) ?_ ?_
    rotate_left
    ·intro w'; go_simp; with_reducible rfl
    rotate_left
    ·simp only [Act.put, List.setIfInBounds_toArray, List.set_cons_zero, List.set_cons_succ, lH, lG]
     rfl
    refine Bf (i := 1) (N := some 18) (v := ?_) (a' := ?_) #[true, true, false, false, false, false, false] rfl rfl (xx aj.out dE.out (by kernel_rfl)) (fun _ _ _ h => h) (Or.inl ⟨by rfl, ?_⟩) hHeld ?_ ?_
    rotate_left
    ·intro w' hs_
     have c := (af hs_.1 6).trans rfl
     go_simp; with_reducible rfl
    rotate_left
    ·simp only [Act.put, List.setIfInBounds_toArray, List.set_cons_zero, List.set_cons_succ, lH, lG]
     rfl
    refine uq (i := 2) (N := some 19) (v := ?_) (a' := ?_) #[true, true, true, false, false, false, false] rfl rfl (qm aj.out (by kernel_rfl)) (fun _ _ _ h => h) (Or.inl ⟨by rfl, ?_⟩) ?_ ?_
    rotate_left
    ·intro w'; go_simp; with_reducible rfl
    rotate_left
    ·simp only [Act.put, List.setIfInBounds_toArray, List.set_cons_zero, List.set_cons_succ, lH, lG]
     rfl
    refine Bf (i := 3) (N := some 20) (v := ?_) (a' := ?_) #[true, true, true, true, false, false, false] rfl rfl (xx aj.out dE.out (by kernel_rfl)) (fun _ _ _ h => h) (Or.inl ⟨by rfl, ?_⟩) hHeld ?_ ?_
    rotate_left
    ·intro w' hs_
     have c0 := (af hs_.2 0).trans rfl
     have c1 := (af hs_.2 1).trans rfl
     have c2 := (af hs_.2 2).trans rfl
     have c3 := (af hs_.2 3).trans rfl
     have c4 := (af hs_.2 4).trans rfl
     have c5 := (af hs_.2 5).trans rfl
     have c6 := (af hs_.2 6).trans rfl
     go_simp; with_reducible rfl
    rotate_left
    ·simp only [Act.put, List.setIfInBounds_toArray, List.set_cons_zero, List.set_cons_succ, lH, lG]
     rfl
    refine P7 (i := 4) (N := some 21) #[true, true, true, true, true, false, false] rfl rfl (zB aj.out (by kernel_rfl)) (by decide) (fun K hK => ?_)
    refine ja Try.func151 (by kernel_rfl) rfl #[.agg #[.int .u8 k.f0, .int .i64 k.f1.f0, .int .i64 k.f1.f1, .int .i64 k.f1.f2, .int .i64 k.f1.f3, .int .i64 k.f2, .slice ua k.f3.length uc]] (by rfl) rfl rfl (by (try simp only [List.map_toArray, List.map_cons, List.map_nil]); rfl) ?_
    refine (IH.out k HK.out _ ua uc wd HV.out).mono ?_
    rintro e wk ⟨v, rfl, ho, hb⟩
    refine ⟨_, rfl, ?_⟩
    have HE3 := ae.mk (gJ dF.out)
    have HE6 := ae.mk (gJ iF.out)
    have HE8 := ae.mk (gJ Kb8.out)
    have HEG := ae.mk (Kd.EP HN.out g rfl)
    have HS := ae.mk HB.out.size
    have mV := ae.mk (au HB.out hb); have mW := ae.mk (Kd.qY HN.out hb); have uX := ae.mk (Kd.jT HV.out hb); have jv := ae.mk (aQ dF.out hb); have jw := ae.mk (aQ iF.out hb); have JF := ae.mk (aQ Kb8.out hb); clear HB HN HV dF iF Kb8; have HB := mV; have HN := mW; have HV := uX; have dF := jv; have iF := jw; have Kb8 := JF; clear mV mW uX jv jw JF
    clear HV hb
    obtain ⟨Av, cv, ev⟩ := Kd.jG ho
    subst ev
    have qX := ae.mk ho
    clear ho
    refine hK.out _ _ ⟨dF.out, Kb8.out⟩ (fun hHeld => ?_)
    clear hK K
    refine mP (a' := ?_) ?_ ?_
    rotate_left
    ·show Act.put _ (some 21) _ = _
     simp only [Act.put, List.setIfInBounds_toArray, List.set_cons_zero, List.set_cons_succ, lH, lG]
     rfl
    refine uq (i := 5) (N := some 22) (v := ?_) (a' := ?_) #[true, true, true, true, true, true, false] rfl rfl (qm aj.out (by kernel_rfl)) (fun _ _ _ h => h) (Or.inl ⟨by rfl, ?_⟩) ?_ ?_
    rotate_left
    ·intro w'; go_simp; with_reducible rfl
    rotate_left
    ·simp only [Act.put, List.setIfInBounds_toArray, List.set_cons_zero, List.set_cons_succ, lH, lG]
     rfl
    refine TN (i := 6) (N := none) #[true, true, true, true, true, true, true] rfl rfl (zB aj.out (by kernel_rfl)) (by decide) (fun K hK => ?_)
    obtain ⟨ce, hcl, hM, hcc, hfr⟩ := Kd.zu HN.out z26 (pre.length : Int) (Int.natCast_nonneg _) hlt
    rw [HRD.out] at hM
    obtain ⟨ub, ud, rfl, _, _⟩ := o5 hM
    have x0 : wk.cell? ⟨g, pre.length * 7, none⟩ = some (.int .u8 k.f0) := hcc 0 _ rfl
    have f0 : wk.frozen? ⟨g, pre.length * 7, none⟩ = false := hfr 0
    have x1 : wk.cell? ⟨g, pre.length * 7 + 1, none⟩ = some (.int .i64 k.f1.f0) := hcc 1 _ rfl
    have f1 : wk.frozen? ⟨g, pre.length * 7 + 1, none⟩ = false := hfr 1
    have x2 : wk.cell? ⟨g, pre.length * 7 + 2, none⟩ = some (.int .i64 k.f1.f1) := hcc 2 _ rfl
    have f2 : wk.frozen? ⟨g, pre.length * 7 + 2, none⟩ = false := hfr 2
    have x3 : wk.cell? ⟨g, pre.length * 7 + 3, none⟩ = some (.int .i64 k.f1.f2) := hcc 3 _ rfl
    have f3 : wk.frozen? ⟨g, pre.length * 7 + 3, none⟩ = false := hfr 3
    have x4 : wk.cell? ⟨g, pre.length * 7 + 4, none⟩ = some (.int .i64 k.f1.f3) := hcc 4 _ rfl
    have f4 : wk.frozen? ⟨g, pre.length * 7 + 4, none⟩ = false := hfr 4
    have x5 : wk.cell? ⟨g, pre.length * 7 + 5, none⟩ = some (.int .i64 k.f2) := hcc 5 _ rfl
    have f5 : wk.frozen? ⟨g, pre.length * 7 + 5, none⟩ = false := hfr 5
    have x6 : wk.cell? ⟨g, pre.length * 7 + 6, none⟩ = some (.slice ub k.f3.length ud) := hcc 6 _ rfl
    have f6 : wk.frozen? ⟨g, pre.length * 7 + 6, none⟩ = false := hfr 6
    have kR : ∀ q, (((fun q => ((P q ∨ w.heap.size ≤ q) ∧ q ≠ b3) ∧ q ≠ b6) q ∧ q ≠ g) ∧ q ≠ b8) ∨ wd.heap.size ≤ q → ((fun q => ((P q ∨ w.heap.size ≤ q) ∧ q ≠ b3) ∧ q ≠ b6) q ∧ q ≠ b8) ∧ q ≠ g := fun q hq => hq.elim (fun h => ⟨⟨h.1.1, h.2⟩, h.1.2⟩) (fun hn => ⟨⟨⟨⟨.inr (Nat.le_trans HS.out hn), Nat.ne_of_gt (Nat.lt_of_lt_of_le HE3.out hn)⟩, Nat.ne_of_gt (Nat.lt_of_lt_of_le HE6.out hn)⟩, Nat.ne_of_gt (Nat.lt_of_lt_of_le HE8.out hn)⟩, Nat.ne_of_gt (Nat.lt_of_lt_of_le HEG.out hn)⟩)
    have MH := o_ wk _ k (A6 := Av) (c6 := cv) (Kd.jF qX.out).2.1 (Kd.Zk qX.out)
    have hseg := Kd.SX HN.out (pre.length : Int) (Int.natCast_nonneg _) hlt (bK := [.int .u8 k.f0, .int .i64 k.f1.f0, .int .i64 k.f1.f1, .int .i64 k.f1.f2, .int .i64 k.f1.f3, .int .i64 k.f2, .slice Av k.f3.length cv]) (j := 0) hcl hcc (show 0 + 7 ≤ 7 from by decide) (x' := k) MH kR
    rw [show l.set (pre.length : Int).toNat k = l from by rw [← HE.out, Int.toNat_natCast]; simp] at hseg
    obtain ⟨w9, FO⟩ : ∃ w9, w9 = wk.setCells g ((pre.length : Int).toNat * 7 + 0) [.int .u8 k.f0, .int .i64 k.f1.f0, .int .i64 k.f1.f1, .int .i64 k.f1.f2, .int .i64 k.f1.f3, .int .i64 k.f2, .slice Av k.f3.length cv] := ⟨_, rfl⟩
    replace hseg : Kd.N k26 26 w9 w.heap.size (fun q => (fun q => ((P q ∨ w.heap.size ≤ q) ∧ q ≠ b3) ∧ q ≠ b6) q ∧ q ≠ b8) (.slice (some ⟨g, 0, none⟩) l.length c1) l ∧ wk.grownBy w9 (some g) := by rw [FO]; exact hseg
    have UF := ae.mk (Kd.UO hseg.1)
    have NU := ae.mk (grown_below HB.out hseg.2 qW.out HB.out.size)
    have zY := ae.mk (dG dF.out hseg.2 (fun e_ => (HN.out.1 g rfl).1.1.2 (Option.some.inj e_).symm))
    have Oe := ae.mk (dG iF.out hseg.2 (fun e_ => (HN.out.1 g rfl).1.2 (Option.some.inj e_).symm))
    clear hseg MH kR hcl hcc hfr hM HN HB dF iF Kb8 hHeld qX
    refine JK (w1 := w9) (by rfl) rfl ?_ ?_
    ·rw [FO]; go_simp; rfl
    refine hK.out _ _ ?_
    clear hK K x0 x1 x2 x3 x4 x5 x6 f0 f1 f2 f3 f4 f5 f6 FO
    refine jf (fJ aj.out (by kernel_rfl)) ?_
    have hw := HW1.out
    go_wp2
    go_roundg rest.length
    case measure => exact Nat.lt_of_lt_of_le (Nat.lt_succ_self _) fM.out
    case rel => exact ⟨pre ++ [k], rest, (by rw [hw]), ⟨by rw [List.append_assoc]; exact HE.out⟩, Nat.le_refl _, UF, zY, Oe, NU⟩
def oQ.f (a0 a1 a2 a3 a4 a5 : Int) (l : List ai) : Option (Int × Int × Int × Int × Int × Int × List ai) := if sz ⟨a0, ⟨a1, a2, a3, a4⟩, a5, l⟩ ≤ 1000000 then some (a0, a1, a2, a3, a4, a5, l) else none
def AtN (w : World) (P : Nat → Prop) : Option ai → Ending → World → Prop
 | none, e, w' => ∃ A2 c2, e = .returned (.tuple #[.agg #[.int .u8 0, .int .i64 0, .int .i64 0, .int .i64 0, .int .i64 0, .int .i64 0, .slice A2 0 c2], .bool false]) ∧ Kd.N k26 26 w' w.heap.size (fun k => P k ∨ w.heap.size ≤ k) (.slice A2 0 c2) [] ∧ Below w.heap.size w w'
 | some z, e, w' => ∃ A2 c2, e = .returned (.tuple #[.agg #[.int .u8 z.f0, .int .i64 z.f1.f0, .int .i64 z.f1.f1, .int .i64 z.f1.f2, .int .i64 z.f1.f3, .int .i64 z.f2, .slice A2 z.f3.length c2], .bool true]) ∧ Kd.N k26 26 w' w.heap.size (fun k => P k ∨ w.heap.size ≤ k) (.slice A2 z.f3.length c2) z.f3 ∧ Below w.heap.size w w'
theorem aiq (c : ai) (path : List Int) (r : Option ai) (hr : qo c path = r) (hp : path.length ≤ 1048576) (hc : sz c ≤ 1000000) (b : Nat) (P : Nat → Prop) (A : Option Addr) (cc : Nat) (B : Option Addr) (cb : Nat) (w : World) (hv : Kd.V k26 26 w b P (.slice A c.f3.length cc) c.f3) (hi : Kd.C (Kd.int .i64) w B path.length path) :
  Calls Try.prog 91 #[.agg #[.int .u8 c.f0, .int .i64 c.f1.f0, .int .i64 c.f1.f1, .int .i64 c.f1.f2, .int .i64 c.f1.f3, .int .i64 c.f2, .slice A c.f3.length cc], .slice B path.length cb] w (AtN w P r) := by
 have S := ae.mk (St.start (ts := [(.slice A c.f3.length cc, c.f3)]) (b0 := w.heap.size) (w := w) (P := P) (fun t ht => by rw [List.mem_singleton.1 ht]; exact eY hv))
 have HI := ae.mk hi
 have gY := ae.mk hp
 have HZ := ae.mk hc
 have HR := ae.mk hr
 clear hi hp hc hr hv
 go_enter Try.func91, Try.ntmps91
 go_wp2_with (first
  | (refine boxS 2 _ 26 S ?_; clear S; intro b2 di S)
  | (refine boxS 4 _ 26 S ?_; clear S; intro b4 dS S)
  | fail)
 go_loopg [10] path.length (fun gg v10 wr => ∃ (pre rest : List Int) (z : ai) (Az : Option Addr) (cz : Nat), v10 = .int .i64 (pre.length : Int) ∧ ae (pre ++ rest = path) ∧ ae (qo z rest = r) ∧ ae (sz z ≤ 1000000) ∧ rest.length ≤ gg ∧ ae (St w P [(some b4, .cells #[.int .u8 0, .int .i64 0, .int .i64 0, .int .i64 0, .int .i64 0, .int .i64 0, .slice none 0 0] 26 (0, 0)), (some b2, .cells #[.int .u8 z.f0, .int .i64 z.f1.f0, .int .i64 z.f1.f1, .int .i64 z.f1.f2, .int .i64 z.f1.f3, .int .i64 z.f2, .slice Az z.f3.length cz] 26 (0, 0))] [] [(.slice Az z.f3.length cz, z.f3)] [] wr))
 case atStart => exact ⟨[], path, c, A, cc, rfl, ⟨rfl⟩, HR, HZ, Nat.le_refl _, S⟩
 case round =>
  clear S HR HZ
  obtain ⟨pre, rest, z, Az, cz, rfl, HE, HR, HZ, hgg, S⟩ := hrel
  cases rest with
  | nil =>
   have hr := HR.out
   simp only [qo] at hr
   subst hr
   clear HR
   have hE := HE.out
   rw [List.append_nil] at hE
   have hE2 := hE.symm
   subst hE2
   clear hE HE hgg
   have hlt : ¬ ((path.length : Int) < (path.length : Int)) := by omega
   obtain ⟨jr, kU, kV, kW, kX, kY, fD⟩ := St.dD S aY
   go_wp2_with (first
    | (refine iT (some 31) Try.func151 (Ij 1000000 z HZ.out (Nat.le_refl _) _ Az cz _ (S.out.tree _ (.head _))) ?_; rintro e gq ⟨v, rfl, h1, hb⟩; refine ⟨_, rfl, ?_⟩; obtain ⟨Ac, cc', ev⟩ := Kd.jG h1; subst ev; replace S := ae.mk (S.out.yx h1 hb); clear h1 hb; clear jr kU kV kW kX kY fD)
    | (refine gy 26 4 31 #[.int .u8 z.f0, .int .i64 z.f1.f0, .int .i64 z.f1.f1, .int .i64 z.f1.f2, .int .i64 z.f1.f3, .int .i64 z.f2, .slice Ac z.f3.length cc'] 0 7 S ?_; clear S; intro gz S)
    | fail)
   refine bodyPost_ret (eH rfl _ _ b4 26 _ (0, 0) _ rfl (S.out.blk _ (.head _) _ rfl) Try.underlying26 rfl (by kernel_rfl)) rfl ?_
   exact ⟨_, _, rfl, S.out.oV, S.out.below⟩
  | cons i is =>
   have hlt : (pre.length : Int) < (path.length : Int) := by rw [← HE.out, List.length_append, List.length_cons]; omega
   have afu : pre.length < path.length := by omega
   have hw1 : wrap64 ((pre.length : Int) + 1) = ((pre ++ [i]).length : Int) := by have := gY.out; rw [List.length_append, List.length_singleton]; unfold wrap64; omega
   have HW1 := ae.mk hw1
   have fM := ae.mk hgg
   have QL := ae.mk hlt
   have hrd : rd path (pre.length : Int) = i := by rw [← HE.out]; simp [rd, List.getD_eq_getElem?_getD]
   obtain ⟨Zq, ek, xi⟩ := Kd.jl (Kd.iE HI.out S.out.below) (pre.length : Int) (Int.natCast_nonneg _) hlt
   subst ek
   have Dk := ae.mk (fun (W : World) (h : Below w.heap.size w W) => (show W.cell? (Zq.add pre.length) = some (.int .i64 i) by have h2 := Kd.jl (Kd.iE HI.out h) (pre.length : Int) (Int.natCast_nonneg _) QL.out; obtain ⟨ad, e1, e2⟩ := h2; injection e1 with e1; subst e1; simp only [Int.toNat_natCast] at e2; rw [e2, hrd]))
   clear hrd xi hgg hw1
   have hr := HR.out
   simp only [qo] at hr
   by_cases h0 : i < 0
   case pos =>
    rw [if_pos (.inl h0)] at hr
    subst hr
    clear HR
    obtain ⟨MG, wP⟩ := nz (a := i) (b := 0) (by omega)
    have xi := Dk.out _ S.out.below
    go_wp2_with (first
     | (refine gy 26 4 23 #[.int .u8 0, .int .i64 0, .int .i64 0, .int .i64 0, .int .i64 0, .int .i64 0, .slice none 0 0] 0 7 S ?_; clear S; intro di S; clear xi)
     | fail)
    refine bodyPost_ret (eH rfl _ _ b4 26 _ (0, 0) _ rfl (S.out.blk _ (.head _) _ rfl) Try.underlying26 rfl (by kernel_rfl)) rfl ?_
    exact ⟨none, 0, rfl, Kd.oO _ _ _ _ _, S.out.below⟩
   by_cases h1 : i ≥ (z.f3.length : Int)
   case pos =>
    rw [if_pos (.inr h1)] at hr
    subst hr
    clear HR
    obtain ⟨MG, wP⟩ := lY (a := i) (b := 0) (by omega)
    have h1b : decide (i ≥ (z.f3.length : Int)) = true := decide_eq_true h1
    have h1c : decide ((z.f3.length : Int) ≤ i) = true := decide_eq_true h1
    have xi := Dk.out _ S.out.below
    have fD := (S.out.at aY 6).trans rfl
    go_wp2_with (first
     | (refine gy 26 4 23 #[.int .u8 0, .int .i64 0, .int .i64 0, .int .i64 0, .int .i64 0, .int .i64 0, .slice none 0 0] 0 7 S ?_; clear S; intro di S; clear xi fD)
     | fail)
    refine bodyPost_ret (eH rfl _ _ b4 26 _ (0, 0) _ rfl (S.out.blk _ (.head _) _ rfl) Try.underlying26 rfl (by kernel_rfl)) rfl ?_
    exact ⟨none, 0, rfl, Kd.oO _ _ _ _ _, S.out.below⟩
   rw [if_neg (fun h => h.elim h0 h1)] at hr
   obtain ⟨MG, wP⟩ := lY (a := i) (b := 0) (by omega)
   have h1b : decide (i ≥ (z.f3.length : Int)) = false := decide_eq_false h1
   have h1c : decide ((z.f3.length : Int) ≤ i) = false := decide_eq_false h1
   have hi0 : 0 ≤ i := by omega
   have hi1 : i < (z.f3.length : Int) := by omega
   obtain ⟨gK, ua, uc, ek, S1⟩ := S.out.elem (.head _) i hi0 hi1
   subst ek
   have hkz : sz (aA z.f3 i) ≤ 1000000 := by have h2 := tC (F5 z.f3 i hi0 hi1); have h3 := bV z; have := HZ.out; omega
   obtain ⟨k, hk⟩ : ∃ k, k = aA z.f3 i := ⟨_, rfl⟩
   rw [← hk] at S1 hr hkz
   replace S := ae.mk S1
   replace HR := ae.mk hr
   have ik := ae.mk hkz
   clear S1 hk hr hkz
   obtain ⟨gQ, iD, jd, iP, iQ, jL, jM⟩ := St.AQ S
   have xi := Dk.out _ S.out.below
   have fD := (S.out.at aY 6).trans rfl
   go_wp2_with (first
    | (refine uk 26 2 28 #[.int .u8 k.f0, .int .i64 k.f1.f0, .int .i64 k.f1.f1, .int .i64 k.f1.f2, .int .i64 k.f1.f3, .int .i64 k.f2, .slice ua k.f3.length uc] 0 7 S ?_; clear S; intro di S; clear gQ iD jd iP iQ jL jM xi fD)
    | fail)
   have hw1 := HW1.out
   go_wp2
   go_roundg is.length
   case measure => exact Nat.lt_of_lt_of_le (Nat.lt_succ_self _) fM.out
   case rel => exact ⟨pre ++ [i], is, k, ua, uc, (by rw [hw1]), ⟨by rw [List.append_assoc]; exact HE.out⟩, HR, ik, Nat.le_refl _, ⟨S.out.aX.aX.aX.aX.aX.aX.aX.ahl (.head _)⟩⟩
section
variable {W : World} {b : Nat} {P : Nat → Prop} {A : Option Addr} {cc cb : Nat}
theorem JZ (c : ai) (path : List Int) (z : ai) (hz : qo c path = some z) (hp : path.length ≤ 1048576) (hc : sz c ≤ 1000000) {B : Option Addr} (hV : Kd.V k26 26 W b P (.slice A c.f3.length cc) c.f3) (hi : Kd.C (Kd.int .i64) W B path.length path) (_ : path.length ≤ cb) :
  Calls Try.prog 91 #[.agg #[.int .u8 c.f0, .int .i64 c.f1.f0, .int .i64 c.f1.f1, .int .i64 c.f1.f2, .int .i64 c.f1.f3, .int .i64 c.f2, .slice A c.f3.length cc], .slice B path.length cb] W fun e w' => ∃ A2 c2, e = .returned (.tuple #[.agg #[.int .u8 z.f0, .int .i64 z.f1.f0, .int .i64 z.f1.f1, .int .i64 z.f1.f2, .int .i64 z.f1.f3, .int .i64 z.f2, .slice A2 z.f3.length c2], .bool true]) ∧ Kd.N k26 26 w' W.heap.size (fun k => P k ∨ W.heap.size ≤ k) (.slice A2 z.f3.length c2) z.f3 ∧ Below W.heap.size W w' := aiq c path (some z) hz hp hc b P A cc B cb W hV hi
end
section
variable {W : World} {b b' : Nat} {P P' : Nat → Prop} {A A' : Option Addr} {cc cc' : Nat}
theorem Kq (c : ai) (g : Bool) (hg : ∃ k, kL.f k c.f0 c.f1.f0 c.f1.f1 c.f1.f2 c.f1.f3 c.f2 c.f3 = some g) (hV : Kd.V k26 26 W b P (.slice A c.f3.length cc) c.f3) :
  Calls Try.prog 34 #[.agg #[.int .u8 c.f0, .int .i64 c.f1.f0, .int .i64 c.f1.f1, .int .i64 c.f1.f2, .int .i64 c.f1.f3, .int .i64 c.f2, .slice A c.f3.length cc]] W fun e w' => e = .returned (.bool g) ∧ Below W.heap.size W w' := by
 obtain ⟨k, hk⟩ := hg
 have h := Kd.kQ hV
 exact kL.calls k _ _ _ _ _ _ A cc c.f3 g W h.2.2 h.2.1 hk
theorem af5 (x y : ai) (hx : sz x ≤ 1048576) (hV : Kd.V k26 26 W b P (.slice A x.f3.length cc) x.f3) (hV' : Kd.V k26 26 W b' P' (.slice A' y.f3.length cc') y.f3) :
  Calls Try.prog 64 #[.agg #[.int .u8 x.f0, .int .i64 x.f1.f0, .int .i64 x.f1.f1, .int .i64 x.f1.f2, .int .i64 x.f1.f3, .int .i64 x.f2, .slice A x.f3.length cc], .agg #[.int .u8 y.f0, .int .i64 y.f1.f0, .int .i64 y.f1.f1, .int .i64 y.f1.f2, .int .i64 y.f1.f3, .int .i64 y.f2, .slice A' y.f3.length cc']] W fun e w' => e = .returned (.bool (w_ x y)) ∧ Below W.heap.size W w' := by
 exact af4 (sz x) x (Nat.le_refl _) hx y (fun _ => True) A cc A' cc' W (Kd.iq (eY hV) (fun _ _ => trivial)) (Kd.iq (eY hV') (fun _ _ => trivial))
theorem WY (x : ai) (_ : sz x ≤ 1048576) : w_ x x = true := (Ud (sz x)).1 x (Nat.le_refl _)
theorem af6 (x : ai) (hx : sz x ≤ 1048576) (hV : Kd.V k26 26 W b P (.slice A x.f3.length cc) x.f3) (hV' : Kd.V k26 26 W b' P' (.slice A' x.f3.length cc') x.f3) :
  Calls Try.prog 64 #[.agg #[.int .u8 x.f0, .int .i64 x.f1.f0, .int .i64 x.f1.f1, .int .i64 x.f1.f2, .int .i64 x.f1.f3, .int .i64 x.f2, .slice A x.f3.length cc], .agg #[.int .u8 x.f0, .int .i64 x.f1.f0, .int .i64 x.f1.f1, .int .i64 x.f1.f2, .int .i64 x.f1.f3, .int .i64 x.f2, .slice A' x.f3.length cc']] W fun e w' => e = .returned (.bool true) ∧ Below W.heap.size W w' := by
 have h := af5 x x hx hV hV'
 rw [WY x hx] at h
 exact h
end
section
variable {Pr : Program} {ops : Array Oper} {rest : List Oper} {op : Oper} {a : Act} {Q : Exit → Act → World → Prop} {w W : World} {P : Nat → Prop} {bs : List (Option Nat × Obj)} {ts : List (Value × List ai)} {ro : List (Addr × Value)}
end
theorem JO {l : List ai} {k : ai} (h : k ∈ l) : sz k ≤ dU l := by
 obtain ⟨p, q, e⟩ := List.append_of_mem h
 rw [e, pg, df]
 omega
theorem F7 {a b : dO} : oH a b = true ↔ a.f0 = b.f0 ∧ a.f1 = b.f1 ∧ a.f2 = b.f2 ∧ a.f3 = b.f3 := by
 unfold oH
 simp
theorem QB (ax X Y W H : Int) (hax : ax = 1 ∨ ax = 2) : ∀ (kids : List ai) (ns : List Int) (off : Int), kids.length = ns.length → uQ (fun k r => oH k.f1 r) kids (Ad ax X Y W H off ns) = true → ∀ x, x ∈ kids → aW (3 - ax) x.f1 = tX ax H W := by
 intro kids
 induction kids with
 | nil => intro _ _ _ _ x hx; cases hx
 | cons k ks ih =>
  intro ns off hl he x hx
  cases ns with
  | nil => simp at hl
  | cons n ns =>
   simp only [Ad, uQ, Bool.and_eq_true] at he
   rcases List.mem_cons.1 hx with rfl | hx
   ·obtain ⟨_, _, h2, h3⟩ := F7.1 he.1
    simp only [] at h2 h3
    rcases hax with rfl | rfl
    ·unfold aW tX at *
     simp at h3 ⊢
     exact h3
    ·unfold aW tX at *
     simp at h2 ⊢
     exact h2
   ·exact ih ns (off + n + 1) (by simpa using hl) he.2 x hx
theorem Eb {c : ai} (h1 : oM c = true) (hk : c.f0 = 2 ∨ c.f0 = 3) (hl : c.f3.length ≤ 20000) :
  (c.f3.map (fun k => aW (c.f0 - 1) k.f1)).sum + (c.f3.length : Int) - 1 = aW (c.f0 - 1) c.f1 ∧ ∀ x, x ∈ c.f3 → aW (3 - (c.f0 - 1)) x.f1 = aW (3 - (c.f0 - 1)) c.f1 := by
 unfold oM Ef at h1
 rw [show (c.f0 == 1) = false from by simp; omega, Bool.false_or] at h1
 simp only [Bool.and_eq_true] at h1
 obtain ⟨ht, hlen, hE⟩ := h1
 obtain ⟨hax, gp, gs, _⟩ := EY ht
 have e1 : AO c.f0 = c.f0 - 1 := by unfold AO; omega
 rw [e1] at hax gp gs
 have e2 : ku c = c.f3.map (fun k => aW (c.f0 - 1) k.f1) := by
  unfold ku
  apply List.map_congr_left
  intro k _
  unfold szK rX aW
  rcases hk with h | h
  ·rw [if_pos h, if_pos (by omega)]
  ·rw [if_neg (by omega), if_neg (by omega), if_pos (by omega)]
 have e3 : ∀ r : dO, tX (c.f0 - 1) r.f2 r.f3 = aW (c.f0 - 1) r ∧ tX (c.f0 - 1) r.f3 r.f2 = aW (3 - (c.f0 - 1)) r := by
  intro r
  rcases hk with h | h <;> simp [tX, aW, h]
 refine ⟨?_, fun x hx => ?_⟩
 ·rw [← e2, ← (e3 c.f1).1, ← gs]
  simp [ku]
 ·rw [gp] at hE
  rw [← (e3 c.f1).2]
  exact QB (c.f0 - 1) _ _ _ _ hax c.f3 (ku c) 0 (by simp [ku]) hE x hx
theorem tY {c : ai} (h : oh c = true) : lu c.f1 = true := by
 unfold oh at h
 simp only [Bool.and_eq_true] at h
 exact h.1.1.1
theorem ou {r : dO} (h : lu r = true) {ax : Int} (hax : ax = 1 ∨ ax = 2) : 1 ≤ aW ax r ∧ aW ax r ≤ 10000 := by
 have := xM.1 h
 unfold aW
 rcases hax with rfl | rfl
 ·rw [if_pos rfl]; omega
 ·rw [if_neg (by omega), if_pos rfl]; omega
theorem Df {c x : ai} (h : l_ c = true) (hx : x ∈ c.f3) : l_ x = true := by
 rw [u_, Bool.and_eq_true] at h
 exact List.all_eq_true.1 h.2 x hx
theorem Wu (ax m : Int) (a b : List ai) : nD ax m (a ++ b) = nD ax (nD ax m a) b := by
 induction a generalizing m with
 | nil => rw [List.nil_append, rV]
 | cons x xs ih => rw [List.cons_append, lX, lX, ih]
theorem YD {ax u : Int} : ∀ {l : List ai} {m : Int}, m ≤ u → (∀ x, x ∈ l → bZ ax x ≤ u) → nD ax m l ≤ u := by
 intro l
 induction l with
 | nil => intro m h _; rw [rV]; exact h
 | cons x xs ih =>
  intro m h hx
  rw [lX]
  exact ih (ZT h (hx x (by simp))) (fun y hy => hx y (by simp [hy]))
theorem P6 {ax : Int} : ∀ {l : List ai} {m : Int}, m ≤ nD ax m l := by
 intro l
 induction l with
 | nil => intro m; rw [rV]; exact Int.le_refl _
 | cons x xs ih =>
  intro m
  rw [lX]
  exact Int.le_trans (Wh m (bZ ax x)) ih
theorem acD {ax : Int} : ∀ {l : List ai}, (∀ x, x ∈ l → bZ ax x ≤ aW ax x.f1) → nT ax l ≤ (l.map (fun k => aW ax k.f1)).sum := by
 intro l
 induction l with
 | nil => intro _; rw [uZ]; exact Int.le_refl _
 | cons x xs ih =>
  intro hx
  rw [qG, List.map_cons, List.sum_cons]
  have h1 := hx x (by simp)
  have h2 := ih (fun y hy => hx y (by simp [hy]))
  omega
theorem Ec {ax : Int} (hax : ax = 1 ∨ ax = 2) : ∀ (N : Nat) (c : ai), sz c ≤ N → N ≤ 20000 → (iw c).all oh = true → 1 ≤ bZ ax c ∧ (l_ c = true → bZ ax c ≤ aW ax c.f1) := by
 intro N
 induction N with
 | zero => intro c h; rw [bV] at h; omega
 | succ N ih =>
  intro c hc hN hok
  have hs := bV c
  have hlen := ig c.f3
  have hk : ∀ x, x ∈ c.f3 → 1 ≤ bZ ax x ∧ (l_ x = true → bZ ax x ≤ aW ax x.f1) := fun x hx => by
   refine ih x ?_ (by omega) (KX hok hx)
   have := JO hx
   omega
  rw [qx]
  rcases yQ (oG hok) with ⟨h1, h2⟩ | ⟨h1, h2⟩
  ·rw [if_pos h1]
   exact ⟨Int.le_refl _, fun _ => (ou (tY (oG hok)) hax).1⟩
  ·rw [if_neg (by omega)]
   have hsum : ∀ l : List ai, (∀ x, x ∈ l → 1 ≤ bZ ax x) → (l.length : Int) ≤ nT ax l := by
    intro l
    induction l with
    | nil => intro _; rw [uZ]; simp
    | cons x xs ihl =>
     intro h
     have a1 := h x (by simp)
     have a2 := ihl (fun y hy => h y (by simp [hy]))
     rw [qG, List.length_cons]
     omega
   have afo := fun (ht : l_ c = true) => Eb (c := c) (by rw [u_, Bool.and_eq_true] at ht; exact ht.1) h1 (by omega)
   cases ha : fK ax c.f0 with
   | true =>
    have e : c.f0 - 1 = ax := by
     unfold fK at ha
     simp at ha
     omega
    simp only [if_true]
    refine ⟨by have := hsum c.f3 (fun x hx => (hk x hx).1); omega, fun ht => ?_⟩
    obtain ⟨g1, _⟩ := afo ht
    rw [e] at g1
    have := acD (ax := ax) (l := c.f3) (fun x hx => (hk x hx).2 (Df ht hx))
    omega
   | false =>
    have e : 3 - (c.f0 - 1) = ax := by
     unfold fK at ha
     simp at ha
     omega
    simp only [Bool.false_eq_true, if_false]
    refine ⟨?_, fun ht => ?_⟩
    ·cases hl : c.f3 with
     | nil => rw [hl] at h2; simp at h2
     | cons x xs =>
      have := (hk x (by rw [hl]; simp)).1
      rw [lX]
      exact Int.le_trans this (Int.le_trans (Wi 0 _) P6)
    ·obtain ⟨_, g2⟩ := afo ht
     rw [e] at g2
     have := ou (tY (oG hok)) hax
     exact YD (by omega) (fun x hx => by
      have := (hk x hx).2 (Df ht hx)
      rw [g2 x hx] at this
      exact this)
section
variable {W : World} {b : Nat} {P : Nat → Prop} {A : Option Addr} {cc : Nat}
theorem vM (c : ai) (hz : sz c ≤ 1048576) (h1 : Kd.C k26 W A 1 [c]) (h2 : 1 ≤ cc) : Calls Try.prog 148 #[.slice A 1 cc] W fun e w' => e = .returned (.bool (dB c)) ∧ Below W.heap.size W w' := by
 have h := Qr [c] (fun x hx => by rw [List.mem_singleton.1 hx]; exact hz) A cc W h1 h2
 simpa using h
theorem mf {c : ai} {v : Bool} {f : FuncId} {args : Array Value} (h : dB c = v) (hc : Calls Try.prog f args W fun e w' => e = .returned (.bool (dB c)) ∧ Below W.heap.size W w') : Calls Try.prog f args W fun e w' => e = .returned (.bool v) ∧ Below W.heap.size W w' := by
 rw [h] at hc
 exact hc
theorem Ep (c : ai) (hz : sz c ≤ 1048576) (hV : Kd.V k26 26 W b P (.slice A c.f3.length cc) c.f3) :
  Calls Try.prog 84 #[.agg #[.int .u8 c.f0, .int .i64 c.f1.f0, .int .i64 c.f1.f1, .int .i64 c.f1.f2, .int .i64 c.f1.f3, .int .i64 c.f2, .slice A c.f3.length cc]] W fun e w' => e = .returned (.bool (dB c)) ∧ Below W.heap.size W w' := by
 obtain ⟨k, hk⟩ := (Qj c hz).rounds
 have h := Kd.kQ hV
 exact oI.calls k _ _ _ _ _ _ A cc c.f3 _ W h.2.2 h.2.1 hk
theorem af' (r : dO) (ax : Int) : Calls Try.prog 98 #[.agg #[.int .i64 r.f0, .int .i64 r.f1, .int .i64 r.f2, .int .i64 r.f3], .int .u8 ax] W fun e w' => e = .returned (.int .i64 (aW ax r)) ∧ Below W.heap.size W w' :=
 qy.calls r.f0 r.f1 r.f2 r.f3 ax _ W (Nb r ax)
end
section
variable {Pr : Program} {ops : Array Oper} {rest : List Oper} {op : Oper} {a : Act} {Q : Exit → Act → World → Prop} {w W : World} {P P' : Nat → Prop} {bs : List (Option Nat × Obj)} {ow : List (Value × List ai)} {ts : List (Value × List ai)} {ro : List (Addr × Value)}
theorem vG {N : Tmp} (hd : op.dst = some N) (hgd : op.guard = none) (x : ai) {A : Option Addr} {c b : Nat} (S : St w P bs ow ts ro W) (hV : Kd.V k26 26 W b P' (.slice A x.f3.length c) x.f3)
  (hrun : (execOp a.eval op).run Pr W = .ok (.value (.slice (some ⟨W.heap.size, 0, none⟩) 1 1)) (W.alloc (.cells (lN x A c).toArray 26)))
  (h : ∀ A1 c1 w1, St w P bs ow ts ro w1 → 1 ≤ c1 → Kd.C k26 w1 A1 1 [x] → wpList Pr ops Q rest (a.put op.dst (.slice A1 1 c1)) w1) : wpList Pr ops Q (op :: rest) a W := by
 obtain ⟨_, hl, hF⟩ := Kd.C_ hV
 refine Kd.yV k26 (w0 := W) W.heap.size 26 hgd hd (xs := [x]) (inner := lN x A c) (ok := fun _ => True) (gU := P') hrun (dm.c7 (o_ W P' x hl hF) (dm.none _ _)) (fun _ _ => trivial) trivial (Below.refl _ _) (Nat.le_refl _) (by simp) ?_
 intro v1 w1 hN _ hg _
 obtain ⟨A1, c1, rfl⟩ := Kd.jG hN
 exact h A1 c1 w1 (S.call (rD hg)) (Kd.jF hN).2.1 (Kd.jF hN).2.2
end
abbrev Zl (w : World) (P : Nat → Prop) (z : ai) (n : Int) (e : Ending) (w' : World) : Prop := ∃ A c, e = .returned (.tuple #[.agg #[.int .u8 z.f0, .int .i64 z.f1.f0, .int .i64 z.f1.f1, .int .i64 z.f1.f2, .int .i64 z.f1.f3, .int .i64 z.f2, .slice A z.f3.length c], .int .i64 n]) ∧ Kd.N k26 26 w' w.heap.size (fun k => P k ∨ w.heap.size ≤ k) (.slice A z.f3.length c) z.f3 ∧ Below w.heap.size w w'
noncomputable def rq (ax : Int) (c : ai) : Bool := !dB c || (ax != 1 && ax != 2)
noncomputable def yc (ax : Int) (c : ai) (b : Int) : Bool := decide (b < wrap64 (-(aH ax c))) || decide (b > wrap64 (10000 - aW ax ⟨0, 0, wrap64 (c.f1.f0 + c.f1.f2), wrap64 (c.f1.f1 + c.f1.f3)⟩))
noncomputable def aN (ax : Int) (c : ai) (b : Int) : Int := if rq ax c = true then 1 else if yc ax c b = true then 7 else 0
noncomputable def aZ (ax : Int) (c : ai) (b : Int) : ai := if rq ax c = true then z26 else if yc ax c b = true then z26 else bD (dQ ax c b) c.f1.f0 c.f1.f1
theorem adZ {ax : Int} {c : ai} {b : Int} (h1 : rq ax c = false) (h2 : yc ax c b = false) : dB c = true ∧ (ax = 1 ∨ ax = 2) ∧ sz c ≤ 20000 ∧ -10000 ≤ b ∧ b ≤ 10000 ∧ -(aH ax c) ≤ b ∧ aH ax c = aW ax c.f1 - bZ ax c ∧ aW ax c.f1 + b ≤ 10000 := by
 unfold rq at h1
 simp only [Bool.or_eq_false_iff, Bool.not_eq_false', Bool.and_eq_false_iff, bne_eq_false_iff_eq] at h1
 obtain ⟨ht, hax⟩ := h1
 have hm := lL ht
 have hs := o6 hm
 have hB : l_ c = true := by
  unfold dB at ht
  simp only [Bool.and_eq_true] at ht
  exact ht.2
 have f := (Ec hax (sz c) c (Nat.le_refl _) hs (pK hm)).2 hB
 have f1 := (Ec hax (sz c) c (Nat.le_refl _) hs (pK hm)).1
 have hr := tY (oG (pK hm))
 have r := ou hr hax
 have hg : aH ax c = aW ax c.f1 - bZ ax c := by
  unfold aH
  rw [if_pos ⟨hax, ht⟩]
  unfold wrap64
  omega
 unfold yc at h2
 simp only [Bool.or_eq_false_iff, decide_eq_false_iff_not] at h2
 have hw1 : wrap64 (-(aH ax c)) = -(aH ax c) := by rw [hg]; unfold wrap64; omega
 have hq : 0 ≤ c.f1.f0 ∧ 0 ≤ c.f1.f1 ∧ c.f1.f0 + c.f1.f2 ≤ 10000 ∧ c.f1.f1 + c.f1.f3 ≤ 10000 ∧ 1 ≤ c.f1.f2 ∧ 1 ≤ c.f1.f3 := by
  unfold lu qc at hr
  simp only [Bool.and_eq_true, decide_eq_true_eq] at hr
  omega
 have he : aW ax ⟨0, 0, wrap64 (c.f1.f0 + c.f1.f2), wrap64 (c.f1.f1 + c.f1.f3)⟩ = (if ax = 1 then c.f1.f0 else c.f1.f1) + aW ax c.f1 := by
  unfold aW
  rcases hax with rfl | rfl
  ·simp only [if_true]; unfold wrap64; omega
  ·simp only [show ¬ ((2 : Int) = 1) by decide, if_false, if_true]; unfold wrap64; omega
 rw [hw1, he] at h2
 have hw2 : wrap64 (10000 - ((if ax = 1 then c.f1.f0 else c.f1.f1) + aW ax c.f1)) = 10000 - ((if ax = 1 then c.f1.f0 else c.f1.f1) + aW ax c.f1) := by unfold wrap64; split <;> omega
 rw [hw2] at h2
 refine ⟨ht, hax, hs, ?_, ?_, ?_, hg, ?_⟩ <;> (split at h2 <;> omega)
def zI.T6 : Bool × List (List Nat × List Nat) := (true, [([], []), ([0], [0]), ([], []), ([1, 2], [1, 2]), ([3], [3]), ([], []), ([], []), ([6], [6]), ([4, 5, 7], [4, 5, 7]), ([8], [8]), ([9], [9]), ([9], [9]), ([], []), ([12, 10, 8, 0, 1, 2, 3, 4, 5, 6, 7, 8, 9, 10, 12], [10, 12]), ([11, 13, 0, 1, 2, 3, 4, 5, 6, 7, 8, 9, 10, 11, 12, 13], [11])])
def zI.B6 : List Nat := [0, 1, 0, 7, 15, 0, 0, 64, 255, 511, 1023, 1023, 0, 6143, 16383]
theorem zI.tab6 : iM .any (opsOf Try.f102 6) = zI.T6 := by kernel_rfl
theorem zI.CG : gZ zI.T6.2 zI.B6 = true := by kernel_rfl
def pO (kid : ai) : List Int → ai → Option ai
 | [], _ => some kid
 | i :: is, c => if i < 0 ∨ i ≥ (c.f3.length : Int) then none else match pO kid is (aA c.f3 i) with
  | none => none
  | some k => some ⟨c.f0, c.f1, c.f2, c.f3.set i.toNat k⟩
abbrev Xy (w : World) (P : Nat → Prop) : Option ai → Ending → World → Prop
 | none, e, w' => e = .returned (.tuple #[.agg #[.int .u8 0, .int .i64 0, .int .i64 0, .int .i64 0, .int .i64 0, .int .i64 0, .slice none 0 0], .bool false]) ∧ Below w.heap.size w w'
 | some z, e, w' => ∃ A c, e = .returned (.tuple #[.agg #[.int .u8 z.f0, .int .i64 z.f1.f0, .int .i64 z.f1.f1, .int .i64 z.f1.f2, .int .i64 z.f1.f3, .int .i64 z.f2, .slice A z.f3.length c], .bool true]) ∧ Kd.N k26 26 w' w.heap.size (fun k => P k ∨ w.heap.size ≤ k) (.slice A z.f3.length c) z.f3 ∧ Below w.heap.size w w'
def zJ.T5 : Bool × List (List Nat × List Nat) := (true, [([], []), ([0], [0]), ([], []), ([2], [2]), ([3], [3]), ([1, 4], [1, 4]), ([5], [5]), ([], []), ([], []), ([8], [8]), ([6, 7, 9], [6, 7, 9]), ([10], [10]), ([11], [11]), ([11], [11]), ([], []), ([14, 12, 10, 0, 1, 2, 3, 4, 5, 6, 7, 8, 9, 10, 11, 12, 14], [12, 14]), ([13, 15, 0, 1, 2, 3, 4, 5, 6, 7, 8, 9, 10, 11, 12, 13, 14, 15], [13])])
def zJ.B5 : List Nat := [0, 1, 0, 4, 12, 31, 63, 0, 0, 256, 1023, 2047, 4095, 4095, 0, 24575, 65535]
theorem zJ.Gh : iM .any (opsOf Try.f103 5) = zJ.T5 := by kernel_rfl
theorem zJ.CE : gZ zJ.T5.2 zJ.B5 = true := by kernel_rfl
def zK.T9 : Bool × List (List Nat × List Nat) := (true, [([], []), ([], []), ([1], [1]), ([2], [2]), ([], []), ([0, 3, 0, 1, 2, 3, 4], [0, 3]), ([5, 4, 0, 1, 2, 3, 4], [4, 5])])
def zK.B9 : List Nat := [0, 0, 2, 6, 0, 31, 63]
theorem zK.xw : iM .any (opsOf Try.f103 9) = zK.T9 := by kernel_rfl
theorem zK.sF : gZ zK.T9.2 zK.B9 = true := by kernel_rfl
abbrev S9 (w : World) (P : Nat → Prop) : Option ai → Ending → World → Prop
 | none, e, w' => e = .returned (.tuple #[.agg #[.int .u8 0, .int .i64 0, .int .i64 0, .int .i64 0, .int .i64 0, .int .i64 0, .slice none 0 0], .bool false]) ∧ Below w.heap.size w w'
 | some z, e, w' => ∃ A c, e = .returned (.tuple #[.agg #[.int .u8 z.f0, .int .i64 z.f1.f0, .int .i64 z.f1.f1, .int .i64 z.f1.f2, .int .i64 z.f1.f3, .int .i64 z.f2, .slice A z.f3.length c], .bool true]) ∧ Kd.V k26 26 w' w.heap.size (fun k => P k ∨ w.heap.size ≤ k) (.slice A z.f3.length c) z.f3 ∧ Below w.heap.size w w'
theorem Uh : ∀ (l : List ai) (n : Nat) (k : ai) (m : Nat), n < l.length → sz k ≤ sz (l.getD n z26) + m → dU (l.set n k) ≤ dU l + m := by
 intro l
 induction l with
 | nil => intro n k m h; simp at h
 | cons x xs ih =>
  intro n k m h hk
  cases n with
  | zero => rw [List.set_cons_zero, df, df]; simp only [List.getD_cons_zero] at hk; omega
  | succ n => rw [List.set_cons_succ, df, df]; have := ih n k m (by simpa using h) (by simpa using hk); omega
theorem IM (kid : ai) : ∀ (path : List Int) (c x : ai), pO kid path c = some x → sz x ≤ sz c + sz kid := by
 intro path
 induction path with
 | nil => intro c x h; simp only [pO] at h; rw [← Option.some.inj h]; omega
 | cons i is ih =>
  intro c x h
  simp only [pO] at h
  split at h
  ·cases h
  ·rename_i hi
   cases hp : pO kid is (aA c.f3 i) with
   | none => rw [hp] at h; cases h
   | some k =>
    rw [hp] at h
    have h := Option.some.inj h
    subst h
    have h1 := ih _ _ hp
    have h2 := Uh c.f3 i.toNat k (sz kid) (by omega) h1
    rw [bV, bV c]
    show 1 + dU (c.f3.set i.toNat k) ≤ _
    omega
section
variable {Pr : Program} {ops : Array Oper} {rest : List Oper} {op : Oper} {a : Act} {Q : Exit → Act → World → Prop} {w W : World} {P : Nat → Prop} {bs : List (Option Nat × Obj)} {ow : List (Value × List ai)} {ts : List (Value × List ai)} {ro : List (Addr × Value)}
theorem YA (N : Tmp) (y : Int) (S : ae (St w P bs ow ts ro W)) (h : ∀ A c o w1, ae (St w P (((Value.slice A [y].length c).ownBlock, o) :: bs) ow ts ro w1) → ae (KR (Kd.int .i64) 3 w.heap.size (.slice A [y].length c) [y] o) → wpList Pr ops Q rest (a.put op.dst (.slice A [y].length c)) w1)
  (hd : op.dst = some N := by rfl) (hgd : op.guard = none := by rfl) (hrun : (execOp a.eval op).run Pr W = .ok (.value (.slice (some ⟨W.heap.size, 0, none⟩) 1 1)) (W.alloc (.cells #[.int .i64 y] 3)) := by first | (go_simp; done) | (go_simp; rfl)) : wpList Pr ops Q (op :: rest) a W :=
 Kd.wW (Kd.int .i64) (w0 := W) W.heap.size 3 hgd hd (xs := [y]) (inner := [.int .i64 y]) (ok := fun _ => True) (gU := fun _ => True) hrun (dm.one (show Kd.M (Kd.int .i64) _ _ _ y [.int .i64 y] from rfl) (dm.none _ _)) (fun _ hk => hk) trivial (Below.refl _ _) (Nat.le_refl _) (by simp) (fun v1 w1 hR hb hg _ => by
  obtain ⟨A, c, rfl⟩ := Kd.iG hR
  obtain ⟨o, S1, HI⟩ := S.out.IU (d := Kd.int .i64) (e := 3) rfl hR (rD hg)
  exact h A c o w1 ⟨S1⟩ ⟨HI⟩)
end
abbrev AY (W : World) (p : List Int) (t : Bool) (e : Ending) (w' : World) : Prop := ∃ A c, e = .returned (.tuple #[.slice A p.length c, .bool t]) ∧ (Kd.int .i64).R 3 w' W.heap.size (fun _ => True) (.slice A p.length c) p ∧ Below W.heap.size W w'
theorem Vg {id : Int} {k : ai} {r : Option (List Int)} {args : Array Value} {W : World} (h : iR id k = r) (hc : Calls Try.prog 90 args W (AY W ((iR id k).getD []) (iR id k).isSome)) : Calls Try.prog 90 args W (AY W (r.getD []) r.isSome) := by
 rw [h] at hc
 exact hc
theorem acz (id : Int) : ∀ (N : Nat) (c : ai), sz c ≤ N → N ≤ 1000000 → ∀ (b : Nat) (P : Nat → Prop) (A : Option Addr) (cc : Nat) (w : World), Kd.V k26 26 w b P (.slice A c.f3.length cc) c.f3 →
  Calls Try.prog 90 #[.agg #[.int .u8 c.f0, .int .i64 c.f1.f0, .int .i64 c.f1.f1, .int .i64 c.f1.f2, .int .i64 c.f1.f3, .int .i64 c.f2, .slice A c.f3.length cc], .int .i64 id] w (AY w ((iR id c).getD []) (iR id c).isSome) := by
 intro N
 induction N with
 | zero => intro c h; rw [bV] at h; omega
 | succ N ih =>
  intro c hc hN b P A cc w hv
  have hsz := bV c
  have hlen := ig c.f3
  have S := ae.mk (St.start (ts := [(.slice A c.f3.length cc, c.f3)]) (b0 := w.heap.size) (w := w) (P := P) (fun t ht => by rw [List.mem_singleton.1 ht]; exact eY hv))
  have gY := ae.mk (show c.f3.length ≤ 1000000 by omega)
  have IH := ae.mk fun (k : ai) (hk : k ∈ c.f3) A cc w {b P} h => ih k (by have := tC hk; omega) (by omega) b P A cc w h
  have HQS := ae.mk fun (k : ai) (hk : k ∈ c.f3) q (h : iR id k = some q) => (show q.length ≤ 1000000 by have := (D7 id (sz k)).1 k (Nat.le_refl _) q h; have := tC hk; omega)
  rw [D6]
  obtain ⟨ck, ⟨cx, cy, cw, ch⟩, ay, l⟩ := c
  simp only [] at S gY IH HQS ⊢
  clear ih hc hN hv hsz hlen
  by_cases hq : ck = 1 ∧ ay = id
  case pos =>
   rw [if_pos hq]
   obtain ⟨h1, h2⟩ := hq
   obtain ⟨h1a, h1b, h1d⟩ := rU (a := ck) (b := 1) (by omega)
   obtain ⟨h2a, h2b, h2d⟩ := rU (a := ay) (b := id) (by omega)
   clear h1 h2
   go_enter Try.func90, Try.ntmps90
   go_wp2_with (first
    | (refine boxS 2 _ 26 S ?_; clear S; intro b2 di S; have jr := (S.out.at (.head _) 0).trans rfl; have kY := (S.out.at (.head _) 5).trans rfl)
    | (refine iI 18 rfl ?_; refine nO (Kd.int .i64) 3 rfl 18 S ?_; clear S; intro An cn on dS S AA; clear jr kY)
    | fail)
   go_ret2
   exact ⟨_, _, rfl, S.out.IG AA.out (.head _), S.out.below⟩
  rw [if_neg hq]
  have hw : ((ck == 1) = true ∧ decide (ck = 1) = true ∧ (ay == id) = false ∧ decide (ay = id) = false) ∨ ((ck == 1) = false ∧ decide (ck = 1) = false) := by
   by_cases h1 : ck = 1
   ·exact .inl ⟨beq_iff_eq.mpr h1, decide_eq_true h1, beq_eq_false_iff_ne.mpr (fun h => hq ⟨h1, h⟩), decide_eq_false (fun h => hq ⟨h1, h⟩)⟩
   ·exact .inr ⟨beq_eq_false_iff_ne.mpr h1, decide_eq_false h1⟩
  obtain ⟨R, hR⟩ : ∃ R, R = qp id 0 l := ⟨_, rfl⟩
  rw [← hR]
  have HR := ae.mk hR.symm
  clear hq hR
  rcases hw with ⟨ha, hb, hc, hd⟩ | ⟨ha, hb⟩
  all_goals
   go_enter Try.func90, Try.ntmps90
   go_wp2_with (first
    | (refine boxS 2 _ 26 S ?_; clear S; intro b2 di S; have jr := (S.out.at (.head _) 0).trans rfl; have kY := (S.out.at (.head _) 5).trans rfl; have fD := (S.out.at (.head _) 6).trans rfl)
    | fail)
   clear jr kY fD
   go_loopg [22] l.length (fun gg v22 wr => ∃ (pre rest : List ai), v22 = .int .i64 (pre.length : Int) ∧ ae (pre ++ rest = l) ∧ ae (qp id pre.length rest = R) ∧ rest.length ≤ gg ∧ ae (St w P [(some b2, .cells #[.int .u8 ck, .int .i64 cx, .int .i64 cy, .int .i64 cw, .int .i64 ch, .int .i64 ay, .slice A l.length cc] 26 (0, 0))] [] [(.slice A l.length cc, l)] [] wr))
   case atStart => exact ⟨[], l, rfl, ⟨rfl⟩, HR, Nat.le_refl _, S⟩
   case round =>
    clear S HR
    obtain ⟨pre, rest, rfl, HE, HR, hgg, S⟩ := hrel
    cases rest with
    | nil =>
     have hr := HR.out
     rw [uS] at hr
     replace HR := ae.mk hr.symm
     clear hr
     have hE := HE.out
     rw [List.append_nil] at hE
     have hE2 := hE.symm
     subst hE2
     clear hE HE hgg
     have hlt : ¬ ((l.length : Int) < (l.length : Int)) := by omega
     go_wp2_with (first
      | (refine iI 41 rfl ?_; refine nO (Kd.int .i64) 3 rfl 41 S ?_; clear S; intro An cn on dS S AA)
      | fail)
     go_ret2
     rw [HR.out]
     exact ⟨_, _, rfl, S.out.IG AA.out (.head _), S.out.below⟩
    | cons k rest =>
     have hk : k ∈ l := by rw [← HE.out]; simp
     have hlt : (pre.length : Int) < (l.length : Int) := by rw [← HE.out, List.length_append, List.length_cons]; omega
     have hw1 : wrap64 ((pre.length : Int) + 1) = ((pre ++ [k]).length : Int) := by have := gY.out; rw [List.length_append, List.length_singleton]; unfold wrap64; omega
     have HW1 := ae.mk hw1
     have fM := ae.mk hgg
     have HK := ae.mk hk
     have yD := ae.mk (show pre.length ≤ 1048576 by have := gY.out; omega)
     obtain ⟨gK, ua, uc, ek, S1⟩ := S.out.elem (.head _) (pre.length : Int) (Int.natCast_nonneg _) hlt
     subst ek
     have hrd : aA l (pre.length : Int) = k := by rw [← HE.out]; exact kE pre k rest
     rw [hrd] at S1
     simp only [Int.toNat_natCast] at S1
     replace S := ae.mk S1
     clear S1 hrd hk hgg hw1
     cases hf : iR id k with
     | none =>
      have HF := ae.mk hf
      have hr := HR.out
      rw [qw, hf] at hr
      replace HR := ae.mk (show qp id (pre ++ [k]).length rest = R by rw [List.length_append]; exact hr)
      clear hf hr
      obtain ⟨gQ, iD, jd, iP, iQ, jL, jM⟩ := St.AQ S
      have fD := (S.out.at (.head _) 6).trans rfl
      go_wp2_with (first
       | (refine iT (some 32) Try.func90 (Vg HF.out (IH.out k HK.out ua uc _ (S.out.tree _ (.head _)))) ?_; rintro e di ⟨Aq, cq, rfl, h1, hb⟩; refine ⟨_, rfl, ?_⟩; obtain ⟨oq, S1, hI⟩ := S.out.IU (d := Kd.int .i64) (e := 3) rfl h1 hb; replace S := ae.mk S1; have oC := ae.mk hI; clear S1 hI h1 hb; clear gQ iD jd iP iQ jL jM fD)
       | fail)
      have hw1 := HW1.out
      go_wp2
      go_roundg rest.length
      case measure => exact Nat.lt_of_lt_of_le (Nat.lt_succ_self _) fM.out
      case rel => exact ⟨pre ++ [k], rest, (by rw [hw1]), ⟨by rw [List.append_assoc]; exact HE.out⟩, HR, Nat.le_refl _, ⟨S.out.dV.bQ.aX.aX.aX.aX.aX.aX.aX⟩⟩
     | some q =>
      have HF := ae.mk hf
      have HQL := ae.mk (HQS.out k HK.out q hf)
      have hr := HR.out
      rw [qw, hf] at hr
      replace HR := ae.mk (show R = some ((pre.length : Int) :: q) from hr.symm)
      clear hf hr
      obtain ⟨gQ, iD, jd, iP, iQ, jL, jM⟩ := St.AQ S
      have fD := (S.out.at (.head _) 6).trans rfl
      go_wp2_with (first
       | (refine iT (some 32) Try.func90 (Vg HF.out (IH.out k HK.out ua uc _ (S.out.tree _ (.head _)))) ?_; rintro e di ⟨Aq, cq, rfl, h1, hb⟩; refine ⟨_, rfl, ?_⟩; obtain ⟨oq, S1, hI⟩ := S.out.IU (d := Kd.int .i64) (e := 3) rfl h1 hb; replace S := ae.mk S1; have oC := ae.mk hI; clear S1 hI h1 hb; clear gQ iD jd iP iQ jL jM fD)
       | (refine iI 37 rfl ?_; refine YA 37 (pre.length : Int) S ?_; clear S; intro An cn on dS S AA)
       | (refine iI 39 rfl ?_; at_builtin; refine OG (Kd.int .i64) 3 rfl 37 38 41 (.int .i64 0) 8 Try.underlying41 info3 rfl (by decide) (by decide) (by decide) S AA q (Xx oC.out S.out aY).1 (fun _ _ _ _ _ h => h) (by have := HQL.out; simp only [List.length_cons, List.length_nil]; omega) ?_; clear S AA; intro An2 cn2 on2 gq S AA)
       | fail)
      go_ret2
      rw [HR.out]
      exact ⟨_, _, rfl, S.out.IG AA.out (.head _), S.out.below⟩
def ahs.T3 : Bool × List (List Nat × List Nat) := (true, [([], []), ([0], [0]), ([1], [1]), ([2], [2]), ([3], [3]), ([4], [4]), ([5, 4], [4, 5]), ([6, 4], [4, 6]), ([4], [4]), ([8, 4], [4, 8]), ([9, 4], [4, 9]), ([7, 10, 4], [4, 7, 10]), ([4, 11], [4, 11])])
def ahs.B3 : List Nat := [0, 1, 3, 7, 15, 31, 63, 127, 31, 287, 799, 2047, 4095]
def zi.T5 : Bool × List (List Nat × List Nat) := (true, [([], []), ([0], [0]), ([], []), ([2], [2]), ([3], [3]), ([1, 4], [1, 4]), ([5], [5]), ([], []), ([7], [7]), ([6, 8], [6, 8]), ([9], [9]), ([9], [9]), ([10, 9, 0, 1, 2, 3, 4, 5, 6, 7, 8, 9, 10, 11], [10]), ([11, 12, 0, 1, 2, 3, 4, 5, 6, 7, 8, 9, 10, 11, 12], [11])])
def zi.B5 : List Nat := [0, 1, 0, 4, 12, 31, 63, 0, 128, 511, 1023, 1023, 4095, 8191]
theorem zi.Gh : iM .any (opsOf Try.f92 5) = zi.T5 := by kernel_rfl
theorem zi.CE : gZ zi.T5.2 zi.B5 = true := by kernel_rfl
def AtV (w : World) (P : Nat → Prop) : Option ai → Ending → World → Prop
 | none, e, w' => ∃ A2 c2, e = .returned (.tuple #[.agg #[.int .u8 0, .int .i64 0, .int .i64 0, .int .i64 0, .int .i64 0, .int .i64 0, .slice A2 ([] : List ai).length c2], .bool false]) ∧ Kd.V k26 26 w' w.heap.size (fun k => P k ∨ w.heap.size ≤ k) (.slice A2 ([] : List ai).length c2) ([] : List ai) ∧ Below w.heap.size w w'
 | some z, e, w' => ∃ A2 c2, e = .returned (.tuple #[.agg #[.int .u8 z.f0, .int .i64 z.f1.f0, .int .i64 z.f1.f1, .int .i64 z.f1.f2, .int .i64 z.f1.f3, .int .i64 z.f2, .slice A2 z.f3.length c2], .bool true]) ∧ Kd.V k26 26 w' w.heap.size (fun k => P k ∨ w.heap.size ≤ k) (.slice A2 z.f3.length c2) z.f3 ∧ Below w.heap.size w w'
theorem air : ∀ (is : List Int) (c : ai) (P : Nat → Prop) (A : Option Addr) (cc : Nat) (B : Option Addr) (cb : Nat) (w : World), Kd.V k26 26 w w.heap.size P (.slice A c.f3.length cc) c.f3 → Kd.C (Kd.int .i64) w B is.length is → is.length ≤ cb →
  Calls Try.prog 92 #[.agg #[.int .u8 c.f0, .int .i64 c.f1.f0, .int .i64 c.f1.f1, .int .i64 c.f1.f2, .int .i64 c.f1.f3, .int .i64 c.f2, .slice A c.f3.length cc], .slice B is.length cb] w (AtV w P (qo c is)) := by
 intro is
 induction is with
 | nil =>
  intro c P A cc B cb w hv hi hb
  show Calls Try.prog 92 #[.agg #[.int .u8 c.f0, .int .i64 c.f1.f0, .int .i64 c.f1.f1, .int .i64 c.f1.f2, .int .i64 c.f1.f3, .int .i64 c.f2, .slice A c.f3.length cc], .slice B 0 cb] w (AtV w P (some c))
  have S := ae.mk (St.start (ts := [(.slice A c.f3.length cc, c.f3)]) (b0 := w.heap.size) (w := w) (P := P) (fun t ht => by rw [List.mem_singleton.1 ht]; exact hv))
  clear hv hi hb
  obtain ⟨ck, ⟨cx, cy, cw, ch⟩, ay, l⟩ := c
  simp only [] at S ⊢
  go_enter Try.func92, Try.ntmps92
  go_wp2_with (first | (refine boxS 2 _ 26 S ?_; clear S; intro b2 di S) | (refine boxS 4 _ 26 S ?_; clear S; intro b4 dS S; obtain ⟨jr, kU, kV, kW, kX, kY, fD⟩ := St.dD S aY) | (refine gy 26 4 9 #[.int .u8 ck, .int .i64 cx, .int .i64 cy, .int .i64 cw, .int .i64 ch, .int .i64 ay, .slice A l.length cc] 0 7 S ?_; clear S; intro gq S; clear jr kU kV kW kX kY fD))
  refine bodyPost_ret (eH rfl _ _ b4 26 _ (0, 0) _ rfl (S.out.blk _ (.head _) _ rfl) Try.underlying26 rfl (by kernel_rfl)) rfl ?_
  exact ⟨_, _, rfl, S.out.P9 (.head _), S.out.below⟩
 | cons i is ih =>
  intro c P A cc B cb w hv hi hb
  have IH := ae.mk ih
  have HI := ae.mk hi
  have LI := ae.mk hb
  have S := ae.mk (St.start (ts := [(.slice A c.f3.length cc, c.f3)]) (b0 := w.heap.size) (w := w) (P := P) (fun t ht => by rw [List.mem_singleton.1 ht]; exact hv))
  obtain ⟨AB, rfl, xi⟩ := Kd.jl hi 0 (by omega) (by simp)
  rw [show ((0 : Int)).toNat = 0 from rfl, Addr.add_zero'] at xi
  have xi : w.cell? AB = some (.int .i64 i) := xi
  replace S := ae.mk (S.out.yH xi)
  have hlen0 : (0 : Int) < ((is.length : Int) + 1) := by omega
  have hl0 : ((is.length + 1 : Nat) : Int) = (is.length : Int) + 1 := by omega
  clear ih hv hi hb xi
  simp only [qo]
  obtain ⟨ck, ⟨cx, cy, cw, ch⟩, ay, l⟩ := c
  simp only [] at S ⊢
  simp only [List.length_cons] at HI LI ⊢
  by_cases h0 : i < 0
  ·rw [if_pos (.inl h0)]
   have wP : decide (i < 0) = true := decide_eq_true h0
   go_enter Try.func92, Try.ntmps92
   go_wp2_with (first | (refine boxS 2 _ 26 S ?_; clear S; intro b2 di S) | (refine boxS 4 _ 26 S ?_; clear S; intro b4 dS S; have gQ := (S.out.cell _ (.head _)).1))
   go_quiet (fail)
   clear gQ
   replace S := ae.mk (S.out.call (eP (Below.refl _ _) nq))
   generalize dS.drewN nq = Xo at S ⊢
   go_wp2_with ((refine gy 26 4 23 #[.int .u8 0, .int .i64 0, .int .i64 0, .int .i64 0, .int .i64 0, .int .i64 0, .slice none 0 0] 0 7 S ?_; clear S; intro gz S))
   refine bodyPost_ret (eH rfl _ _ b4 26 _ (0, 0) _ rfl (S.out.blk _ (.head _) _ rfl) Try.underlying26 rfl (by kernel_rfl)) rfl ?_
   exact ⟨_, _, rfl, Kd.ND _ _ _ _ _, S.out.below⟩
  ·by_cases h1 : i ≥ (l.length : Int)
   ·rw [if_pos (.inr h1)]
    have wP : decide (i < 0) = false := decide_eq_false h0
    have h1b : decide (i ≥ (l.length : Int)) = true := decide_eq_true h1
    have h1c : decide ((l.length : Int) ≤ i) = true := decide_eq_true h1
    go_enter Try.func92, Try.ntmps92
    go_wp2_with (first | (refine boxS 2 _ 26 S ?_; clear S; intro b2 di S) | (refine boxS 4 _ 26 S ?_; clear S; intro b4 dS S; have gQ := (S.out.cell _ (.head _)).1; have fD := (S.out.at aY 6).trans rfl))
    go_quiet (fail)
    clear gQ fD
    replace S := ae.mk (S.out.call (eP (Below.refl _ _) nq))
    generalize dS.drewN nq = Xo at S ⊢
    go_wp2_with ((refine gy 26 4 23 #[.int .u8 0, .int .i64 0, .int .i64 0, .int .i64 0, .int .i64 0, .int .i64 0, .slice none 0 0] 0 7 S ?_; clear S; intro gz S))
    refine bodyPost_ret (eH rfl _ _ b4 26 _ (0, 0) _ rfl (S.out.blk _ (.head _) _ rfl) Try.underlying26 rfl (by kernel_rfl)) rfl ?_
    exact ⟨_, _, rfl, Kd.ND _ _ _ _ _, S.out.below⟩
   ·rw [if_neg (fun h => h.elim h0 h1)]
    have wP : decide (i < 0) = false := decide_eq_false h0
    have h1b : decide (i ≥ (l.length : Int)) = false := decide_eq_false h1
    have h1c : decide ((l.length : Int) ≤ i) = false := decide_eq_false h1
    have h0z : 0 ≤ i := by omega
    have h1z : i < (l.length : Int) := by omega
    obtain ⟨gK, ua, uc, ek, S1⟩ := S.out.elem (.head _) i h0z h1z
    subst ek
    replace S := ae.mk S1
    clear S1
    generalize aA l i = k at S ⊢
    obtain ⟨i0, hi0, _, hsz, _⟩ := info_parts info3
    have hcut := Ip (P := Try.prog) 41 3 .i64 Try.underlying41 hi0 1 hsz (some AB) (is.length + 1) cb 1 (by omega) (by omega)
    have hdrop := Kd.NL HI.out (m := 1) (by rw [List.length_cons]; omega) LI.out
    obtain ⟨A2, hA2⟩ : ∃ A2, A2 = (if cb = (1 : Int).toNat then (some AB) else ((some AB) : Option Addr).map (·.add ((1 : Int).toNat * 1))) := ⟨_, rfl⟩
    obtain ⟨c2, hc2⟩ : ∃ c2, c2 = cb - (1 : Int).toNat := ⟨_, rfl⟩
    rw [← hA2, ← hc2, show is.length + 1 - (1 : Int).toNat = is.length by simp] at hcut
    have HI2 := ae.mk (show Kd.C (Kd.int .i64) w A2 is.length is by rw [hA2]; exact hdrop)
    have UK := ae.mk (show is.length ≤ c2 by have h3 := LI.out; rw [hc2]; simp; omega)
    have JW := ae.mk hcut
    clear hdrop hA2 hc2 hi0 hsz hcut h0 h1
    have ED := fun Q W h1 h2 => IH.out k Q ua uc A2 c2 W h1 h2 UK.out
    cases hp : qo k is with
    | none =>
     simp only [hp] at ED ⊢
     have hcut := JW.out
     go_enter Try.func92, Try.ntmps92
     go_wp2_with (first | (refine boxS 2 _ 26 S ?_; clear S; intro b2 di S) | (refine boxS 4 _ 26 S ?_; clear S; intro b4 dS S; have C9 := (S.out.cell _ FU).1; have fD := (S.out.at aY 6).trans rfl))
     go_quiet (fail)
     clear C9 fD
     replace S := ae.mk (S.out.call (eP (Below.refl _ _) nq))
     generalize dS.drewN nq = Xo at S ⊢
     go_wp2
     refine gX (n := 14) (S := fun w' => St w _ _ _ _ _ w') (ds := [12]) (bA 14 0) (by kernel_rfl) rfl rfl (S.out.call (a_ (Below.refl _ _))) (fun hHeld => ?_); refine dZ zi.Gh zi.CE (fun aj dE => ?_)
     replace S := ae.mk (S.out.call (a_ (Below.refl _ _)))
     generalize Xo.drew = wd4 at S hHeld ⊢
     refine ak 0 24 (bA 14 1) aj ?_
     refine b_ 1 25 (bA 14 3) aj dE hHeld ?_ (hv := by intro w' hs_; have fD := (hs_.at aY 6).trans rfl; go_simp; with_reducible rfl)
     refine ak 2 26 (bA 14 7) aj ?_
     refine ak 3 27 (bA 14 15) aj ?_
     refine b_ 4 28 (bA 14 31) aj dE hHeld ?_ (hv := by intro w' hs_; have C9 := (hs_.cell _ FU).1; go_simp; with_reducible rfl)
     refine ak 5 29 (bA 14 63) aj ?_
     refine b_ 6 30 (bA 14 127) aj dE hHeld ?_ (hv := by intro w' hs_; have gQ := (hs_.cell _ (.head _)).1; have iD := (hs_.cell _ aY).1; have jd := (hs_.cell _ dL).1; have iP := (hs_.cell _ jB).1; have iQ := (hs_.cell _ lK).1; have jL := (hs_.cell _ qB).1; have jM := (hs_.cell _ zy).1; go_simp; with_reducible rfl)
     refine ak 7 31 (bA 14 255) aj ?_
     refine ak 8 32 (bA 14 511) aj ?_
     refine iL 9 (some 33) (bA 14 1023) aj (fun K hK => ?_)
     refine ja Try.func92 (by kernel_rfl) rfl #[.agg #[.int .u8 k.f0, .int .i64 k.f1.f0, .int .i64 k.f1.f1, .int .i64 k.f1.f2, .int .i64 k.f1.f3, .int .i64 k.f2, .slice ua k.f3.length uc], .slice A2 is.length c2] (by rfl) rfl rfl (by (try simp only [List.map_toArray, List.map_cons, List.map_nil]); rfl) ?_
     refine (ED _ _ (eY (S.out.tree _ (.head _))) (Kd.iE HI2.out S.out.below)).mono ?_
     rintro e kG ⟨HY, Ik, rfl, h1, hb⟩
     refine ⟨_, rfl, ?_⟩
     replace S := ae.mk (S.out.res h1 hb)
     clear h1 hb
     refine hK.out _ _ S.out.bQ (fun hHeld => ?_)
     clear hK K
     refine dR 33 ?_
     refine ak 10 34 (bA 14 2047) aj ?_
     refine ak 11 35 (bA 14 4095) aj ?_
     refine lV 12 none (bA 14 8191) aj (fun K hK => ?_)
     refine lg 0 rfl 26 (.tmp 4) (.tmp 34) rfl #[.int .u8 0, .int .i64 0, .int .i64 0, .int .i64 0, .int .i64 0, .int .i64 0, .slice HY (([] : List ai).length) Ik] (j := 0) (u := .agg #[.int .u8 0, .int .i64 0, .int .i64 0, .int .i64 0, .int .i64 0, .int .i64 0, .slice HY (([] : List ai).length) Ik]) (bK := [.int .u8 0, .int .i64 0, .int .i64 0, .int .i64 0, .int .i64 0, .int .i64 0, .slice HY (([] : List ai).length) Ik]) S.out (by rfl) rfl rfl rfl rfl (by kernel_rfl) (by simp [Value.oneCell']) (by simp) rfl ?_
     intro tJ S1
     simp only [List.set_cons_zero, List.set_cons_succ] at S1
     replace S := ae.mk S1
     clear S1
     refine hK.out _ _ ?_
     clear hK K
     refine ak 13 5 (bA 14 16383) aj ?_
     refine jf (fJ aj.out (by kernel_rfl)) ?_
     clear hHeld
     go_wp2
     refine bodyPost_ret (eH rfl _ _ b4 26 _ (0, 0) _ rfl (S.out.blk _ (.head _) _ rfl) Try.underlying26 rfl (by kernel_rfl)) rfl ?_
     exact ⟨_, _, rfl, S.out.P9 (.head _), S.out.below⟩
    | some z =>
     simp only [hp] at ED ⊢
     have hcut := JW.out
     go_enter Try.func92, Try.ntmps92
     go_wp2_with (first | (refine boxS 2 _ 26 S ?_; clear S; intro b2 di S) | (refine boxS 4 _ 26 S ?_; clear S; intro b4 dS S; have C9 := (S.out.cell _ FU).1; have fD := (S.out.at aY 6).trans rfl))
     go_quiet (fail)
     clear C9 fD
     replace S := ae.mk (S.out.call (eP (Below.refl _ _) nq))
     generalize dS.drewN nq = Xo at S ⊢
     go_wp2
     refine gX (n := 14) (S := fun w' => St w _ _ _ _ _ w') (ds := [12]) (bA 14 0) (by kernel_rfl) rfl rfl (S.out.call (a_ (Below.refl _ _))) (fun hHeld => ?_); refine dZ zi.Gh zi.CE (fun aj dE => ?_)
     replace S := ae.mk (S.out.call (a_ (Below.refl _ _)))
     generalize Xo.drew = wd4 at S hHeld ⊢
     refine ak 0 24 (bA 14 1) aj ?_
     refine b_ 1 25 (bA 14 3) aj dE hHeld ?_ (hv := by intro w' hs_; have fD := (hs_.at aY 6).trans rfl; go_simp; with_reducible rfl)
     refine ak 2 26 (bA 14 7) aj ?_
     refine ak 3 27 (bA 14 15) aj ?_
     refine b_ 4 28 (bA 14 31) aj dE hHeld ?_ (hv := by intro w' hs_; have C9 := (hs_.cell _ FU).1; go_simp; with_reducible rfl)
     refine ak 5 29 (bA 14 63) aj ?_
     refine b_ 6 30 (bA 14 127) aj dE hHeld ?_ (hv := by intro w' hs_; have gQ := (hs_.cell _ (.head _)).1; have iD := (hs_.cell _ aY).1; have jd := (hs_.cell _ dL).1; have iP := (hs_.cell _ jB).1; have iQ := (hs_.cell _ lK).1; have jL := (hs_.cell _ qB).1; have jM := (hs_.cell _ zy).1; go_simp; with_reducible rfl)
     refine ak 7 31 (bA 14 255) aj ?_
     refine ak 8 32 (bA 14 511) aj ?_
     refine iL 9 (some 33) (bA 14 1023) aj (fun K hK => ?_)
     refine ja Try.func92 (by kernel_rfl) rfl #[.agg #[.int .u8 k.f0, .int .i64 k.f1.f0, .int .i64 k.f1.f1, .int .i64 k.f1.f2, .int .i64 k.f1.f3, .int .i64 k.f2, .slice ua k.f3.length uc], .slice A2 is.length c2] (by rfl) rfl rfl (by (try simp only [List.map_toArray, List.map_cons, List.map_nil]); rfl) ?_
     refine (ED _ _ (eY (S.out.tree _ (.head _))) (Kd.iE HI2.out S.out.below)).mono ?_
     rintro e kG ⟨HY, Ik, rfl, h1, hb⟩
     refine ⟨_, rfl, ?_⟩
     replace S := ae.mk (S.out.res h1 hb)
     clear h1 hb
     refine hK.out _ _ S.out.bQ (fun hHeld => ?_)
     clear hK K
     refine dR 33 ?_
     refine ak 10 34 (bA 14 2047) aj ?_
     refine ak 11 35 (bA 14 4095) aj ?_
     refine lV 12 none (bA 14 8191) aj (fun K hK => ?_)
     refine lg 0 rfl 26 (.tmp 4) (.tmp 34) rfl #[.int .u8 z.f0, .int .i64 z.f1.f0, .int .i64 z.f1.f1, .int .i64 z.f1.f2, .int .i64 z.f1.f3, .int .i64 z.f2, .slice HY z.f3.length Ik] (j := 0) (u := .agg #[.int .u8 z.f0, .int .i64 z.f1.f0, .int .i64 z.f1.f1, .int .i64 z.f1.f2, .int .i64 z.f1.f3, .int .i64 z.f2, .slice HY z.f3.length Ik]) (bK := [.int .u8 z.f0, .int .i64 z.f1.f0, .int .i64 z.f1.f1, .int .i64 z.f1.f2, .int .i64 z.f1.f3, .int .i64 z.f2, .slice HY z.f3.length Ik]) S.out (by rfl) rfl rfl rfl rfl (by kernel_rfl) (by simp [Value.oneCell']) (by simp) rfl ?_
     intro tJ S1
     simp only [List.set_cons_zero, List.set_cons_succ] at S1
     replace S := ae.mk S1
     clear S1
     refine hK.out _ _ ?_
     clear hK K
     refine ak 13 5 (bA 14 16383) aj ?_
     refine jf (fJ aj.out (by kernel_rfl)) ?_
     clear hHeld
     go_wp2
     refine bodyPost_ret (eH rfl _ _ b4 26 _ (0, 0) _ rfl (S.out.blk _ (.head _) _ rfl) Try.underlying26 rfl (by kernel_rfl)) rfl ?_
     exact ⟨_, _, rfl, S.out.P9 (.head _), S.out.below⟩
section
variable {W : World} {b : Nat} {P : Nat → Prop} {A B : Option Addr} {cc cb : Nat}
theorem zf (c : ai) (path : List Int) (z : ai) (hz : qo c path = some z) (hV : Kd.V k26 26 W b P (.slice A c.f3.length cc) c.f3) (hi : Kd.C (Kd.int .i64) W B path.length path) (hb : path.length ≤ cb) :
  Calls Try.prog 92 #[.agg #[.int .u8 c.f0, .int .i64 c.f1.f0, .int .i64 c.f1.f1, .int .i64 c.f1.f2, .int .i64 c.f1.f3, .int .i64 c.f2, .slice A c.f3.length cc], .slice B path.length cb] W fun e w' => ∃ A2 c2, e = .returned (.tuple #[.agg #[.int .u8 z.f0, .int .i64 z.f1.f0, .int .i64 z.f1.f1, .int .i64 z.f1.f2, .int .i64 z.f1.f3, .int .i64 z.f2, .slice A2 z.f3.length c2], .bool true]) ∧ Kd.V k26 26 w' W.heap.size (fun k => P k ∨ W.heap.size ≤ k) (.slice A2 z.f3.length c2) z.f3 ∧ Below W.heap.size W w' := by
 have h := air path c P A cc B cb W (eY hV) hi hb
 rw [hz] at h
 exact h
end
theorem acr : ∀ (is : List Int) (c kid : ai) (P : Nat → Prop) (A : Option Addr) (cc : Nat) (Ak : Option Addr) (rC : Nat) (B : Option Addr) (cb : Nat) (w : World), sz c ≤ 1000000 → sz kid ≤ 1000000 →
  Kd.V k26 26 w w.heap.size P (.slice A c.f3.length cc) c.f3 → Kd.V k26 26 w w.heap.size P (.slice Ak kid.f3.length rC) kid.f3 → Kd.C (Kd.int .i64) w B is.length is → is.length ≤ cb → pO kid is c ≠ none →
  Calls Try.prog 102 #[.agg #[.int .u8 c.f0, .int .i64 c.f1.f0, .int .i64 c.f1.f1, .int .i64 c.f1.f2, .int .i64 c.f1.f3, .int .i64 c.f2, .slice A c.f3.length cc], .agg #[.int .u8 kid.f0, .int .i64 kid.f1.f0, .int .i64 kid.f1.f1, .int .i64 kid.f1.f2, .int .i64 kid.f1.f3, .int .i64 kid.f2, .slice Ak kid.f3.length rC], .slice B is.length cb] w (Xy w P (pO kid is c)) := by
 intro is
 induction is with
 | nil =>
  intro c kid P A cc Ak rC B cb w hz V6 hv hvk hi hb _
  show Calls Try.prog 102 #[.agg #[.int .u8 c.f0, .int .i64 c.f1.f0, .int .i64 c.f1.f1, .int .i64 c.f1.f2, .int .i64 c.f1.f3, .int .i64 c.f2, .slice A c.f3.length cc], .agg #[.int .u8 kid.f0, .int .i64 kid.f1.f0, .int .i64 kid.f1.f1, .int .i64 kid.f1.f2, .int .i64 kid.f1.f3, .int .i64 kid.f2, .slice Ak kid.f3.length rC], .slice B 0 cb] w (Xy w P (some kid))
  have S := ae.mk (St.start (ts := [(.slice A c.f3.length cc, c.f3), (.slice Ak kid.f3.length rC, kid.f3)]) (b0 := w.heap.size) (w := w) (P := P) (fun t ht => by
   rcases List.mem_cons.1 ht with rfl | ht
   ·exact hv
   ·rw [List.mem_singleton.1 ht]; exact hvk))
  have HZ := ae.mk hz
  have HZK := ae.mk V6
  clear hz V6 hv hvk hi hb
  obtain ⟨ck, ⟨cx, cy, cw, ch⟩, ay, l⟩ := c
  obtain ⟨kk, ⟨kx, ky, kw, kh⟩, kid, m⟩ := kid
  simp only [] at S ⊢
  go_enter Try.func102, Try.ntmps102
  go_wp2_with (first
   | (refine boxS 3 _ 26 S ?_; clear S; intro b3 di S)
   | (refine boxS 4 _ 26 S ?_; clear S; intro b4 dS S)
   | (refine boxS 6 _ 26 S ?_; clear S; intro b6 gq S; obtain ⟨d_, dn, dA, ed, eF, eG, dM⟩ := St.dD S aY)
   | (refine iT (some 15) Try.func151 (Ij 1000000 ⟨kk, ⟨kx, ky, kw, kh⟩, kid, m⟩ HZK.out (Nat.le_refl _) _ Ak rC _ (S.out.tree _ aY)) ?_; rintro e gz ⟨v, rfl, h1, hb⟩; refine ⟨_, rfl, ?_⟩; obtain ⟨aij, aiy, ev⟩ := Kd.jG h1; subst ev; replace S := ae.mk (S.out.yx h1 hb); clear h1 hb; clear d_ dn dA ed eF eG dM)
   | (refine gy 26 6 15 #[.int .u8 kk, .int .i64 kx, .int .i64 ky, .int .i64 kw, .int .i64 kh, .int .i64 kid, .slice aij m.length aiy] 0 7 S ?_; clear S; intro kG S)
   | fail)
  refine bodyPost_ret (eH rfl _ _ b6 26 _ (0, 0) _ rfl (S.out.blk _ (.head _) _ rfl) Try.underlying26 rfl (by kernel_rfl)) rfl ?_
  exact ⟨_, _, rfl, S.out.oV, S.out.below⟩
 | cons i is ih =>
  intro c kid P A cc Ak rC B cb w hz V6 hv hvk hi hb hne
  have IH := ae.mk ih
  have HI := ae.mk hi
  have LI := ae.mk hb
  have S := ae.mk (St.start (ts := [(.slice A c.f3.length cc, c.f3), (.slice Ak kid.f3.length rC, kid.f3)]) (b0 := w.heap.size) (w := w) (P := P) (fun t ht => by
   rcases List.mem_cons.1 ht with rfl | ht
   ·exact hv
   ·rw [List.mem_singleton.1 ht]; exact hvk))
  obtain ⟨AB, rfl, xi⟩ := Kd.jl hi 0 (by omega) (by simp)
  rw [show ((0 : Int)).toNat = 0 from rfl, Addr.add_zero'] at xi
  have xi : w.cell? AB = some (.int .i64 i) := xi
  replace S := ae.mk (S.out.yH xi)
  have hlen0 : (0 : Int) < ((is.length : Int) + 1) := by omega
  have hl0 : ((is.length + 1 : Nat) : Int) = (is.length : Int) + 1 := by omega
  have HZ := ae.mk hz
  have HZK := ae.mk V6
  have uz := ae.mk hne
  clear ih hv hvk hi hb hne xi hz V6
  simp only [pO] at uz ⊢
  obtain ⟨ck, ⟨cx, cy, cw, ch⟩, ay, l⟩ := c
  obtain ⟨kk, ⟨kx, ky, kw, kh⟩, kid, m⟩ := kid
  simp only [] at S uz ⊢
  simp only [List.length_cons] at HI LI ⊢
  have h0 : ¬ i < 0 := fun h => uz.out (if_pos (.inl h))
  by_cases h1 : i ≥ (l.length : Int)
  ·exact absurd (if_pos (.inr h1)) uz.out
  ·rw [if_neg (fun h => h.elim h0 h1)]
   have hne := uz.out
   rw [if_neg (fun h => h.elim h0 h1)] at hne
   have wP : decide (i < 0) = false := decide_eq_false h0
   have h1b : decide (i ≥ (l.length : Int)) = false := decide_eq_false h1
   have h1c : decide ((l.length : Int) ≤ i) = false := decide_eq_false h1
   have h0z : 0 ≤ i := by omega
   have h1z : i < (l.length : Int) := by omega
   obtain ⟨gK, ua, uc, ek, S1⟩ := S.out.elem (.head _) i h0z h1z
   subst ek
   replace S := ae.mk S1
   have ik := ae.mk (show sz (aA l i) ≤ 1000000 by have := tC (F5 l i h0z h1z); have := HZ.out; rw [bV] at this; simp only [] at this; omega)
   clear S1
   generalize aA l i = k at S ik hne ⊢
   obtain ⟨i0, hi0, _, hsz, _⟩ := info_parts info3
   have hcut := Ip (P := Try.prog) 41 3 .i64 Try.underlying41 hi0 1 hsz (some AB) (is.length + 1) cb 1 (by omega) (by omega)
   have hdrop := Kd.NL HI.out (m := 1) (by rw [List.length_cons]; omega) LI.out
   obtain ⟨A2, hA2⟩ : ∃ A2, A2 = (if cb = (1 : Int).toNat then (some AB) else ((some AB) : Option Addr).map (·.add ((1 : Int).toNat * 1))) := ⟨_, rfl⟩
   obtain ⟨c2, hc2⟩ : ∃ c2, c2 = cb - (1 : Int).toNat := ⟨_, rfl⟩
   rw [← hA2, ← hc2, show is.length + 1 - (1 : Int).toNat = is.length by simp] at hcut
   have HI2 := ae.mk (show Kd.C (Kd.int .i64) w A2 is.length is by rw [hA2]; exact hdrop)
   have UK := ae.mk (show is.length ≤ c2 by have h3 := LI.out; rw [hc2]; simp; omega)
   have JW := ae.mk hcut
   clear hdrop hA2 hc2 hi0 hsz hcut h0 h1
   have Ux := ae.mk h0z
   have Uy := ae.mk h1z
   cases hp : pO ⟨kk, ⟨kx, ky, kw, kh⟩, kid, m⟩ is k with
   | none => rw [hp] at hne; exact absurd rfl hne
   | some z =>
    have ED := fun Q W h1 h2 h3 => IH.out k ⟨kk, ⟨kx, ky, kw, kh⟩, kid, m⟩ Q ua uc Ak rC A2 c2 W ik.out HZK.out h1 h2 h3 UK.out (by rw [hp]; simp)
    simp only [hp] at ED ⊢
    clear hne
    have hcut := JW.out
    go_enter Try.func102, Try.ntmps102
    go_wp2_with (first
     | (refine boxS 3 _ 26 S ?_; clear S; intro b3 di S)
     | (refine boxS 4 _ 26 S ?_; clear S; intro b4 dS S)
     | (refine boxS 6 _ 26 S ?_; clear S; intro b6 gq S; have C9 := (S.out.cell _ FU).1; have bC := (S.out.at dL 6).trans rfl)
     | fail)
    clear C9 bC
    refine gX (n := 15) (S := fun w' => St w _ _ _ _ _ w') (ds := [13]) (bA 15 0) (by kernel_rfl) rfl rfl (S.out.call (a_ (Below.refl _ _))) (fun hHeld => ?_); refine dZ zI.tab6 zI.CG (fun aj dE => ?_)
    replace S := ae.mk (S.out.call (a_ (Below.refl _ _)))
    generalize gq.drew = wd4 at S hHeld ⊢
    refine ak 0 30 (bA 15 1) aj ?_
    refine b_ 1 31 (bA 15 3) aj dE hHeld ?_ (hv := by intro w' hs_; have bC := (hs_.at dL 6).trans rfl; go_simp; with_reducible rfl)
    refine ak 2 32 (bA 15 7) aj ?_
    refine ak 3 33 (bA 15 15) aj ?_
    refine b_ 4 34 (bA 15 31) aj dE hHeld ?_ (hv := by intro w' hs_; have gQ := (hs_.cell _ (.head _)).1; have iD := (hs_.cell _ aY).1; have jd := (hs_.cell _ dL).1; have iP := (hs_.cell _ jB).1; have iQ := (hs_.cell _ lK).1; have jL := (hs_.cell _ qB).1; have jM := (hs_.cell _ zy).1; go_simp; with_reducible rfl)
    refine b_ 5 35 (bA 15 63) aj dE hHeld ?_ (hv := by intro w' hs_; have d_ := (hs_.at aY 0).trans rfl; have dn := (hs_.at aY 1).trans rfl; have dA := (hs_.at aY 2).trans rfl; have ed := (hs_.at aY 3).trans rfl; have eF := (hs_.at aY 4).trans rfl; have eG := (hs_.at aY 5).trans rfl; have dM := (hs_.at aY 6).trans rfl; go_simp; with_reducible rfl)
    refine ak 6 36 (bA 15 127) aj ?_
    refine ak 7 37 (bA 15 255) aj ?_
    refine Bc (σ := Option Addr × Nat × Nat) 2 (bA 15 8191) (fun s_ => [(38, .tuple #[.agg #[.int .u8 z.f0, .int .i64 z.f1.f0, .int .i64 z.f1.f1, .int .i64 z.f1.f2, .int .i64 z.f1.f3, .int .i64 z.f2, .slice s_.1 z.f3.length s_.2.1], .bool true]), (29, .tuple #[.agg #[.int .u8 z.f0, .int .i64 z.f1.f0, .int .i64 z.f1.f1, .int .i64 z.f1.f2, .int .i64 z.f1.f3, .int .i64 z.f2, .slice s_.1 z.f3.length s_.2.1], .bool true]), (39, .agg #[.int .u8 z.f0, .int .i64 z.f1.f0, .int .i64 z.f1.f1, .int .i64 z.f1.f2, .int .i64 z.f1.f3, .int .i64 z.f2, .slice s_.1 z.f3.length s_.2.1]), (40, .bool true), (9, .pointer (some ⟨s_.2.2, 0, none⟩))]) (fun s_ w' => St w P [(some s_.2.2, .cells #[.int .u8 0, .int .i64 0, .int .i64 0, .int .i64 0, .int .i64 0, .int .i64 0, .slice none 0 0] 26 (0, 0)), (some b6, .cells #[.int .u8 0, .int .i64 0, .int .i64 0, .int .i64 0, .int .i64 0, .int .i64 0, .slice none 0 0] 26 (0, 0)), (some b4, .cells #[.int .u8 kk, .int .i64 kx, .int .i64 ky, .int .i64 kw, .int .i64 kh, .int .i64 kid, .slice Ak m.length rC] 26 (0, 0)), (some b3, .cells #[.int .u8 ck, .int .i64 cx, .int .i64 cy, .int .i64 cw, .int .i64 ch, .int .i64 ay, .slice (some gK) l.length cc] 26 (0, 0))] [] [(.slice s_.1 z.f3.length s_.2.1, z.f3), (.slice ua k.f3.length uc, k.f3), (.slice (some gK) l.length cc, l), (.slice Ak m.length rC, m)] [((gK.add (i.toNat * 7)), .int .u8 k.f0), (⟨(gK.add (i.toNat * 7)).block, (gK.add (i.toNat * 7)).off + 1, none⟩, .int .i64 k.f1.f0), (⟨(gK.add (i.toNat * 7)).block, (gK.add (i.toNat * 7)).off + 2, none⟩, .int .i64 k.f1.f1), (⟨(gK.add (i.toNat * 7)).block, (gK.add (i.toNat * 7)).off + 3, none⟩, .int .i64 k.f1.f2), (⟨(gK.add (i.toNat * 7)).block, (gK.add (i.toNat * 7)).off + 4, none⟩, .int .i64 k.f1.f3), (⟨(gK.add (i.toNat * 7)).block, (gK.add (i.toNat * 7)).off + 5, none⟩, .int .i64 k.f2), (⟨(gK.add (i.toNat * 7)).block, (gK.add (i.toNat * 7)).off + 6, none⟩, .slice ua k.f3.length uc), (AB, .int .i64 i)] w') ?_ ?_
    rotate_left
    ·intro lF
     refine Eu (i := 8) (j := 12) (Ni := some 38) (Nj := some 9) (bA 15 511) (bA 15 4351) rfl rfl rfl rfl (yB aj.out (by kernel_rfl)) (by decide) (by decide) (fun K hK => ?_) (fun K hK => ?_)
     ·skip
      refine wY Try.func102 #[.agg #[.int .u8 k.f0, .int .i64 k.f1.f0, .int .i64 k.f1.f1, .int .i64 k.f1.f2, .int .i64 k.f1.f3, .int .i64 k.f2, .slice ua k.f3.length uc], .agg #[.int .u8 kk, .int .i64 kx, .int .i64 ky, .int .i64 kw, .int .i64 kh, .int .i64 kid, .slice Ak m.length rC], .slice A2 is.length c2] ?_
      refine (ED _ _ (eY (S.out.tree _ (.head _))) (eY (S.out.tree _ dL)) (Kd.iE HI2.out S.out.below)).mono ?_
      rintro e kG ⟨H5, Il, rfl, h1, hb⟩
      refine ⟨_, rfl, ?_⟩
      replace S := ae.mk (S.out.res (Kd.oD (base' := 0) h1) hb)
      clear h1 hb
      refine hK.out _ _ S.out.bQ (fun hHeld => ?_)
      clear hK K
      refine dR 38 ?_
      refine ak 9 29 (bA 15 1023) aj ?_
      refine ak 10 39 (bA 15 2047) aj ?_
      refine ak 11 40 (bA 15 4095) aj ?_
      refine iL 12 (some 9) (bA 15 8191) aj (fun K hK => ?_)
      refine kH ?hg (N := 9) ?hd (cs := #[.int .u8 0, .int .i64 0, .int .i64 0, .int .i64 0, .int .i64 0, .int .i64 0, .slice none 0 0]) (t := 26) ?hr ?_; (case hd => rfl); (case hg => rfl); (case hr => first | (go_simp; done) | (go_simp; rfl))
      intro b9 hg tJ hbox hb
      replace S := ae.mk (S.out.box hg hbox hb)
      clear hg hbox hb
      refine hK.out _ _ S.out.dV.bQ (fun hHeld => ?_)
      clear hK K
      refine dR 9 ?_
      exact mP (by simp only [jo, Act.put, List.setIfInBounds_toArray, List.set_cons_zero, List.set_cons_succ] <;> rfl) (lF (H5, Il, b9) _ S.out)
     ·skip
      refine kH ?hg (N := 9) ?hd (cs := #[.int .u8 0, .int .i64 0, .int .i64 0, .int .i64 0, .int .i64 0, .int .i64 0, .slice none 0 0]) (t := 26) ?hr ?_; (case hd => rfl); (case hg => rfl); (case hr => first | (go_simp; done) | (go_simp; rfl))
      intro b9 hg vV hbox hb
      replace S := ae.mk (S.out.box hg hbox hb)
      clear hg hbox hb
      refine hK.out _ _ S.out.dV (fun hHeld => ?_)
      clear hK K
      refine dR 9 ?_
      refine iL 8 (some 38) (bA 15 4607) aj (fun K hK => ?_)
      refine wY Try.func102 #[.agg #[.int .u8 k.f0, .int .i64 k.f1.f0, .int .i64 k.f1.f1, .int .i64 k.f1.f2, .int .i64 k.f1.f3, .int .i64 k.f2, .slice ua k.f3.length uc], .agg #[.int .u8 kk, .int .i64 kx, .int .i64 ky, .int .i64 kw, .int .i64 kh, .int .i64 kid, .slice Ak m.length rC], .slice A2 is.length c2] ?_
      refine (ED _ _ (eY (S.out.tree _ (.head _))) (eY (S.out.tree _ dL)) (Kd.iE HI2.out S.out.below)).mono ?_
      rintro e wV ⟨H5, Il, rfl, h1, hb⟩
      refine ⟨_, rfl, ?_⟩
      replace S := ae.mk (S.out.res (Kd.oD (base' := 0) h1) hb)
      clear h1 hb
      refine hK.out _ _ S.out.dV.bQ (fun hHeld => ?_)
      clear hK K
      refine dR 38 ?_
      refine ak 9 29 (bA 15 5119) aj ?_
      refine ak 10 39 (bA 15 6143) aj ?_
      refine ak 11 40 (bA 15 8191) aj ?_
      exact mP (by simp only [jo, Act.put, List.setIfInBounds_toArray, List.set_cons_zero, List.set_cons_succ] <;> rfl) (lF (H5, Il, b9) _ S.out)
    rintro ⟨H5, Il, b9⟩ wj9 S1
    simp only [jo, Act.put, List.setIfInBounds_toArray, List.set_cons_zero, List.set_cons_succ]
    replace S := ae.mk S1
    clear S1 hHeld
    have hHeld := S.out.dV.bQ
    refine lV 13 none (bA 15 16383) aj (fun K hK => ?_)
    refine lg 0 rfl 26 (.tmp 9) (.tmp 39) rfl #[.int .u8 z.f0, .int .i64 z.f1.f0, .int .i64 z.f1.f1, .int .i64 z.f1.f2, .int .i64 z.f1.f3, .int .i64 z.f2, .slice H5 z.f3.length Il] (j := 0) (u := .agg #[.int .u8 z.f0, .int .i64 z.f1.f0, .int .i64 z.f1.f1, .int .i64 z.f1.f2, .int .i64 z.f1.f3, .int .i64 z.f2, .slice H5 z.f3.length Il]) (bK := [.int .u8 z.f0, .int .i64 z.f1.f0, .int .i64 z.f1.f1, .int .i64 z.f1.f2, .int .i64 z.f1.f3, .int .i64 z.f2, .slice H5 z.f3.length Il]) S.out (by rfl) rfl rfl rfl rfl (by kernel_rfl) (by simp [Value.oneCell']) (by first | decide | simp) rfl ?_
    intro Aj S1
    simp only [List.set_cons_zero, List.set_cons_succ] at S1
    replace S := ae.mk S1
    clear S1
    refine hK.out _ _ ?_
    clear hK K
    refine ak 14 10 (bA 15 32767) aj ?_
    refine jf (fJ aj.out (by kernel_rfl)) ?_
    clear hHeld
    obtain ⟨bf, bg, bu, bz, bM, bU, bC⟩ := St.dD S jB
    go_wp2_with (first
     | (refine iT (some 45) Try.func151 (Ij 1000000 ⟨ck, ⟨cx, cy, cw, ch⟩, ay, l⟩ HZ.out (Nat.le_refl _) _ (some gK) cc _ (eY (S.out.tree _ dL))) ?_; rintro e Gm ⟨v, rfl, h1, hb⟩; refine ⟨_, rfl, ?_⟩; obtain ⟨g45, Zx, ev, _⟩ := Kd.wE h1 (by have := Uy.out; have := Ux.out; simp only []; omega); subst ev; replace S := ae.mk (S.out.yx h1 hb); clear h1 hb; clear bf bg bu bz bM bU bC)
     | (refine KY 26 3 45 #[.int .u8 ck, .int .i64 cx, .int .i64 cy, .int .i64 cw, .int .i64 ch, .int .i64 ay, .slice (some ⟨g45, 0, none⟩) l.length Zx] 0 7 S ?_; clear S; intro Um S; obtain ⟨sG, A8, vz, A_, Jl, Jm, Jn⟩ := St.dD S (.head _); have bC := (S.out.at jB 6).trans rfl)
     | ((with_reducible refine mG (.store 26 (.tmp 50) (.tmp 49)) rfl ?_); go_loud (refine W_ i z (.tmp 50) (.tmp 49) rfl S.out Ux.out Uy.out ?sA ?sX (by kernel_rfl) (.head _) rfl rfl ?_; (case sA => first | rfl | (go_simp; rfl)); (case sX => rfl); intro Lu S1; replace S := ae.mk S1; clear S1); clear sG A8 vz A_ Jl Jm Jn bC; obtain ⟨bf, bg, bu, bz, bM, bU, bC⟩ := St.dD S jB)
     | (refine uk 26 6 51 #[.int .u8 ck, .int .i64 cx, .int .i64 cy, .int .i64 cw, .int .i64 ch, .int .i64 ay, .slice (some ⟨g45, 0, none⟩) l.length Zx] 0 7 S ?_; clear S; intro agd S; clear bf bg bu bz bM bU bC)
     | fail)
    refine bodyPost_ret (eH rfl _ _ b6 26 _ (0, 0) _ rfl (S.out.blk _ aY _ rfl) Try.underlying26 rfl (by kernel_rfl)) rfl ?_
    simp only [Xy, List.length_set]
    exact ⟨_, _, rfl, S.out.oV, S.out.below⟩
def acG.T5 : Bool × List (List Nat × List Nat) := (true, [([], []), ([0], [0]), ([], []), ([2], [2]), ([3], [3]), ([1, 4], [1, 4]), ([5], [5]), ([], []), ([], []), ([8], [8]), ([6, 7, 9], [6, 7, 9]), ([10], [10]), ([11], [11]), ([11], [11]), ([], []), ([14, 12, 10, 0, 1, 2, 3, 4, 5, 6, 7, 8, 9, 10, 11, 12, 14], [12, 14]), ([13, 15, 0, 1, 2, 3, 4, 5, 6, 7, 8, 9, 10, 11, 12, 13, 14, 15], [13])])
def acG.B5 : List Nat := [0, 1, 0, 4, 12, 31, 63, 0, 0, 256, 1023, 2047, 4095, 4095, 0, 24575, 65535]
def acH.T9 : Bool × List (List Nat × List Nat) := (true, [([], []), ([], []), ([1], [1]), ([2], [2]), ([], []), ([0, 3, 0, 1, 2, 3, 4], [0, 3]), ([5, 4, 0, 1, 2, 3, 4], [4, 5])])
def acH.B9 : List Nat := [0, 0, 2, 6, 0, 31, 63]
theorem acs : ∀ (is : List Int) (c kid : ai) (P : Nat → Prop) (A : Option Addr) (cc : Nat) (Ak : Option Addr) (rC : Nat) (B : Option Addr) (cb : Nat) (w : World), sz c ≤ 1000000 →
  Kd.V k26 26 w w.heap.size P (.slice A c.f3.length cc) c.f3 → Kd.V k26 26 w w.heap.size P (.slice Ak kid.f3.length rC) kid.f3 → Kd.C (Kd.int .i64) w B is.length is → is.length ≤ cb → pO kid is c ≠ none →
  Calls Try.prog 103 #[.agg #[.int .u8 c.f0, .int .i64 c.f1.f0, .int .i64 c.f1.f1, .int .i64 c.f1.f2, .int .i64 c.f1.f3, .int .i64 c.f2, .slice A c.f3.length cc], .agg #[.int .u8 kid.f0, .int .i64 kid.f1.f0, .int .i64 kid.f1.f1, .int .i64 kid.f1.f2, .int .i64 kid.f1.f3, .int .i64 kid.f2, .slice Ak kid.f3.length rC], .slice B is.length cb] w (S9 w P (pO kid is c)) := by
 intro is
 induction is with
 | nil =>
  intro c kid P A cc Ak rC B cb w hz hv hvk hi hb _
  show Calls Try.prog 103 #[.agg #[.int .u8 c.f0, .int .i64 c.f1.f0, .int .i64 c.f1.f1, .int .i64 c.f1.f2, .int .i64 c.f1.f3, .int .i64 c.f2, .slice A c.f3.length cc], .agg #[.int .u8 kid.f0, .int .i64 kid.f1.f0, .int .i64 kid.f1.f1, .int .i64 kid.f1.f2, .int .i64 kid.f1.f3, .int .i64 kid.f2, .slice Ak kid.f3.length rC], .slice B 0 cb] w (S9 w P (some kid))
  have S := ae.mk (St.start (ts := [(.slice A c.f3.length cc, c.f3), (.slice Ak kid.f3.length rC, kid.f3)]) (b0 := w.heap.size) (w := w) (P := P) (fun t ht => by
   rcases List.mem_cons.1 ht with rfl | ht
   ·exact hv
   ·rw [List.mem_singleton.1 ht]; exact hvk))
  clear hz hv hvk hi hb
  obtain ⟨ck, ⟨cx, cy, cw, ch⟩, ay, l⟩ := c
  obtain ⟨kk, ⟨kx, ky, kw, kh⟩, kid, m⟩ := kid
  simp only [] at S ⊢
  go_enter Try.func103, Try.ntmps103
  go_wp2_with (first
   | (refine boxS 3 _ 26 S ?_; clear S; intro b3 di S)
   | (refine boxS 4 _ 26 S ?_; clear S; intro b4 dS S)
   | (refine boxS 6 _ 26 S ?_; clear S; intro b6 gq S; obtain ⟨d_, dn, dA, ed, eF, eG, dM⟩ := St.dD S aY)
   | (refine gy 26 6 14 #[.int .u8 kk, .int .i64 kx, .int .i64 ky, .int .i64 kw, .int .i64 kh, .int .i64 kid, .slice Ak m.length rC] 0 7 S ?_; clear S; intro gz S; clear d_ dn dA ed eF eG dM)
   | fail)
  refine bodyPost_ret (eH rfl _ _ b6 26 _ (0, 0) _ rfl (S.out.blk _ (.head _) _ rfl) Try.underlying26 rfl (by kernel_rfl)) rfl ?_
  exact ⟨_, _, rfl, S.out.P9 aY, S.out.below⟩
 | cons i is ih =>
  intro c kid P A cc Ak rC B cb w hz hv hvk hi hb hne
  have IH := ae.mk ih
  have HI := ae.mk hi
  have LI := ae.mk hb
  have S := ae.mk (St.start (ts := [(.slice A c.f3.length cc, c.f3), (.slice Ak kid.f3.length rC, kid.f3)]) (b0 := w.heap.size) (w := w) (P := P) (fun t ht => by
   rcases List.mem_cons.1 ht with rfl | ht
   ·exact hv
   ·rw [List.mem_singleton.1 ht]; exact hvk))
  obtain ⟨AB, rfl, xi⟩ := Kd.jl hi 0 (by omega) (by simp)
  rw [show ((0 : Int)).toNat = 0 from rfl, Addr.add_zero'] at xi
  have xi : w.cell? AB = some (.int .i64 i) := xi
  replace S := ae.mk (S.out.yH xi)
  have hlen0 : (0 : Int) < ((is.length : Int) + 1) := by omega
  have hl0 : ((is.length + 1 : Nat) : Int) = (is.length : Int) + 1 := by omega
  have HZ := ae.mk hz
  have uz := ae.mk hne
  clear ih hv hvk hi hb hne xi hz
  simp only [pO] at uz ⊢
  obtain ⟨ck, ⟨cx, cy, cw, ch⟩, ay, l⟩ := c
  obtain ⟨kk, ⟨kx, ky, kw, kh⟩, kid, m⟩ := kid
  simp only [] at S uz ⊢
  simp only [List.length_cons] at HI LI ⊢
  have h0 : ¬ i < 0 := fun h => uz.out (if_pos (.inl h))
  by_cases h1 : i ≥ (l.length : Int)
  ·exact absurd (if_pos (.inr h1)) uz.out
  ·rw [if_neg (fun h => h.elim h0 h1)]
   have hne := uz.out
   rw [if_neg (fun h => h.elim h0 h1)] at hne
   have wP : decide (i < 0) = false := decide_eq_false h0
   have h1b : decide (i ≥ (l.length : Int)) = false := decide_eq_false h1
   have h1c : decide ((l.length : Int) ≤ i) = false := decide_eq_false h1
   have h0z : 0 ≤ i := by omega
   have h1z : i < (l.length : Int) := by omega
   obtain ⟨gK, ua, uc, ek, S1⟩ := S.out.elem (.head _) i h0z h1z
   subst ek
   replace S := ae.mk S1
   have ik := ae.mk (show sz (aA l i) ≤ 1000000 by have := tC (F5 l i h0z h1z); have := HZ.out; rw [bV] at this; simp only [] at this; omega)
   have gY := ae.mk (show l.length ≤ 1000000 by have := HZ.out; rw [bV] at this; have := ig l; simp only [] at *; omega)
   clear S1
   generalize aA l i = k at S ik hne ⊢
   obtain ⟨i0, hi0, _, hsz, _⟩ := info_parts info3
   have hcut := Ip (P := Try.prog) 41 3 .i64 Try.underlying41 hi0 1 hsz (some AB) (is.length + 1) cb 1 (by omega) (by omega)
   have hdrop := Kd.NL HI.out (m := 1) (by rw [List.length_cons]; omega) LI.out
   obtain ⟨A2, hA2⟩ : ∃ A2, A2 = (if cb = (1 : Int).toNat then (some AB) else ((some AB) : Option Addr).map (·.add ((1 : Int).toNat * 1))) := ⟨_, rfl⟩
   obtain ⟨c2, hc2⟩ : ∃ c2, c2 = cb - (1 : Int).toNat := ⟨_, rfl⟩
   rw [← hA2, ← hc2, show is.length + 1 - (1 : Int).toNat = is.length by simp] at hcut
   have HI2 := ae.mk (show Kd.C (Kd.int .i64) w A2 is.length is by rw [hA2]; exact hdrop)
   have UK := ae.mk (show is.length ≤ c2 by have h3 := LI.out; rw [hc2]; simp; omega)
   have JW := ae.mk hcut
   clear hdrop hA2 hc2 hi0 hsz hcut h0 h1
   have Ux := ae.mk h0z
   have Uy := ae.mk h1z
   cases hp : pO ⟨kk, ⟨kx, ky, kw, kh⟩, kid, m⟩ is k with
   | none => rw [hp] at hne; exact absurd rfl hne
   | some z =>
    have ED := fun Q W h1 h2 h3 => IH.out k ⟨kk, ⟨kx, ky, kw, kh⟩, kid, m⟩ Q ua uc Ak rC A2 c2 W ik.out h1 h2 h3 UK.out (by rw [hp]; simp)
    simp only [hp] at ED ⊢
    clear hne
    have hcut := JW.out
    go_enter Try.func103, Try.ntmps103
    go_wp2_with (first
     | (refine boxS 3 _ 26 S ?_; clear S; intro b3 di S)
     | (refine boxS 4 _ 26 S ?_; clear S; intro b4 dS S)
     | (refine boxS 6 _ 26 S ?_; clear S; intro b6 gq S; have C9 := (S.out.cell _ FU).1; have bC := (S.out.at dL 6).trans rfl)
     | fail)
    go_quiet (fail)
    clear C9 bC
    replace S := ae.mk (S.out.call (eP (Below.refl _ _) nq))
    generalize gq.drewN nq = wq4 at S ⊢
    go_wp2
    refine gX (n := 17) (S := fun w' => St w _ _ _ _ _ w') (ds := [15]) (bA 17 0) (by kernel_rfl) rfl rfl (S.out.call (a_ (Below.refl _ _))) (fun hHeld => ?_); refine dZ zJ.Gh zJ.CE (fun aj dE => ?_)
    replace S := ae.mk (S.out.call (a_ (Below.refl _ _)))
    generalize wq4.drew = wd5 at S hHeld ⊢
    refine ak 0 30 (bA 17 1) aj ?_
    refine b_ 1 31 (bA 17 3) aj dE hHeld ?_ (hv := by intro w' hs_; have bC := (hs_.at dL 6).trans rfl; go_simp; with_reducible rfl)
    refine ak 2 32 (bA 17 7) aj ?_
    refine ak 3 33 (bA 17 15) aj ?_
    refine b_ 4 34 (bA 17 31) aj dE hHeld ?_ (hv := by intro w' hs_; have C9 := (hs_.cell _ FU).1; go_simp; with_reducible rfl)
    refine ak 5 35 (bA 17 63) aj ?_
    refine b_ 6 36 (bA 17 127) aj dE hHeld ?_ (hv := by intro w' hs_; have gQ := (hs_.cell _ (.head _)).1; have iD := (hs_.cell _ aY).1; have jd := (hs_.cell _ dL).1; have iP := (hs_.cell _ jB).1; have iQ := (hs_.cell _ lK).1; have jL := (hs_.cell _ qB).1; have jM := (hs_.cell _ zy).1; go_simp; with_reducible rfl)
    refine b_ 7 37 (bA 17 255) aj dE hHeld ?_ (hv := by intro w' hs_; have d_ := (hs_.at aY 0).trans rfl; have dn := (hs_.at aY 1).trans rfl; have dA := (hs_.at aY 2).trans rfl; have ed := (hs_.at aY 3).trans rfl; have eF := (hs_.at aY 4).trans rfl; have eG := (hs_.at aY 5).trans rfl; have dM := (hs_.at aY 6).trans rfl; go_simp; with_reducible rfl)
    refine ak 8 38 (bA 17 511) aj ?_
    refine ak 9 39 (bA 17 1023) aj ?_
    refine Bc (σ := Option Addr × Nat × Nat) 2 (bA 17 32767) (fun s_ => [(40, .tuple #[.agg #[.int .u8 z.f0, .int .i64 z.f1.f0, .int .i64 z.f1.f1, .int .i64 z.f1.f2, .int .i64 z.f1.f3, .int .i64 z.f2, .slice s_.1 z.f3.length s_.2.1], .bool true]), (29, .tuple #[.agg #[.int .u8 z.f0, .int .i64 z.f1.f0, .int .i64 z.f1.f1, .int .i64 z.f1.f2, .int .i64 z.f1.f3, .int .i64 z.f2, .slice s_.1 z.f3.length s_.2.1], .bool true]), (41, .agg #[.int .u8 z.f0, .int .i64 z.f1.f0, .int .i64 z.f1.f1, .int .i64 z.f1.f2, .int .i64 z.f1.f3, .int .i64 z.f2, .slice s_.1 z.f3.length s_.2.1]), (42, .bool true), (8, .pointer (some ⟨s_.2.2, 0, none⟩))]) (fun s_ w' => St w P [(some s_.2.2, .cells #[.int .u8 0, .int .i64 0, .int .i64 0, .int .i64 0, .int .i64 0, .int .i64 0, .slice none 0 0] 26 (0, 0)), (some b6, .cells #[.int .u8 0, .int .i64 0, .int .i64 0, .int .i64 0, .int .i64 0, .int .i64 0, .slice none 0 0] 26 (0, 0)), (some b4, .cells #[.int .u8 kk, .int .i64 kx, .int .i64 ky, .int .i64 kw, .int .i64 kh, .int .i64 kid, .slice Ak m.length rC] 26 (0, 0)), (some b3, .cells #[.int .u8 ck, .int .i64 cx, .int .i64 cy, .int .i64 cw, .int .i64 ch, .int .i64 ay, .slice (some gK) l.length cc] 26 (0, 0))] [] [(.slice s_.1 z.f3.length s_.2.1, z.f3), (.slice ua k.f3.length uc, k.f3), (.slice (some gK) l.length cc, l), (.slice Ak m.length rC, m)] [((gK.add (i.toNat * 7)), .int .u8 k.f0), (⟨(gK.add (i.toNat * 7)).block, (gK.add (i.toNat * 7)).off + 1, none⟩, .int .i64 k.f1.f0), (⟨(gK.add (i.toNat * 7)).block, (gK.add (i.toNat * 7)).off + 2, none⟩, .int .i64 k.f1.f1), (⟨(gK.add (i.toNat * 7)).block, (gK.add (i.toNat * 7)).off + 3, none⟩, .int .i64 k.f1.f2), (⟨(gK.add (i.toNat * 7)).block, (gK.add (i.toNat * 7)).off + 4, none⟩, .int .i64 k.f1.f3), (⟨(gK.add (i.toNat * 7)).block, (gK.add (i.toNat * 7)).off + 5, none⟩, .int .i64 k.f2), (⟨(gK.add (i.toNat * 7)).block, (gK.add (i.toNat * 7)).off + 6, none⟩, .slice ua k.f3.length uc), (AB, .int .i64 i)] w') ?_ ?_
    rotate_left
    ·intro lF
     refine Eu (i := 10) (j := 14) (Ni := some 40) (Nj := some 8) (bA 17 2047) (bA 17 17407) rfl rfl rfl rfl (yB aj.out (by kernel_rfl)) (by decide) (by decide) (fun K hK => ?_) (fun K hK => ?_)
     ·skip
      refine wY Try.func103 #[.agg #[.int .u8 k.f0, .int .i64 k.f1.f0, .int .i64 k.f1.f1, .int .i64 k.f1.f2, .int .i64 k.f1.f3, .int .i64 k.f2, .slice ua k.f3.length uc], .agg #[.int .u8 kk, .int .i64 kx, .int .i64 ky, .int .i64 kw, .int .i64 kh, .int .i64 kid, .slice Ak m.length rC], .slice A2 is.length c2] ?_
      refine (ED _ _ (eY (S.out.tree _ (.head _))) (eY (S.out.tree _ dL)) (Kd.iE HI2.out S.out.below)).mono ?_
      rintro e tJ ⟨H6, Io, rfl, h1, hb⟩
      refine ⟨_, rfl, ?_⟩
      replace S := ae.mk (S.out.res h1 hb)
      clear h1 hb
      refine hK.out _ _ S.out.bQ (fun hHeld => ?_)
      clear hK K
      refine dR 40 ?_
      refine ak 11 29 (bA 17 4095) aj ?_
      refine ak 12 41 (bA 17 8191) aj ?_
      refine ak 13 42 (bA 17 16383) aj ?_
      refine iL 14 (some 8) (bA 17 32767) aj (fun K hK => ?_)
      refine kH ?hg (N := 8) ?hd (cs := #[.int .u8 0, .int .i64 0, .int .i64 0, .int .i64 0, .int .i64 0, .int .i64 0, .slice none 0 0]) (t := 26) ?hr ?_; (case hd => rfl); (case hg => rfl); (case hr => first | (go_simp; done) | (go_simp; rfl))
      intro b8 hg vV hbox hb
      replace S := ae.mk (S.out.box hg hbox hb)
      clear hg hbox hb
      refine hK.out _ _ S.out.dV.bQ (fun hHeld => ?_)
      clear hK K
      refine dR 8 ?_
      exact mP (by simp only [jo, Act.put, List.setIfInBounds_toArray, List.set_cons_zero, List.set_cons_succ] <;> rfl) (lF (H6, Io, b8) _ S.out)
     ·skip
      refine kH ?hg (N := 8) ?hd (cs := #[.int .u8 0, .int .i64 0, .int .i64 0, .int .i64 0, .int .i64 0, .int .i64 0, .slice none 0 0]) (t := 26) ?hr ?_; (case hd => rfl); (case hg => rfl); (case hr => first | (go_simp; done) | (go_simp; rfl))
      intro b8 hg wV hbox hb
      replace S := ae.mk (S.out.box hg hbox hb)
      clear hg hbox hb
      refine hK.out _ _ S.out.dV (fun hHeld => ?_)
      clear hK K
      refine dR 8 ?_
      refine iL 10 (some 40) (bA 17 18431) aj (fun K hK => ?_)
      refine wY Try.func103 #[.agg #[.int .u8 k.f0, .int .i64 k.f1.f0, .int .i64 k.f1.f1, .int .i64 k.f1.f2, .int .i64 k.f1.f3, .int .i64 k.f2, .slice ua k.f3.length uc], .agg #[.int .u8 kk, .int .i64 kx, .int .i64 ky, .int .i64 kw, .int .i64 kh, .int .i64 kid, .slice Ak m.length rC], .slice A2 is.length c2] ?_
      refine (ED _ _ (eY (S.out.tree _ (.head _))) (eY (S.out.tree _ dL)) (Kd.iE HI2.out S.out.below)).mono ?_
      rintro e Gn ⟨H6, Io, rfl, h1, hb⟩
      refine ⟨_, rfl, ?_⟩
      replace S := ae.mk (S.out.res h1 hb)
      clear h1 hb
      refine hK.out _ _ S.out.dV.bQ (fun hHeld => ?_)
      clear hK K
      refine dR 40 ?_
      refine ak 11 29 (bA 17 20479) aj ?_
      refine ak 12 41 (bA 17 24575) aj ?_
      refine ak 13 42 (bA 17 32767) aj ?_
      exact mP (by simp only [jo, Act.put, List.setIfInBounds_toArray, List.set_cons_zero, List.set_cons_succ] <;> rfl) (lF (H6, Io, b8) _ S.out)
    rintro ⟨H6, Io, b8⟩ amL S1
    simp only [jo, Act.put, List.setIfInBounds_toArray, List.set_cons_zero, List.set_cons_succ]
    replace S := ae.mk S1
    clear S1 hHeld
    have hHeld := S.out.dV.bQ
    refine lV 15 none (bA 17 65535) aj (fun K hK => ?_)
    refine lg 0 rfl 26 (.tmp 8) (.tmp 41) rfl #[.int .u8 z.f0, .int .i64 z.f1.f0, .int .i64 z.f1.f1, .int .i64 z.f1.f2, .int .i64 z.f1.f3, .int .i64 z.f2, .slice H6 z.f3.length Io] (j := 0) (u := .agg #[.int .u8 z.f0, .int .i64 z.f1.f0, .int .i64 z.f1.f1, .int .i64 z.f1.f2, .int .i64 z.f1.f3, .int .i64 z.f2, .slice H6 z.f3.length Io]) (bK := [.int .u8 z.f0, .int .i64 z.f1.f0, .int .i64 z.f1.f1, .int .i64 z.f1.f2, .int .i64 z.f1.f3, .int .i64 z.f2, .slice H6 z.f3.length Io]) S.out (by rfl) rfl rfl rfl rfl (by kernel_rfl) (by simp [Value.oneCell']) (by first | decide | simp) rfl ?_
    intro Gm S1
    simp only [List.set_cons_zero, List.set_cons_succ] at S1
    replace S := ae.mk S1
    clear S1
    refine hK.out _ _ ?_
    clear hK K
    refine ak 16 9 (bA 17 131071) aj ?_
    refine jf (fJ aj.out (by kernel_rfl)) ?_
    clear hHeld
    go_wp2_with (first
     | ((with_reducible refine aG (N := 46) rfl ?_); refine Jz (N := 46) rfl rfl S.out ?hr ?_; (case hr => first | (go_simp; done) | (go_simp; rfl)); intro Ae ce Um S1; replace S := ae.mk S1; clear S1; have bC := (S.out.at jB 6).trans rfl)
     | ((with_reducible refine aG (N := 49) rfl ?_); at_builtin; refine Du 24 (.tmp 46) (.tmp 48) rfl rfl Try.underlying24 info26 S.out dL rfl rfl (by have := gY.out; simp only [List.length_nil]; omega) ?_; intro Ag cg Lu S1; simp only [List.nil_append] at S1; obtain ⟨gk, aix, ev, _⟩ := Kd.wE S1.oV (by have := Uy.out; have := Ux.out; omega); injection ev with e1 e2 e3; subst e1; subst e3; clear e2; simp only [List.nil_append]; replace S := ae.mk S1; clear S1; clear bC)
     | fail)
    refine gX (n := 7) (S := fun w' => St w _ _ _ _ _ w') (ds := [6]) (bA 7 0) (by kernel_rfl) rfl rfl (S.out.call (a_ (Below.refl _ _))) (fun hHeld => ?_); refine dZ zK.xw zK.sF (fun aj dE => ?_)
    replace S := ae.mk (S.out.call (a_ (Below.refl _ _)))
    generalize Lu.drew = ai_ at S hHeld ⊢
    refine ak 0 50 (bA 7 1) aj ?_
    refine ak 1 51 (bA 7 3) aj ?_
    refine ak 2 52 (bA 7 7) aj ?_
    refine b_ 3 53 (bA 7 15) aj dE hHeld ?_ (hv := by intro w' hs_; have C9 := (hs_.cell _ FU).1; go_simp; with_reducible rfl)
    refine b_ 4 54 (bA 7 31) aj dE hHeld ?_ (hv := by intro w' hs_; have Zy := (hs_.at (.head _) 0).trans rfl; have Zz := (hs_.at (.head _) 1).trans rfl; have ZA := (hs_.at (.head _) 2).trans rfl; have ZB := (hs_.at (.head _) 3).trans rfl; have ZC := (hs_.at (.head _) 4).trans rfl; have ZE := (hs_.at (.head _) 5).trans rfl; have ZF := (hs_.at (.head _) 6).trans rfl; go_simp; with_reducible rfl)
    refine ak 5 55 (bA 7 63) aj ?_
    refine lV 6 none (bA 7 127) aj (fun K hK => ?_)
    refine Ld i z (.tmp 55) (.tmp 54) rfl S.out (by rfl) rfl Ux.out Uy.out (by first | rfl | (go_simp; rfl)) rfl (by kernel_rfl) (.head _) ?_
    intro Y8 S1
    replace S := ae.mk S1
    clear S1
    refine hK.out _ _ ?_
    clear hK K
    refine jf (fJ aj.out (by kernel_rfl)) ?_
    clear hHeld
    go_wp2_with (first
     | (refine KY 24 57 56 #[.int .u8 ck, .int .i64 cx, .int .i64 cy, .int .i64 cw, .int .i64 ch, .int .i64 ay, .slice (some ⟨gk, 0, none⟩) l.length cg] 6 1 S ?_; clear S; intro age S; obtain ⟨bf, bg, bu, bz, bM, bU, bC⟩ := St.dD S jB)
     | (refine uk 26 6 58 #[.int .u8 ck, .int .i64 cx, .int .i64 cy, .int .i64 cw, .int .i64 ch, .int .i64 ay, .slice (some ⟨gk, 0, none⟩) l.length cg] 0 7 S ?_; clear S; intro ai8 S; clear bf bg bu bz bM bU bC)
     | fail)
    refine bodyPost_ret (eH rfl _ _ b6 26 _ (0, 0) _ rfl (S.out.blk _ aY _ rfl) Try.underlying26 rfl (by kernel_rfl)) rfl ?_
    simp only [S9, List.length_set]
    exact ⟨_, _, rfl, by have h := S.out.free.P9 (b0 := w.heap.size) (.head _); exact h, S.out.below⟩
section
variable {W : World} {b b' : Nat} {P : Nat → Prop} {A A' B : Option Addr} {cc cc' cb : Nat}
theorem ZX (c kid : ai) (path : List Int) (z : ai) (hz : pO kid path c = some z) (hc : sz c ≤ 1000000) (hk : sz kid ≤ 1000000) (hV : Kd.V k26 26 W b P (.slice A c.f3.length cc) c.f3) (hV' : Kd.V k26 26 W b' P (.slice A' kid.f3.length cc') kid.f3) (hi : Kd.C (Kd.int .i64) W B path.length path) (hb : path.length ≤ cb) :
  Calls Try.prog 102 #[.agg #[.int .u8 c.f0, .int .i64 c.f1.f0, .int .i64 c.f1.f1, .int .i64 c.f1.f2, .int .i64 c.f1.f3, .int .i64 c.f2, .slice A c.f3.length cc], .agg #[.int .u8 kid.f0, .int .i64 kid.f1.f0, .int .i64 kid.f1.f1, .int .i64 kid.f1.f2, .int .i64 kid.f1.f3, .int .i64 kid.f2, .slice A' kid.f3.length cc'], .slice B path.length cb] W fun e w' => ∃ A2 c2, e = .returned (.tuple #[.agg #[.int .u8 z.f0, .int .i64 z.f1.f0, .int .i64 z.f1.f1, .int .i64 z.f1.f2, .int .i64 z.f1.f3, .int .i64 z.f2, .slice A2 z.f3.length c2], .bool true]) ∧ Kd.N k26 26 w' W.heap.size (fun k => P k ∨ W.heap.size ≤ k) (.slice A2 z.f3.length c2) z.f3 ∧ Below W.heap.size W w' := by
 have h := acr path c kid P A cc A' cc' B cb W hc hk (eY hV) (eY hV') hi hb (by rw [hz]; simp)
 rw [hz] at h
 exact h
theorem DK (c kid : ai) (path : List Int) (z : ai) (hz : pO kid path c = some z) (hc : sz c ≤ 1000000) (hV : Kd.V k26 26 W b P (.slice A c.f3.length cc) c.f3) (hV' : Kd.V k26 26 W b' P (.slice A' kid.f3.length cc') kid.f3) (hi : Kd.C (Kd.int .i64) W B path.length path) (hb : path.length ≤ cb) :
  Calls Try.prog 103 #[.agg #[.int .u8 c.f0, .int .i64 c.f1.f0, .int .i64 c.f1.f1, .int .i64 c.f1.f2, .int .i64 c.f1.f3, .int .i64 c.f2, .slice A c.f3.length cc], .agg #[.int .u8 kid.f0, .int .i64 kid.f1.f0, .int .i64 kid.f1.f1, .int .i64 kid.f1.f2, .int .i64 kid.f1.f3, .int .i64 kid.f2, .slice A' kid.f3.length cc'], .slice B path.length cb] W fun e w' => ∃ A2 c2, e = .returned (.tuple #[.agg #[.int .u8 z.f0, .int .i64 z.f1.f0, .int .i64 z.f1.f1, .int .i64 z.f1.f2, .int .i64 z.f1.f3, .int .i64 z.f2, .slice A2 z.f3.length c2], .bool true]) ∧ Kd.V k26 26 w' W.heap.size (fun k => P k ∨ W.heap.size ≤ k) (.slice A2 z.f3.length c2) z.f3 ∧ Below W.heap.size W w' := by
 have h := acs path c kid P A cc A' cc' B cb W hc (eY hV) (eY hV') hi hb (by rw [hz]; simp)
 rw [hz] at h
 exact h
theorem Vf (id : Int) (c : ai) (r : Option (List Int)) (h : iR id c = r) (hc : sz c ≤ 1000000) (hV : Kd.V k26 26 W b P (.slice A c.f3.length cc) c.f3) :
  Calls Try.prog 89 #[.agg #[.int .u8 c.f0, .int .i64 c.f1.f0, .int .i64 c.f1.f1, .int .i64 c.f1.f2, .int .i64 c.f1.f3, .int .i64 c.f2, .slice A c.f3.length cc], .int .i64 id] W (AY W (r.getD []) r.isSome) := by
 have h2 := Kd.kQ hV
 refine (aeH id 1000000 c hc (Nat.le_refl _) A cc W h2.2.2 h2.2.1).mono (fun e w' ⟨v, he, hR, hB⟩ => ?_)
 rw [h] at he hR
 obtain ⟨A2, c2, rfl⟩ := Kd.iG hR
 exact ⟨A2, c2, he, hR, hB⟩
theorem MF (id : Int) (c : ai) (p : List Int) (h : iR id c = some p) (hc : sz c ≤ 1000000) (hV : Kd.V k26 26 W b P (.slice A c.f3.length cc) c.f3) :
  Calls Try.prog 89 #[.agg #[.int .u8 c.f0, .int .i64 c.f1.f0, .int .i64 c.f1.f1, .int .i64 c.f1.f2, .int .i64 c.f1.f3, .int .i64 c.f2, .slice A c.f3.length cc], .int .i64 id] W (AY W p true) := Vf id c (some p) h hc hV
theorem aaH (id : Int) (c : ai) (h : iR id c = none) (hc : sz c ≤ 1000000) (hV : Kd.V k26 26 W b P (.slice A c.f3.length cc) c.f3) :
  Calls Try.prog 89 #[.agg #[.int .u8 c.f0, .int .i64 c.f1.f0, .int .i64 c.f1.f1, .int .i64 c.f1.f2, .int .i64 c.f1.f3, .int .i64 c.f2, .slice A c.f3.length cc], .int .i64 id] W (AY W [] false) := Vf id c none h hc hV
theorem RS (id : Int) (c : ai) (r : Option (List Int)) (h : iR id c = r) (hc : sz c ≤ 1000000) (hV : Kd.V k26 26 W b P (.slice A c.f3.length cc) c.f3) :
  Calls Try.prog 90 #[.agg #[.int .u8 c.f0, .int .i64 c.f1.f0, .int .i64 c.f1.f1, .int .i64 c.f1.f2, .int .i64 c.f1.f3, .int .i64 c.f2, .slice A c.f3.length cc], .int .i64 id] W (AY W (r.getD []) r.isSome) := by
 have h2 := acz id 1000000 c hc (Nat.le_refl _) b P A cc W hV
 rwa [h] at h2
theorem JJ (id : Int) (c : ai) (p : List Int) (h : iR id c = some p) (hc : sz c ≤ 1000000) (hV : Kd.V k26 26 W b P (.slice A c.f3.length cc) c.f3) :
  Calls Try.prog 90 #[.agg #[.int .u8 c.f0, .int .i64 c.f1.f0, .int .i64 c.f1.f1, .int .i64 c.f1.f2, .int .i64 c.f1.f3, .int .i64 c.f2, .slice A c.f3.length cc], .int .i64 id] W (AY W p true) := RS id c (some p) h hc hV
theorem YV (id : Int) (c : ai) (h : iR id c = none) (hc : sz c ≤ 1000000) (hV : Kd.V k26 26 W b P (.slice A c.f3.length cc) c.f3) :
  Calls Try.prog 90 #[.agg #[.int .u8 c.f0, .int .i64 c.f1.f0, .int .i64 c.f1.f1, .int .i64 c.f1.f2, .int .i64 c.f1.f3, .int .i64 c.f2, .slice A c.f3.length cc], .int .i64 id] W (AY W [] false) := RS id c none h hc hV
end
theorem WN {kid x : ai} : ∀ (path : List Int) (c : ai), qo c path = some x → ∃ z, pO kid path c = some z := by
 intro path
 induction path with
 | nil => intro c _; exact ⟨kid, rfl⟩
 | cons i is ih =>
  intro c h
  simp only [qo] at h
  split at h
  ·cases h
  ·rename_i hi
   obtain ⟨z, hz⟩ := ih _ h
   refine ⟨⟨c.f0, c.f1, c.f2, c.f3.set i.toNat z⟩, ?_⟩
   simp only [pO]
   rw [if_neg hi, hz]
section
variable {Pr : Program} {ops : Array Oper} {rest : List Oper} {op : Oper} {a : Act} {Q : Exit → Act → World → Prop} {w W : World} {P : Nat → Prop} {bs : List (Option Nat × Obj)} {ow : List (Value × List ai)} {ts : List (Value × List ai)} {ro : List (Addr × Value)}
theorem GI (N : Option Tmp) {f : FuncId} {fn : Func} (hf : Pr.funcs[f]? = some fn) {ar : Array Operand} {Gj : Array TypeId} {args : Array Value} {l : List Int} {F : Option Addr → Nat → Value} (S : ae (St w P bs ow ts ro W))
  (hc : Calls Pr f args W fun e w' => ∃ A c, e = .returned (F A c) ∧ (Kd.int .i64).R 3 w' W.heap.size (fun _ => True) (.slice A l.length c) l ∧ Below W.heap.size W w')
  (h : ∀ A c o w1, ae (St w P (((Value.slice A l.length c).ownBlock, o) :: bs) ow ts ro w1) → ae (IR w.heap.size (.slice A l.length c) l o) → wpList Pr ops Q rest (a.put N (F A c)) w1) (hd : op.dst = N := by rfl) (hg : op.guard = none := by rfl) (hop : op.op = .call { callee := .value (.func f), args := ar, argTypes := Gj } := by rfl)
  (hname : (fn.name == "runtime.NumGoroutine") = false := by kernel_rfl) (hb : fn.body.isSome = true := by rfl) (hargs : ar.map a.eval = args := by ((try simp only [List.map_toArray, List.map_cons, List.map_nil]); first | done | rfl)) : wpList Pr ops Q (op :: rest) a W :=
 oN N hd hg hf hname hb args hop hargs (hc.mono fun e w1 ⟨A, c, he, h1, hb⟩ => by
  obtain ⟨o, S1, HI⟩ := S.out.Ql h1 hb
  exact ⟨_, he, h A c o w1 ⟨S1⟩ ⟨HI⟩⟩)
end
section
variable {base : Nat} {W : World} {A : Option Addr} {c : Nat} {l : List Int} {o : Obj} {w : World} {P : Nat → Prop} {bs : List (Option Nat × Obj)} {ow : List (Value × List ai)} {ts : List (Value × List ai)} {ro : List (Addr × Value)}
theorem H_ (HI : IR base (.slice A l.length c) l o) (S : St w P bs ow ts ro W) (hm : ((Value.slice A l.length c).ownBlock, o) ∈ bs) : Kd.C (Kd.int .i64) W A l.length l ∧ l.length ≤ c :=
 have h := Kd.eQ (HI W (S.blk _ hm))
 ⟨h.2.2, h.2.1⟩
theorem dY {q : List Int} {m : Nat} (HI : IR base (.slice A l.length c) l o) (S : St w P bs ow ts ro W) (hm : ((Value.slice A l.length c).ownBlock, o) ∈ bs) (hq : q = l.take m ∧ m ≤ l.length) : Kd.C (Kd.int .i64) W A q.length q ∧ q.length ≤ c := by
 obtain ⟨h1, h2⟩ := H_ HI S hm
 rw [hq.1]
 exact ⟨Kd.ade h1 hq.2, by rw [List.length_take]; omega⟩
end
section
end
theorem St.join {w W W1 : World} {P : Nat → Prop} {bs : List (Option Nat × Obj)} {ts : List (Value × List ai)} {ro : List (Addr × Value)} {k : Option Nat} {o : Obj} {v : Value} {l : List ai} (S : St w P bs [] ts ro W) (T : St W (Ok w P (keys bs [])) [(k, o)] [(v, l)] [] [] W1) : St w P ((k, o) :: bs) [(v, l)] ts ro W1 := by
 have ke : ∀ x, x ∈ keys ((k, o) :: bs) [(v, l)] ↔ x ∈ keys [(k, o)] [(v, l)] ∨ x ∈ keys bs [] := fun x => by
  unfold keys
  simp only [List.filterMap_cons, List.filterMap_nil, List.flatMap_cons, List.flatMap_nil, List.append_nil]
  cases k <;> cases v.ownBlock <;> simp [or_comm, or_assoc]
 have hb : Below W.heap.size W W1 := T.below
 have hold : ∀ x, x ∈ keys bs [] → x < W.heap.size := fun x hx => S.lt hx
 have hnew : ∀ x, x ∈ keys [(k, o)] [(v, l)] → W.heap.size ≤ x := fun x hx => (T.new x hx).1
 refine ⟨au S.below hb, fun p hp g hg => ?_, fun x hx => ?_, ?_, fun t ht => ?_, fun r hr => ?_, fun c hc => ?_⟩
 ·rcases List.mem_cons.1 hp with rfl | hp
  ·exact T.blk _ List.mem_cons_self g hg
  ·exact aQ (S.blk p hp g hg) hb
 ·rcases (ke x).1 hx with h | h
  ·exact ⟨Nat.le_trans S.below.size (hnew x h), (T.new x h).2⟩
  ·exact ⟨(S.new x h).1, Nat.lt_of_lt_of_le (S.new x h).2 hb.size⟩
 ·have h1 := T.nd
  have h2 := S.nd
  have e : keys ((k, o) :: bs) [(v, l)] = (k.toList ++ bs.filterMap (·.1)) ++ v.ownBlock.toList := by
   unfold keys
   simp only [List.filterMap_cons, List.flatMap_cons, List.flatMap_nil, List.append_nil]
   cases k <;> cases v.ownBlock <;> rfl
  have e1 : keys [(k, o)] [(v, l)] = k.toList ++ v.ownBlock.toList := by
   unfold keys
   simp only [List.filterMap_cons, List.filterMap_nil, List.flatMap_cons, List.flatMap_nil, List.append_nil]
   cases k <;> cases v.ownBlock <;> rfl
  have e2 : keys bs [] = bs.filterMap (·.1) := by unfold keys; simp
  rw [e1] at h1 hnew
  rw [e2] at h2 hold
  rw [e]
  obtain ⟨a1, a2, a3⟩ := List.nodup_append.1 h1
  refine List.nodup_append.2 ⟨List.nodup_append.2 ⟨a1, h2, fun x hx y hy => ?_⟩, a2, fun x hx y hy => ?_⟩
  ·rintro rfl
   have := hold x hy
   have := hnew x (List.mem_append_left _ hx)
   omega
  ·rcases List.mem_append.1 hx with hx | hx
   ·exact a3 x hx y hy
   ·rintro rfl
    have := hold x hx
    have := hnew x (List.mem_append_right _ hy)
    omega
 ·exact Kd.iq (Kd.jT (Kd.Dq (S.tree t ht)) hb) (fun x h => ⟨h.1.1, fun hk => by
   rcases (ke x).1 hk with h2 | h2
   ·have := hnew x h2; have := h.2; omega
   ·exact h.1.2 h2⟩)
 ·rw [List.mem_singleton] at hr
  subst hr
  refine Kd.jq (Kd.xE (T.own _ (List.mem_singleton.2 rfl)) S.below.size) (fun x h => Or.imp (fun h => ⟨?_, fun hk => ?_⟩) id h)
  ·rcases h.1 with h1 | h1
   ·exact h1.1
   ·exact .inr (Nat.le_trans S.below.size h1)
  ·rcases (ke x).1 hk with h2 | h2
   ·exact h.2 h2
   ·rcases h.1 with h1 | h1
    ·exact h1.2 h2
    ·have := hold x h2; omega
 ·have hlt := World.block_lt_of_cell? W _ (S.cell c hc).1
  exact ⟨(hb.cell hlt).trans (S.cell c hc).1, fun hk => by
   rcases (ke _).1 hk with h2 | h2
   ·have := hnew _ h2; omega
   ·exact (S.cell c hc).2 h2⟩
end Go.Proofs.Ytfdmfgaiblfbhaa.P
namespace Go.Proofs.Ytfdmfgaiblfbhaa.Pure
open Go.RowKit Go.Proofs.Ytfdmfgaiblfbhaa.P Go.Proofs.ag.aV Go.Proofs.ag.bP Go.Proofs.ag.cO
theorem Nl : ∀ (a b : List ai), gm (a ++ b) = true → gm b = true := by
 intro a
 induction a with
 | nil => intro b h; exact h
 | cons x xs ih =>
  intro b h
  rw [List.cons_append] at h
  simp only [gm, Bool.and_eq_true] at h
  exact ih b h.2
theorem Np (a b : List ai) (h : gm (a ++ b) = true) : gm a = true := by
 cases ha : gm a with
 | true => rfl
 | false => rw [Ah a b ha] at h; cases h
theorem acj {c x : ai} (h : mM c = true) (hx : x ∈ c.f3) : mM x = true := by
 have hs := o6 h
 have hok := pK h
 have h1 := JO hx
 have h2 := bV c
 have hd : gm (nN c) = true := by
  unfold mM at h
  simp only [Bool.and_eq_true] at h
  exact h.2.2
 unfold mM
 rw [decide_eq_true (by omega), KX hok hx, Bool.true_and, Bool.true_and]
 obtain ⟨p, q, e⟩ := List.append_of_mem hx
 have e2 : iw c = (c :: allL p) ++ (iw x ++ allL q) := by rw [ru, e, DV, ni]; rfl
 unfold nN at hd ⊢
 rw [e2, List.filter_append, List.filter_append] at hd
 exact Np _ _ (Nl _ _ hd)
theorem xQ {c x : ai} (h : dB c = true) (hx : x ∈ c.f3) : dB x = true := by
 have hm := lL h
 unfold dB at h ⊢
 simp only [Bool.and_eq_true] at h
 rw [acj hm hx, Df h.2 hx]
 rfl
theorem jA {ax : Int} (hax : ax = 1 ∨ ax = 2) {c : ai} (h : dB c = true) : aH ax c = aW ax c.f1 - bZ ax c ∧ 0 ≤ aW ax c.f1 - bZ ax c ∧ 1 ≤ bZ ax c ∧ aW ax c.f1 ≤ 10000 := by
 have hm := lL h
 have hB : l_ c = true := by
  unfold dB at h
  simp only [Bool.and_eq_true] at h
  exact h.2
 have f := Ec hax (sz c) c (Nat.le_refl _) (o6 hm) (pK hm)
 have g := f.2 hB
 have r := ou (tY (oG (pK hm))) hax
 unfold aH
 rw [if_pos ⟨hax, h⟩, wq (by omega) (by omega)]
 omega
end Go.Proofs.Ytfdmfgaiblfbhaa.Pure
namespace Go.Proofs.Ytfdmfgaiblfbhaa.P
open Go.RowKit Go.Proofs.ag.aV Go.Proofs.ag.bP Go.Proofs.ag.cO
theorem Nc {c : ai} (hk : c.f0 = 2 ∨ c.f0 = 3) : ku c = c.f3.map (fun k => aW (c.f0 - 1) k.f1) := by
 unfold ku
 apply List.map_congr_left
 intro k _
 unfold szK rX aW
 rcases hk with h | h
 ·rw [if_pos h, if_pos (by omega)]
 ·rw [if_neg (by omega), if_neg (by omega), if_pos (by omega)]
theorem Sj {a : Int} (ha : a = 2 ∨ a = 3) (r : dO) : tX (a - 1) r.f2 r.f3 = aW (a - 1) r ∧ tX (a - 1) r.f3 r.f2 = aW (4 - a) r := by
 rcases ha with h | h <;> simp [tX, aW, h]
theorem aaD (c : ai) (hk : c.f0 = 2 ∨ c.f0 = 3) (hm : lu c.f1 = true) (hl : c.f3.length ≤ 20000) (hne : 0 < c.f3.length) (hs : (c.f3.map (fun k => aW (c.f0 - 1) k.f1)).sum + (c.f3.length : Int) - 1 = aW (c.f0 - 1) c.f1) (hp : ∀ k, k ∈ c.f3 → 1 ≤ aW (c.f0 - 1) k.f1) : (Af c).2.2 = true := by
 have ha : AO c.f0 = c.f0 - 1 := by unfold AO; omega
 have hax : AO c.f0 = 1 ∨ AO c.f0 = 2 := by omega
 have hlen : (ku c).length = c.f3.length := by simp [ku]
 have hm' : qc c.f1.f0 c.f1.f1 c.f1.f2 c.f1.f3 = true := hm
 have hsz := Nc hk
 exact aaB hax hm' (fun e => by rw [e] at hlen; simp at hlen; omega) (by rw [hlen, hsz, ha, (Sj hk c.f1).1]; omega) (fun m hm => by
  rw [hsz] at hm
  obtain ⟨k, hk2, rfl⟩ := List.mem_map.1 hm
  exact hp k hk2)
theorem Xa (a X Y W H : Int) (ha : a = 2 ∨ a = 3) (hX : 0 ≤ X ∧ X ≤ 10000) (hY : 0 ≤ Y ∧ Y ≤ 10000) : ∀ (l : List ai) (off : Int), 0 ≤ off → off + (l.map (fun k => aW (a - 1) k.f1)).sum + (l.length : Int) ≤ 1000000 →
  (∀ k, k ∈ l → 1 ≤ aW (a - 1) k.f1 ∧ aW (4 - a) k.f1 = tX (a - 1) H W) →
  uQ (fun k r => oH k.f1 r) (jZ a l (if a = 2 then X + off else X) (if a = 2 then Y else Y + off)) (Ad (a - 1) X Y W H off (l.map (fun k => aW (a - 1) k.f1))) = true := by
 intro l
 induction l with
 | nil => intro off _ _ _; rw [mZ]; rfl
 | cons k ks ih =>
  intro off h0 hs hk
  have h1 := hk k (by simp)
  have hp := Le (ks.map (fun k => aW (a - 1) k.f1)) (fun m hm => by
   obtain ⟨q, hq, rfl⟩ := List.mem_map.1 hm
   exact (hk q (by simp [hq])).1)
  rw [List.length_map] at hp
  rw [List.map_cons, List.sum_cons, List.length_cons] at hs
  have e := ih (off + aW (a - 1) k.f1 + 1) (by omega) (by omega) (fun q hq => hk q (by simp [hq]))
  have hb : off + aW (a - 1) k.f1 ≤ 1000000 := by omega
  rw [o8, List.map_cons]
  simp only [Ad, uQ, Bool.and_eq_true]
  rcases ha with rfl | rfl
  ·have hx : xq 2 k (X + off) = X + (off + aW (2 - 1) k.f1 + 1) := by
    simp only [xq, aW] at h1 hb ⊢
    simp at h1 hb ⊢
    rw [wp (x := k.f1.f2 + 1) (by omega) (by omega), wp (by omega) (by omega)]
    omega
   refine ⟨F7.2 ?_, ?_⟩
   ·rw [l9]
    simp [tX, aW] at h1 ⊢
    exact h1.2
   ·simp only [if_true] at e ⊢
    rw [hx]
    exact e
  ·have hy : xu 3 k (Y + off) = Y + (off + aW (3 - 1) k.f1 + 1) := by
    simp only [xu, aW] at h1 hb ⊢
    simp at h1 hb ⊢
    rw [wp (x := k.f1.f3 + 1) (by omega) (by omega), wp (by omega) (by omega)]
    omega
   refine ⟨F7.2 ?_, ?_⟩
   ·rw [l9]
    simp [tX, aW] at h1 ⊢
    exact h1.2
   ·simp only [show ¬ ((3 : Int) = 2) by decide, if_false] at e ⊢
    rw [hy]
    exact e
theorem af8 (a : Int) (r : dO) (ha : a = 2 ∨ a = 3) (hr : lu r = true) : ∀ (l : List ai) (off : Int), 0 ≤ off → off + (l.map (fun k => aW (a - 1) k.f1)).sum + (l.length : Int) - 1 ≤ aW (a - 1) r →
  (∀ k, k ∈ l → 1 ≤ aW (a - 1) k.f1 ∧ aW (4 - a) k.f1 = aW (4 - a) r) →
  ∀ z, z ∈ jZ a l (if a = 2 then r.f0 + off else r.f0) (if a = 2 then r.f1 else r.f1 + off) → ∃ k, k ∈ l ∧ ∃ x y, z = bD k x y ∧ lu ⟨x, y, k.f1.f2, k.f1.f3⟩ = true := by
 have hm := xM.1 hr
 intro l
 induction l with
 | nil => intro off _ _ _ z hz; rw [mZ] at hz; cases hz
 | cons k ks ih =>
  intro off h0 hs hk z hz
  have h1 := hk k (by simp)
  have hp := Le (ks.map (fun k => aW (a - 1) k.f1)) (fun m hm => by
   obtain ⟨q, hq, rfl⟩ := List.mem_map.1 hm
   exact (hk q (by simp [hq])).1)
  rw [List.length_map] at hp
  rw [List.map_cons, List.sum_cons, List.length_cons] at hs
  have hb : off + aW (a - 1) k.f1 ≤ aW (a - 1) r := by omega
  rw [o8] at hz
  rcases List.mem_cons.1 hz with rfl | hz
  ·refine ⟨k, by simp, _, _, rfl, xM.2 ?_⟩
   rcases ha with rfl | rfl
   ·simp [aW] at h1 hb hm ⊢
    omega
   ·simp [aW] at h1 hb hm ⊢
    omega
  ·have e : ∃ q, q ∈ ks ∧ ∃ x y, z = bD q x y ∧ lu ⟨x, y, q.f1.f2, q.f1.f3⟩ = true := by
    refine ih (off + aW (a - 1) k.f1 + 1) (by omega) (by omega) (fun q hq => hk q (by simp [hq])) z ?_
    rcases ha with rfl | rfl
    ·have hx : xq 2 k (r.f0 + off) = r.f0 + (off + aW (2 - 1) k.f1 + 1) := by
      simp [xq, aW] at h1 hb hm ⊢
      rw [wp (x := k.f1.f2 + 1) (by omega) (by omega), wp (by omega) (by omega)]
      omega
     simp only [if_true] at hz ⊢
     rw [hx] at hz
     exact hz
    ·have hy : xu 3 k (r.f1 + off) = r.f1 + (off + aW (3 - 1) k.f1 + 1) := by
      simp [xu, aW] at h1 hb hm ⊢
      rw [wp (x := k.f1.f3 + 1) (by omega) (by omega), wp (by omega) (by omega)]
      omega
     simp only [show ¬ ((3 : Int) = 2) by decide, if_false] at hz ⊢
     rw [hy] at hz
     exact hz
   obtain ⟨q, hq, e⟩ := e
   exact ⟨q, by simp [hq], e⟩
def yU (c : ai) : Prop := (iw c).all oh = true ∧ l_ c = true
theorem Ir {c : ai} (h1 : oh c = true) (h2 : oM c = true) (hk : ∀ k, k ∈ c.f3 → yU k) : yU c := by
 refine ⟨?_, ?_⟩
 ·rw [ru, List.all_cons, h1, Bool.true_and]
  have : ∀ l : List ai, (∀ k, k ∈ l → yU k) → (allL l).all oh = true := by
   intro l
   induction l with
   | nil => intro _; rw [qL]; rfl
   | cons x xs ih => intro h; rw [ni, List.all_append, (h x (by simp)).1, ih (fun k hk => h k (by simp [hk]))]; rfl
  exact this c.f3 hk
 ·rw [u_, h2, Bool.true_and]
  exact List.all_eq_true.2 fun k hk2 => (hk k hk2).2
theorem MV (a : Int) (r : dO) (l : List ai) (ha : a = 2 ∨ a = 3) (hr : lu r = true) (hl : 2 ≤ l.length) (hl2 : l.length ≤ 20000) (hs : (l.map (fun k => aW (a - 1) k.f1)).sum + (l.length : Int) - 1 = aW (a - 1) r)
  (hk : ∀ k, k ∈ l → 1 ≤ aW (a - 1) k.f1 ∧ aW (4 - a) k.f1 = aW (4 - a) r) (hg : ∀ k, k ∈ l → ∀ x y, lu ⟨x, y, k.f1.f2, k.f1.f3⟩ = true → yU (bD k x y)) : yU ⟨a, r, 0, jZ a l r.f0 r.f1⟩ := by
 have hm := xM.1 hr
 have hsz : ∀ (l : List ai) (x y : Int) (f : ai → Int), (∀ k x y, f (bD k x y) = f k) → (jZ a l x y).map f = l.map f := by
  intro l
  induction l with
  | nil => intro x y f _; rw [mZ]
  | cons k ks ih => intro x y f hf; rw [o8, List.map_cons, List.map_cons, ih _ _ f hf, hf]
 have hin := af8 a r ha hr l 0 (by omega) (by omega) hk
 have afw := Xa a r.f0 r.f1 r.f2 r.f3 ha (by omega) (by omega) l 0 (by omega) (by have := ou hr (ax := a - 1) (by omega); omega) (fun k h => by rw [(Sj ha r).2]; exact hk k h)
 have hxy : (if a = 2 then r.f0 + 0 else r.f0) = r.f0 ∧ (if a = 2 then r.f1 else r.f1 + 0) = r.f1 := by constructor <;> split <;> omega
 rw [hxy.1, hxy.2] at hin afw
 have hmap : ∀ l x y, (jZ a l x y).map (fun k => aW (a - 1) k.f1) = l.map (fun k => aW (a - 1) k.f1) := fun l x y => hsz l x y _ (fun k x y => by rw [l9]; rfl)
 refine Ir ?_ ?_ (fun z hz => ?_)
 ·unfold oh
  simp only [hr, lZ, Bool.true_and]
  rw [decide_eq_true (show 1 ≤ a ∧ a ≤ 3 by omega), decide_eq_true (show a = 1 → l.length = 0 ∧ (0 : Int) ≤ 0 ∧ (0 : Int) ≤ 2147483647 from fun h => by omega), decide_eq_true (show a > 1 → 2 ≤ l.length ∧ True from fun _ => ⟨hl, trivial⟩)]
  rfl
 ·have ht : (Af ⟨a, r, 0, jZ a l r.f0 r.f1⟩).2.2 = true := aaD _ ha hr (by rw [lZ]; exact hl2) (by rw [lZ]; omega) (by simp only []; rw [hmap, lZ]; exact hs) (fun k hk2 => by
   obtain ⟨q, hq, x, y, rfl, _⟩ := hin k hk2
   rw [l9]
   exact (hk q hq).1)
  obtain ⟨_, gp, _, _⟩ := EY ht
  rw [Nc (c := ⟨a, r, 0, jZ a l r.f0 r.f1⟩) ha] at gp
  simp only [] at gp
  rw [hmap, show AO a = a - 1 by unfold AO; omega] at gp
  unfold oM Ef
  rw [ht, gp, afw]
  simp only [Bool.true_and, Bool.and_true, Bool.or_eq_true]
  right
  have : ∀ (ns : List Int) (off : Int), (Ad (a - 1) r.f0 r.f1 r.f2 r.f3 off ns).length = ns.length := fun ns off => O5 _ _ _ _ _ ns off
  rw [this, List.length_map, lZ]
  simp
 ·obtain ⟨q, hq, x, y, rfl, hm2⟩ := hin z hz
  exact hg q hq x y hm2
theorem Gi (l : List Int) : total l = l.sum := by
 induction l with
 | nil => rfl
 | cons x xs ih => simp only [total, List.sum_cons, ih]
theorem af_ {b : Int} {gs : List Int} (hl : gs.length ≤ 100000) (h0 : -2147483647 ≤ b) (h1 : b ≤ 2147483647) (hg : ∀ g, g ∈ gs → 0 ≤ g ∧ g ≤ 2147483647) (hne : gs ≠ []) (hb : -gs.sum ≤ b) :
  (oz b gs).2 = true ∧ (oz b gs).1.length = gs.length ∧ (oz b gs).1.sum = b ∧ ∀ p, p ∈ gs.zip (oz b gs).1 → -p.1 ≤ p.2 := by
 rcases (zH b gs hl h0 h1).1 with ⟨e, h⟩ | ⟨e, _, _, hb0⟩ | ⟨qs, e, _, _, hq, hgd, _, ho, _⟩
 ·exfalso
  rw [Gi] at h
  rcases h with h | h | h
  ·exact hne h
  ·exact h hg
  ·omega
 ·rw [e]
  refine ⟨rfl, uU _ _, ?_, ?_⟩
  ·rw [← Gi]
   exact QG b gs.length hb0 (List.length_pos_iff.2 hne)
  ·intro p hp
   obtain ⟨a1, a2⟩ := List.of_mem_zip hp
   have h2 := hg _ a1
   simp only [moreL, List.mem_map, List.mem_range] at a2
   obtain ⟨i, _, e2⟩ := a2
   have hn : (0 : Int) < (gs.length : Int) := by have := List.length_pos_iff.2 hne; omega
   have hd : 0 ≤ b / (gs.length : Int) := Int.ediv_nonneg hb0 (by omega)
   unfold lq at e2
   split at e2 <;> omega
 ·rw [e]
  refine ⟨rfl, by rw [← hq]; simp, by rw [← Gi, ← TS]; exact ho, fun p hp => ?_⟩
  simp only [] at hp
  rw [← hq, List.zip_map'] at hp
  obtain ⟨q, hq2, rfl⟩ := List.mem_map.1 hp
  exact (hgd q hq2).2.2.1
theorem OC (ax : Int) : ∀ (l : List ai) (ss : List Int) (ns : Nat → Int) (i : Nat), ss.length = l.length → (∀ j, j < l.length → ns (i + j) = ss.getD j 0) → jW ax l ns i = (l.zip ss).map fun p => dQ ax p.1 p.2 := by
 intro l
 induction l with
 | nil => intro ss ns i _ _; rw [qJ]; rfl
 | cons k ks ih =>
  intro ss ns i hl hn
  cases ss with
  | nil => simp at hl
  | cons s ss =>
   have h0 := hn 0 (by simp)
   rw [Nat.add_zero] at h0
   rw [xH, List.zip_cons_cons, List.map_cons, h0, ih ss ns (i + 1) (by simpa using hl) (fun j hj => by
    have := hn (j + 1) (by simpa using hj)
    rw [show i + 1 + j = i + (j + 1) by omega, this]
    rfl)]
   rfl
theorem SA (f : ai → Int) : ∀ (l : List ai) (ss : List Int), ss.length = l.length → ((l.zip ss).map fun p => f p.1 + p.2).sum = (l.map f).sum + ss.sum := by
 intro l
 induction l with
 | nil => intro ss h; cases ss with
  | nil => rfl
  | cons s ss => simp at h
 | cons k ks ih =>
  intro ss h
  cases ss with
  | nil => simp at h
  | cons s ss =>
   rw [List.zip_cons_cons, List.map_cons, List.map_cons, List.sum_cons, List.sum_cons, List.sum_cons, ih ss (by simpa using h)]
   show f k + s + _ = _
   omega
theorem zip_fst (f : ai → Int) : ∀ (l : List ai) (ss : List Int), ss.length = l.length → ((l.zip ss).map fun p => f p.1) = l.map f := by
 intro l
 induction l with
 | nil => intro ss h; rfl
 | cons k ks ih =>
  intro ss h
  cases ss with
  | nil => simp at h
  | cons s ss => rw [List.zip_cons_cons, List.map_cons, List.map_cons, ih ss (by simpa using h)]
theorem E5 {ax : Int} (hax : ax = 1 ∨ ax = 2) {r : dO} {b : Int} (h0 : 0 ≤ aW ax r + b) (h1 : aW ax r + b ≤ 100000) : aW ax (grow ax b r) = aW ax r + b ∧ aW (3 - ax) (grow ax b r) = aW (3 - ax) r := by
 rcases hax with rfl | rfl
 ·simp [aW, grow] at h0 h1 ⊢
  exact wp (by omega) (by omega)
 ·simp [aW, grow] at h0 h1 ⊢
  exact wp (by omega) (by omega)
theorem IZ {c : ai} (h : dB c = true) : l_ c = true := by
 unfold dB at h
 simp only [Bool.and_eq_true] at h
 exact h.2
theorem ZV {c : ai} (h : oh c = true) (hk : c.f0 = 2 ∨ c.f0 = 3) : c.f2 = 0 := by
 unfold oh at h
 simp only [Bool.and_eq_true, decide_eq_true_eq] at h
 exact (h.2 (by omega)).2
theorem We {ax : Int} (hax : ax = 1 ∨ ax = 2) : ∀ (N : Nat) (c : ai), sz c ≤ N → dB c = true → ∀ b, bZ ax c ≤ aW ax c.f1 + b → aW ax c.f1 + b ≤ 10000 → ∀ x y, lu ⟨x, y, (grow ax b c.f1).f2, (grow ax b c.f1).f3⟩ = true → yU (bD (dQ ax c b) x y) := by
 intro N
 induction N with
 | zero => intro c h; rw [bV] at h; omega
 | succ N ih =>
  intro c hc ht b hb1 hb2 x y hr
  have hm := lL ht
  have hok := oG (pK hm)
  have hsm := o6 hm
  have hB := IZ ht
  have hsz := bV c
  have hlen := ig c.f3
  rw [yI, l9]
  simp only []
  rcases yQ hok with ⟨h1, h2⟩ | ⟨h1, h2⟩
  ·rw [List.eq_nil_of_length_eq_zero h2, qJ, mZ]
   refine Ir ?_ ?_ (fun k hk => by cases hk)
   ·unfold oh at hok ⊢
    simp only [Bool.and_eq_true, decide_eq_true_eq, h1] at hok ⊢
    exact ⟨⟨⟨hr, by omega⟩, fun _ => ⟨rfl, (hok.1.2 trivial).2⟩⟩, fun h => by omega⟩
   ·unfold oM Ef
    simp [h1]
  ·have Vl : oM c = true := by rw [u_, Bool.and_eq_true] at hB; exact hB.1
   obtain ⟨g1, g2⟩ := Eb Vl h1 (by omega)
   have IA : ∀ k, k ∈ c.f3 → sz k ≤ N ∧ dB k = true ∧ aH ax k = aW ax k.f1 - bZ ax k ∧ 0 ≤ aW ax k.f1 - bZ ax k ∧ 1 ≤ bZ ax k ∧ aW ax k.f1 ≤ 10000 ∧ ∀ a, a = 1 ∨ a = 2 → 1 ≤ aW a k.f1 := fun k hk => by
    have q := Pure.xQ ht hk
    have q2 := Pure.jA hax q
    have q3 := JO hk
    exact ⟨by omega, q, q2.1, q2.2.1, q2.2.2.1, q2.2.2.2, fun a ha => (ou (tY (oG (pK (lL q)))) ha).1⟩
   rw [ZV hok h1]
   have hw1 : 0 ≤ aW ax c.f1 + b := by
    have := (Pure.jA hax ht).2.2.1
    omega
   have hgr := E5 hax (r := c.f1) (b := b) hw1 (by omega)
   have fin : ∀ ss : List Int, ss.length = c.f3.length → jW ax c.f3 (Hl ax c.f0 c.f3 b) 0 = (c.f3.zip ss).map (fun p => dQ ax p.1 p.2) → (∀ p, p ∈ c.f3.zip ss → bZ ax p.1 ≤ aW ax p.1.f1 + p.2 ∧ aW ax p.1.f1 + p.2 ≤ 10000) →
     (c.f0 - 1 = ax → ss.sum = b) → (4 - c.f0 = ax → ∀ p, p ∈ c.f3.zip ss → p.2 = b) → yU ⟨c.f0, ⟨x, y, (grow ax b c.f1).f2, (grow ax b c.f1).f3⟩, 0, jZ c.f0 (jW ax c.f3 (Hl ax c.f0 c.f3 b) 0) x y⟩ := by
    intro ss hss Px hp hal hcr
    have hf1 : ∀ p : ai × Int, (dQ ax p.1 p.2).f1 = grow ax p.2 p.1.f1 := fun p => by rw [yI]
    have hpk : ∀ p, p ∈ c.f3.zip ss → p.1 ∈ c.f3 := fun p hq => (List.of_mem_zip hq).1
    have hps : ∀ p, p ∈ c.f3.zip ss → aW ax (dQ ax p.1 p.2).f1 = aW ax p.1.f1 + p.2 ∧ aW (3 - ax) (dQ ax p.1 p.2).f1 = aW (3 - ax) p.1.f1 := fun p hq => by
     rw [hf1]
     have := (IA _ (hpk p hq)).2.2.2.2.1
     have := hp p hq
     exact E5 hax (by omega) (by omega)
    rw [Px]
    refine MV c.f0 ⟨x, y, (grow ax b c.f1).f2, (grow ax b c.f1).f3⟩ _ h1 hr (by simp [hss]; omega) (by simp [hss]; omega) ?_ ?_ ?_
    ·have e0 : ∀ a, aW a ⟨x, y, (grow ax b c.f1).f2, (grow ax b c.f1).f3⟩ = aW a (grow ax b c.f1) := fun a => rfl
     rw [e0, List.map_map, List.length_map, List.length_zip, hss, Nat.min_self]
     by_cases e : c.f0 - 1 = ax
     ·rw [e] at g1 ⊢
      have e2 : List.map ((fun k => aW ax k.f1) ∘ fun p : ai × Int => dQ ax p.1 p.2) (c.f3.zip ss) = List.map (fun p => aW ax p.1.f1 + p.2) (c.f3.zip ss) := List.map_congr_left (fun p hq => (hps p hq).1)
      rw [hgr.1, e2, SA (fun k => aW ax k.f1) _ _ hss, hal e]
      omega
     ·have e2 : c.f0 - 1 = 3 - ax := by omega
      rw [e2] at g1 ⊢
      have e3 : List.map ((fun k => aW (3 - ax) k.f1) ∘ fun p : ai × Int => dQ ax p.1 p.2) (c.f3.zip ss) = List.map (fun p => aW (3 - ax) p.1.f1) (c.f3.zip ss) := List.map_congr_left (fun p hq => (hps p hq).2)
      rw [hgr.2, e3, zip_fst (fun k => aW (3 - ax) k.f1) _ _ hss]
      exact g1
    ·intro k hk
     obtain ⟨p, hq, rfl⟩ := List.mem_map.1 hk
     have q1 := hps p hq
     have q2 := IA _ (hpk p hq)
     have q3 := hp p hq
     have q4 := g2 _ (hpk p hq)
     have e0 : ∀ a, aW a ⟨x, y, (grow ax b c.f1).f2, (grow ax b c.f1).f3⟩ = aW a (grow ax b c.f1) := fun a => rfl
     rw [e0]
     by_cases e : c.f0 - 1 = ax
     ·rw [show 4 - c.f0 = 3 - ax by omega, e, hgr.2, q1.1, q1.2]
      rw [show 3 - (c.f0 - 1) = 3 - ax by omega] at q4
      exact ⟨by omega, q4⟩
     ·have e2 : c.f0 - 1 = 3 - ax := by omega
      have e3 : 4 - c.f0 = ax := by omega
      rw [e2, e3, hgr.1, q1.1, q1.2]
      rw [show 3 - (c.f0 - 1) = ax by omega] at q4
      exact ⟨q2.2.2.2.2.2.2 _ (by omega), by rw [q4, hcr e3 p hq]⟩
    ·intro k hk x' y' hm2
     obtain ⟨p, hq, rfl⟩ := List.mem_map.1 hk
     have q2 := IA _ (hpk p hq)
     have q3 := hp p hq
     rw [hf1] at hm2
     exact ih p.1 q2.1 q2.2.1 p.2 q3.1 q3.2 x' y' hm2
   have hrs := ou hr hax
   rw [show aW ax ⟨x, y, (grow ax b c.f1).f2, (grow ax b c.f1).f3⟩ = aW ax (grow ax b c.f1) from rfl, hgr.1] at hrs
   by_cases e : c.f0 - 1 = ax
   ·have ha : fK ax c.f0 = true := by
     unfold fK
     simp
     omega
    have hgs : c.f3.map (aH ax) = c.f3.map (fun k => aW ax k.f1 - bZ ax k) := List.map_congr_left (fun k hk => (IA k hk).2.2.1)
    have hsub : ∀ l : List ai, (l.map (fun k => aW ax k.f1 - bZ ax k)).sum = (l.map (fun k => aW ax k.f1)).sum - nT ax l := by
     intro l
     induction l with
     | nil => rw [uZ]; rfl
     | cons k ks ihk => rw [List.map_cons, List.map_cons, List.sum_cons, List.sum_cons, qG, ihk]; omega
    rw [qx, if_neg (by omega), ha, if_pos rfl] at hb1
    rw [e] at g1
    obtain ⟨s1, s2, s3, s4⟩ := af_ (b := b) (gs := c.f3.map (aH ax)) (by simp; omega) (by have := ou (tY hok) hax; omega) (by have := ou (tY hok) hax; omega) (fun g hg => by
     obtain ⟨k, hk, rfl⟩ := List.mem_map.1 hg
     have := IA k hk
     omega) (fun h => by rw [List.map_eq_nil_iff] at h; rw [h] at h2; simp at h2) (by rw [hgs, hsub]; omega)
    rw [List.length_map] at s2
    have hz : ∀ p, p ∈ c.f3.zip (oz b (c.f3.map (aH ax))).1 → -(aH ax p.1) ≤ p.2 := fun p hp => s4 (aH ax p.1, p.2) (by
     rw [List.zip_map_left]
     exact List.mem_map.2 ⟨p, hp, rfl⟩)
    have hle : ∀ p, p ∈ c.f3.zip (oz b (c.f3.map (aH ax))).1 → bZ ax p.1 ≤ aW ax p.1.f1 + p.2 := fun p hp => by
     have q1 := hz p hp
     have q2 := IA p.1 (List.of_mem_zip hp).1
     omega
    refine fin (oz b (c.f3.map (aH ax))).1 s2 (OC ax _ _ _ _ s2 (fun j hj => ?_)) (fun p hp => ⟨hle p hp, ?_⟩) (fun _ => s3) (fun h => by omega)
    ·rw [Nat.zero_add]
     unfold Hl
     rw [if_pos ⟨s1, ha⟩]
     rfl
    ·
     have q := SA (fun k => aW ax k.f1) c.f3 (oz b (c.f3.map (aH ax))).1 s2
     rw [s3] at q
     obtain ⟨u, v, huv⟩ := List.append_of_mem hp
     have hpos : ∀ z : List (ai × Int), (∀ p, p ∈ z → p ∈ c.f3.zip (oz b (c.f3.map (aH ax))).1) → 0 ≤ (z.map fun p => aW ax p.1.f1 + p.2).sum := by
      intro z
      induction z with
      | nil => intro _; simp
      | cons w ws ihw =>
       intro hw
       have a1 := ihw (fun p hp => hw p (by simp [hp]))
       have a2 := hle w (hw w (by simp))
       have a3 := (IA w.1 (List.of_mem_zip (hw w (by simp))).1).2.2.2.2.1
       rw [List.map_cons, List.sum_cons]
       omega
     have p1 := hpos u (fun p hp => by rw [huv]; simp [hp])
     have p2 := hpos v (fun p hp => by rw [huv]; simp [hp])
     rw [huv, List.map_append, List.map_cons, List.sum_append, List.sum_cons] at q
     omega
   ·have ha : fK ax c.f0 = false := by
     unfold fK
     simp
     omega
    have e3 : 4 - c.f0 = ax := by omega
    rw [qx, if_neg (by omega), ha, if_neg (by simp)] at hb1
    have ahb : ∀ k, k ∈ c.f3 → bZ ax k ≤ nD ax 0 c.f3 := fun k hk => by
     obtain ⟨u, v, huv⟩ := List.append_of_mem hk
     rw [huv, Wu, lX]
     exact Int.le_trans (Wi _ _) P6
    have hrep : ∀ p, p ∈ c.f3.zip (List.replicate c.f3.length b) → p.2 = b := fun p hp => (List.mem_replicate.1 (List.of_mem_zip hp).2).2
    refine fin (List.replicate c.f3.length b) (by simp) (OC ax _ _ _ _ (by simp) (fun j hj => ?_)) (fun p hp => ?_) (fun h => absurd h e) (fun _ => hrep)
    ·unfold Hl
     rw [if_neg (by rw [ha]; simp)]
     simp [List.getD_eq_getElem?_getD, hj]
    ·have q := (List.of_mem_zip hp).1
     rw [hrep p hp]
     have q1 := ahb p.1 q
     have q2 := g2 p.1 q
     rw [show 3 - (c.f0 - 1) = ax by omega] at q2
     omega
mutual
inductive pY : ai → ai → Prop
 | node (a : Int) (r r' : dO) (d : Int) (l l' : List ai) : vw l l' → pY ⟨a, r, d, l⟩ ⟨a, r', d, l'⟩
inductive vw : List ai → List ai → Prop
 | nil : vw [] []
 | cons {k k' : ai} {l l' : List ai} : pY k k' → vw l l' → vw (k :: l) (k' :: l')
end
def tag (d : ai) : Int × Int := (d.f0, d.f2)
mutual
theorem FT : ∀ {c d : ai}, pY c d → (iw c).map tag = (iw d).map tag
 | _, _, .node a r r' d l l' h => by
  rw [ru, ru, List.map_cons, List.map_cons]
  exact congr (congrArg List.cons rfl) (MR h)
theorem MR : ∀ {l l' : List ai}, vw l l' → (allL l).map tag = (allL l').map tag
 | _, _, .nil => rfl
 | _, _, .cons h hs => by rw [ni, ni, List.map_append, List.map_append, FT h, MR hs]
end
theorem MP : ∀ {l l' : List ai}, vw l l' → l.length = l'.length
 | _, _, .nil => rfl
 | _, _, .cons _ hs => by rw [List.length_cons, List.length_cons, MP hs]
mutual
theorem y7 {ax : Int} : ∀ {c d : ai}, pY c d → bZ ax c = bZ ax d
 | _, _, .node a r r' d l l' h => by
  rw [qx, qx]
  simp only []
  rw [MP h, MQ h, Jw h]
theorem MQ {ax : Int} : ∀ {l l' : List ai}, vw l l' → nT ax l = nT ax l'
 | _, _, .nil => rfl
 | _, _, .cons h hs => by rw [qG, qG, y7 h, MQ hs]
theorem Jw {ax : Int} : ∀ {l l' : List ai} {m : Int}, vw l l' → nD ax m l = nD ax m l'
 | _, _, _, .nil => rfl
 | _, _, _, .cons h hs => by rw [lX, lX, y7 h, Jw hs]
end
theorem IE {c d : ai} (h : pY c d) : sz c = sz d := by
 have := congrArg List.length (FT h)
 rwa [List.length_map, List.length_map] at this
theorem TQ : ∀ (N : Nat), (∀ c : ai, sz c ≤ N → ∀ d e, pY c d → pY d e → pY c e) ∧ (∀ l : List ai, dU l ≤ N → ∀ m n, vw l m → vw m n → vw l n) := by
 intro N
 induction N with
 | zero =>
  refine ⟨fun c h => by rw [bV] at h; omega, fun l h m n h1 h2 => ?_⟩
  cases h1 with
  | nil => exact h2
  | cons a b => rw [df, bV] at h; omega
 | succ N ih =>
  have hC : ∀ c : ai, sz c ≤ N + 1 → ∀ d e, pY c d → pY d e → pY c e := by
   intro c h d e h1 h2
   cases h1 with
   | node a r r' i l l' h3 =>
    cases h2 with
    | node _ _ r2 _ _ l2 h4 => exact .node _ _ _ _ _ _ (ih.2 l (by rw [bV] at h; simp only [] at h; omega) _ _ h3 h4)
  refine ⟨hC, fun l => ?_⟩
  induction l with
  | nil => intro _ m n h1 h2; cases h1; exact h2
  | cons x xs ihl =>
   intro h m n h1 h2
   rw [df] at h
   cases h1 with
   | cons a b =>
    cases h2 with
    | cons a2 b2 => exact .cons (hC x (by omega) _ _ a a2) (ihl (by omega) _ _ b b2)
theorem XC (ax : Int) : ∀ (N : Nat), (∀ c : ai, sz c ≤ N → ∀ b, pY c (dQ ax c b)) ∧ (∀ l : List ai, dU l ≤ N → ∀ ns i, vw l (jW ax l ns i)) := by
 intro N
 induction N with
 | zero =>
  refine ⟨fun c h => by rw [bV] at h; omega, fun l h ns i => ?_⟩
  cases l with
  | nil => rw [qJ]; exact .nil
  | cons x xs => rw [df, bV] at h; omega
 | succ N ih =>
  have hC : ∀ c : ai, sz c ≤ N + 1 → ∀ b, pY c (dQ ax c b) := by
   intro c h b
   rw [yI]
   obtain ⟨a, r, d, l⟩ := c
   exact .node _ _ _ _ _ _ (ih.2 l (by rw [bV] at h; simp only [] at h; omega) _ _)
  refine ⟨hC, fun l => ?_⟩
  induction l with
  | nil => intro _ ns i; rw [qJ]; exact .nil
  | cons x xs ihl =>
   intro h ns i
   rw [df] at h
   rw [xH]
   exact .cons (hC x (by omega) _) (ihl (by omega) _ _)
theorem IW : ∀ (N : Nat), (∀ c : ai, sz c ≤ N → ∀ x y, pY c (bD c x y)) ∧ (∀ l : List ai, dU l ≤ N → ∀ a x y, vw l (jZ a l x y)) := by
 intro N
 induction N with
 | zero =>
  refine ⟨fun c h => by rw [bV] at h; omega, fun l h a x y => ?_⟩
  cases l with
  | nil => rw [mZ]; exact .nil
  | cons x xs => rw [df, bV] at h; omega
 | succ N ih =>
  have hC : ∀ c : ai, sz c ≤ N + 1 → ∀ x y, pY c (bD c x y) := by
   intro c h x y
   rw [l9]
   obtain ⟨a, r, d, l⟩ := c
   exact .node _ _ _ _ _ _ (ih.2 l (by rw [bV] at h; simp only [] at h; omega) _ _ _)
  refine ⟨hC, fun l => ?_⟩
  induction l with
  | nil => intro _ a x y; rw [mZ]; exact .nil
  | cons z zs ihl =>
   intro h a x y
   rw [df] at h
   rw [o8]
   exact .cons (hC z (by omega) _ _) (ihl (by omega) _ _ _)
theorem O8 : ∀ {a b : List ai}, a.map (·.f2) = b.map (·.f2) → gm a = gm b := by
 intro a
 induction a with
 | nil => intro b h; cases b with
  | nil => rfl
  | cons y ys => cases h
 | cons x xs ih =>
  intro b h
  cases b with
  | nil => cases h
  | cons y ys =>
   simp only [List.map_cons, List.cons.injEq] at h
   unfold gm
   rw [ih h.2, h.1]
   congr 1
   have e : ∀ l : List ai, (l.all fun z => decide (z.f2 ≠ y.f2)) = (l.map (·.f2)).all fun i => decide (i ≠ y.f2) := fun l => by rw [List.all_map]; rfl
   rw [e, e, h.2]
theorem Yy {c d : ai} (h : pY c d) : (nN c).map (·.f2) = (nN d).map (·.f2) := by
 have e : ∀ l : List ai, (l.filter fun x => decide (x.f0 = 1)).map (·.f2) = ((l.map tag).filter fun p => decide (p.1 = 1)).map (·.2) := by
  intro l
  induction l with
  | nil => rfl
  | cons x xs ih =>
   rw [List.map_cons, List.filter_cons, List.filter_cons]
   have ht : (decide ((tag x).1 = 1)) = decide (x.f0 = 1) := rfl
   rw [ht]
   cases decide (x.f0 = 1) with
   | true => simp only [if_true, List.map_cons, ih]; rfl
   | false => simp only [Bool.false_eq_true, if_false, ih]
 unfold nN
 rw [e, e, FT h]
theorem Jy {c d : ai} (h : pY c d) (hc : dB c = true) (hd : yU d) : dB d = true := by
 have hm := lL hc
 unfold mM at hm
 simp only [Bool.and_eq_true, decide_eq_true_eq] at hm
 unfold dB mM
 rw [hd.1, hd.2, decide_eq_true (by rw [← IE h]; exact hm.1), ← O8 (Yy h), hm.2.2]
 rfl
theorem Y0 : ∀ (N : Nat) (c : ai), sz c ≤ N → dB c = true → ∀ x y, lu ⟨x, y, c.f1.f2, c.f1.f3⟩ = true → yU (bD c x y) := by
 intro N
 induction N with
 | zero => intro c h; rw [bV] at h; omega
 | succ N ih =>
  intro c hc ht x y hr
  have hm := lL ht
  have hok := oG (pK hm)
  have hsm := o6 hm
  have hB := IZ ht
  have hsz := bV c
  have hlen := ig c.f3
  rw [l9]
  rcases yQ hok with ⟨h1, h2⟩ | ⟨h1, h2⟩
  ·rw [List.eq_nil_of_length_eq_zero h2, mZ]
   refine Ir ?_ ?_ (fun k hk => by cases hk)
   ·unfold oh at hok ⊢
    simp only [Bool.and_eq_true, decide_eq_true_eq, h1] at hok ⊢
    exact ⟨⟨⟨hr, by omega⟩, fun _ => ⟨rfl, (hok.1.2 trivial).2⟩⟩, fun h => by omega⟩
   ·unfold oM Ef
    simp [h1]
  ·have Vl : oM c = true := by rw [u_, Bool.and_eq_true] at hB; exact hB.1
   obtain ⟨g1, g2⟩ := Eb Vl h1 (by omega)
   rw [ZV hok h1]
   refine MV c.f0 ⟨x, y, c.f1.f2, c.f1.f3⟩ c.f3 h1 hr h2 (by omega) g1 (fun k hk => ?_) (fun k hk x' y' hm2 => ?_)
   ·have q := Pure.xQ ht hk
    have r := tY (oG (pK (lL q)))
    refine ⟨(ou r (by omega)).1, ?_⟩
    have := g2 k hk
    rwa [show 3 - (c.f0 - 1) = 4 - c.f0 by omega] at this
   ·exact ih k (by have := JO hk; omega) (Pure.xQ ht hk) x' y' hm2
theorem Xc {c : ai} (h : dB c = true) {x y : Int} (hr : lu ⟨x, y, c.f1.f2, c.f1.f3⟩ = true) : dB (bD c x y) = true :=
 Jy ((IW (sz c)).1 c (Nat.le_refl _) x y) h (Y0 _ c (Nat.le_refl _) h x y hr)
noncomputable def yJ (ax n : Int) (k : ai) : ai := aZ ax (bD k 0 0) n
theorem UX {ax n : Int} {k : ai} (hax : ax = 1 ∨ ax = 2) (ht : dB k = true) (h0 : -(aH ax k) ≤ n) (h1 : aW ax k.f1 + n ≤ 10000) :
  dB (yJ ax n k) = true ∧ aW ax (yJ ax n k).f1 = aW ax k.f1 + n ∧ aH ax (yJ ax n k) = aH ax k + n ∧ sz (yJ ax n k) = sz k := by
 have hm := lL ht
 have hr := xM.1 (show qc k.f1.f0 k.f1.f1 k.f1.f2 k.f1.f3 = true from tY (oG (pK hm)))
 have g := Pure.jA hax ht
 have hz : lu ⟨0, 0, k.f1.f2, k.f1.f3⟩ = true := show qc 0 0 k.f1.f2 k.f1.f3 = true from xM.2 (by omega)
 have ht0 := Xc ht hz
 have e0 : (bD k 0 0).f1 = ⟨0, 0, k.f1.f2, k.f1.f3⟩ := by rw [l9]
 have es : ∀ a, aW a (bD k 0 0).f1 = aW a k.f1 := fun a => by rw [e0]; rfl
 have hl0 := (IW (sz k)).1 k (Nat.le_refl _) 0 0
 have g0 := Pure.jA hax ht0
 have el : bZ ax (bD k 0 0) = bZ ax k := (y7 hl0).symm
 rw [es, el] at g0
 have hsz : aW ax k.f1 = k.f1.f2 ∨ aW ax k.f1 = k.f1.f3 := by unfold aW; rcases hax with h | h <;> simp [h]
 have hbad : rq ax (bD k 0 0) = false := by
  unfold rq
  rw [ht0]
  rcases hax with h | h <;> simp [h]
 have hout : yc ax (bD k 0 0) n = false := by
  unfold yc
  rw [g0.1, e0]
  simp only []
  have hw : wrap64 (-(aW ax k.f1 - bZ ax k)) = -(aW ax k.f1 - bZ ax k) := by unfold wrap64; omega
  have hs : aW ax ⟨0, 0, wrap64 (0 + k.f1.f2), wrap64 (0 + k.f1.f3)⟩ = aW ax k.f1 := by
   rw [show wrap64 (0 + k.f1.f2) = k.f1.f2 by unfold wrap64; omega, show wrap64 (0 + k.f1.f3) = k.f1.f3 by unfold wrap64; omega]
   rfl
  rw [hs, show wrap64 (10000 - aW ax k.f1) = 10000 - aW ax k.f1 by unfold wrap64; omega, hw]
  rw [decide_eq_false (by omega), decide_eq_false (by omega)]
  rfl
 have Px : yJ ax n k = bD (dQ ax (bD k 0 0) n) 0 0 := by
  unfold yJ aZ
  rw [hbad, hout, e0]
  simp
 have hgr := E5 hax (r := (bD k 0 0).f1) (b := n) (by rw [es]; omega) (by rw [es]; omega)
 have ef1 : (dQ ax (bD k 0 0) n).f1 = grow ax n (bD k 0 0).f1 := by rw [yI]
 have eg : (yJ ax n k).f1 = ⟨0, 0, (grow ax n (bD k 0 0).f1).f2, (grow ax n (bD k 0 0).f1).f3⟩ := by rw [Px, l9, ef1]
 have hsize : aW ax (yJ ax n k).f1 = aW ax k.f1 + n := by rw [eg]; rw [es] at hgr; exact hgr.1
 have hmay : lu ⟨0, 0, (grow ax n (bD k 0 0).f1).f2, (grow ax n (bD k 0 0).f1).f3⟩ = true := by
  show qc 0 0 (grow ax n (bD k 0 0).f1).f2 (grow ax n (bD k 0 0).f1).f3 = true
  refine xM.2 ?_
  have h3 := hgr.1
  have h4 := hgr.2
  rw [es] at h3 h4
  generalize grow ax n (bD k 0 0).f1 = G at h3 h4 ⊢
  have h5 : 1 ≤ aW ax k.f1 + n := by omega
  unfold aW at h3 h4 h1 h5
  rcases hax with rfl | rfl
  ·simp at h3 h4 h1 h5; omega
  ·simp at h3 h4 h1 h5; omega
 have ag_ : yU (yJ ax n k) := by
  rw [Px]
  exact We hax _ (bD k 0 0) (Nat.le_refl _) ht0 n (by rw [es, el]; omega) (by rw [es]; omega) 0 0 hmay
 have hl1 : pY (bD k 0 0) (yJ ax n k) := by
  rw [Px]
  exact (TQ _).1 _ (Nat.le_refl _) _ _ ((XC ax _).1 _ (Nat.le_refl _) n) ((IW _).1 _ (Nat.le_refl _) 0 0)
 have htt := Jy hl1 ht0 ag_
 have g1 := Pure.jA hax htt
 refine ⟨htt, hsize, ?_, by rw [← IE hl1, ← IE hl0]⟩
 rw [g1.1, hsize, ← y7 hl1, el, g.1]
 omega
def kd (L : List ai) (i : Nat) : ai := L.getD i z26
theorem jP {L : List ai} {i : Nat} (h : i < L.length) : kd L i ∈ L := by
 unfold kd
 rw [List.getD_eq_getElem?_getD, List.getElem?_eq_getElem h, Option.getD_some]
 exact List.getElem_mem _
theorem Ju (L : List ai) (i : Nat) : aA L (i : Int) = kd L i := by unfold kd aA; rw [Int.toNat_natCast]
theorem PW {L : List ai} {i j : Nat} {k : ai} (h : i < L.length) : kd (L.set i k) j = if j = i then k else kd L j := by
 unfold kd
 rw [List.getD_eq_getElem?_getD, List.getD_eq_getElem?_getD, List.getElem?_set]
 by_cases e : i = j
 ·subst e; rw [if_pos rfl, if_pos rfl, if_pos h]; rfl
 ·rw [if_neg e, if_neg (fun x => e x.symm)]
theorem acE (f : ai → Int) : ∀ {L : List ai} {i : Nat} {k : ai}, i < L.length → ((L.set i k).map f).sum = (L.map f).sum - f (kd L i) + f k := by
 intro L
 induction L with
 | nil => intro i k h; simp at h
 | cons x xs ih =>
  intro i k h
  cases i with
  | zero => simp only [List.set_cons_zero, List.map_cons, List.sum_cons]; show _ = f x + _ - f x + f k; omega
  | succ i =>
   simp only [List.set_cons_succ, List.map_cons, List.sum_cons]
   rw [ih (by simpa using h)]
   show _ = f x + _ - f (kd xs i) + f k
   omega
theorem Y5 : ∀ {L : List ai} {i : Nat} {k : ai}, i < L.length → sz k = sz (kd L i) → dU (L.set i k) = dU L := by
 intro L
 induction L with
 | nil => intro i k h; simp at h
 | cons x xs ih =>
  intro i k h hs
  cases i with
  | zero => rw [List.set_cons_zero, df, df, hs]; rfl
  | succ i => rw [List.set_cons_succ, df, df, ih (by simpa using h) hs]
theorem afI {f : ai → Int} : ∀ {L : List ai}, (∀ k, k ∈ L → 0 ≤ f k) → ∀ k, k ∈ L → f k ≤ (L.map f).sum := by
 intro L
 induction L with
 | nil => intro _ k h; cases h
 | cons x xs ih =>
  intro h k hk
  have h0 : ∀ l : List ai, (∀ k, k ∈ l → 0 ≤ f k) → 0 ≤ (l.map f).sum := by
   intro l
   induction l with
   | nil => intro _; exact Int.le_refl _
   | cons y ys ihl =>
    intro h
    have := h y (by simp)
    have := ihl (fun k hk => h k (by simp [hk]))
    rw [List.map_cons, List.sum_cons]
    omega
  rw [List.map_cons, List.sum_cons]
  have h1 := h x (by simp)
  have h2 := h0 xs (fun k hk => h k (by simp [hk]))
  rcases List.mem_cons.1 hk with rfl | hk
  ·omega
  ·have := ih (fun k hk => h k (by simp [hk])) k hk; omega
noncomputable def cZ (ax : Int) (i : Nat) (n : Int) (L : List ai) : List ai := L.set i (yJ ax n (kd L i))
structure rZ (ax s : Int) (L : List ai) : Prop where
 kN : ∀ k, k ∈ L → dB k = true
 sum : (L.map (fun k => aW ax k.f1)).sum = s
 small : s ≤ 10000
theorem rZ.size {ax s : Int} {L : List ai} (hax : ax = 1 ∨ ax = 2) (h : rZ ax s L) {k : ai} (hk : k ∈ L) : aW ax k.f1 ≤ s := by
 have := afI (f := fun k => aW ax k.f1) (fun k hk => by have := Pure.jA hax (h.kN k hk); omega) k hk
 rw [h.sum] at this
 exact this
theorem rZ.move {ax s : Int} {L : List ai} (hax : ax = 1 ∨ ax = 2) (h : rZ ax s L) {i : Nat} {n : Int} (hi : i < L.length) (h0 : -(aH ax (kd L i)) ≤ n) (h1 : s + n ≤ 10000) :
  rZ ax (s + n) (cZ ax i n L) ∧ aH ax (kd (cZ ax i n L) i) = aH ax (kd L i) + n ∧ (∀ j, j ≠ i → kd (cZ ax i n L) j = kd L j) ∧ (cZ ax i n L).length = L.length ∧ dU (cZ ax i n L) = dU L ∧ aW ax (kd (cZ ax i n L) i).f1 = aW ax (kd L i).f1 + n := by
 have hm := jP hi
 have hs := h.size hax hm
 obtain ⟨k1, k2, k3, k4⟩ := UX hax (h.kN _ hm) h0 (by omega)
 unfold cZ
 refine ⟨⟨fun k hk => ?_, ?_, h1⟩, ?_, fun j hj => by rw [PW hi, if_neg hj], by rw [List.length_set], Y5 hi k4, ?_⟩
 ·rcases List.mem_or_eq_of_mem_set hk with hk | rfl
  ·exact h.kN k hk
  ·exact k1
 ·rw [acE _ hi, h.sum, k2]
  omega
 ·rw [PW hi, if_pos rfl, k3]
 ·rw [PW hi, if_pos rfl, k2]
structure su (ax s : Int) (p N : Nat) (L0 L : List ai) (d : Int) : Prop where
 good : rZ ax s L
 FY : p < L.length
 d0 : 0 ≤ d
 dg : aH ax (kd L p) = aH ax (kd L0 p) + d
 ds : aW ax (kd L p).f1 = aW ax (kd L0 p).f1 + d
 z : dU L = N
 len : L.length = L0.length
theorem su.start {ax s : Int} {p : Nat} {L : List ai} (h : rZ ax s L) (hp : p < L.length) : su ax s p (dU L) L L 0 := ⟨h, hp, Int.le_refl _, by omega, by omega, rfl, rfl⟩
theorem su.small {ax s : Int} {p N : Nat} {L0 L : List ai} {d : Int} (hax : ax = 1 ∨ ax = 2) (h : su ax s p N L0 L d) (h0 : 0 ≤ aH ax (kd L0 p)) : d ≤ 9999 := by
 have := Pure.jA hax (h.good.kN _ (jP h.FY))
 have := h.dg
 omega
theorem su.step {ax s : Int} {p N : Nat} {L0 L : List ai} {d n : Int} {i : Nat} (hax : ax = 1 ∨ ax = 2) (h : su ax s p N L0 L d) (hi : i < L.length) (hne : i ≠ p) (hn0 : 0 ≤ n) (hn : n ≤ aH ax (kd L i)) :
  su ax s p N L0 (cZ ax p n (cZ ax i (-n) L)) (d + n) := by
 obtain ⟨a1, a2, a3, a4, a5, a6⟩ := h.good.move hax hi (n := -n) (by omega) (by have := h.good.small; omega)
 have hp : p < (cZ ax i (-n) L).length := by rw [a4]; exact h.FY
 have e := a3 p (fun e => hne e.symm)
 have hg := Pure.jA hax (h.good.kN _ (jP h.FY))
 obtain ⟨b1, b2, b3, b4, b5, b6⟩ := a1.move hax hp (n := n) (by rw [e]; omega) (by have := h.good.small; omega)
 have hd := h.dg
 have hs := h.ds
 have h0 := h.d0
 refine ⟨?_, by rw [b4]; exact hp, by omega, by rw [b2, e]; omega, by rw [b6, e]; omega, by rw [b5, a5]; exact h.z, by rw [b4, a4]; exact h.len⟩
 have e2 : s + -n + n = s := by omega
 rw [e2] at b1
 exact b1
def EZ (p : Nat → Bool) : Nat → Nat → Option Nat
 | 0, _ => none
 | f + 1, i => if p i = true then some i else EZ p f (i + 1)
def ny (p : Nat → Bool) : Nat → Option Nat
 | 0 => none
 | n + 1 => if p n = true then some n else ny p n
noncomputable def mQ (ax : Int) (L : List ai) (i : Nat) : Bool := decide (0 < aH ax (kd L i))
noncomputable def jY (ax : Int) (q : Nat) (m : Bool) (L : List ai) : Option Nat :=
 match (if m = true then EZ (mQ ax L) (L.length - (q + 1)) (q + 1) else none) with
 | some i => some i
 | none => ny (mQ ax L) (if m = true then q else q + 1)
theorem Yc {p : Nat → Bool} : ∀ {f i j : Nat}, EZ p f i = some j → i ≤ j ∧ j < i + f ∧ p j = true := by
 intro f
 induction f with
 | zero => intro i j h; cases h
 | succ f ih =>
  intro i j h
  unfold EZ at h
  split at h
  ·rename_i hp; injection h with h; subst h; exact ⟨Nat.le_refl _, by omega, hp⟩
  ·obtain ⟨a, b, c⟩ := ih h; exact ⟨by omega, by omega, c⟩
theorem Iu {p : Nat → Bool} : ∀ {n j : Nat}, ny p n = some j → j < n ∧ p j = true := by
 intro n
 induction n with
 | zero => intro j h; cases h
 | succ n ih =>
  intro j h
  unfold ny at h
  split at h
  ·rename_i hp; injection h with h; subst h; exact ⟨by omega, hp⟩
  ·obtain ⟨a, b⟩ := ih h; exact ⟨by omega, b⟩
def place (q : Nat) (m : Bool) : Nat := if m = true then q else q + 1
theorem yl {ax : Int} {q : Nat} {m : Bool} {L : List ai} {i : Nat} (h : jY ax q m L = some i) (hq : q + 1 < L.length) : i < L.length ∧ i ≠ place q m ∧ 0 < aH ax (kd L i) := by
 unfold jY at h
 unfold place
 cases m with
 | true =>
  simp only [if_true] at h ⊢
  cases hu : EZ (mQ ax L) (L.length - (q + 1)) (q + 1) with
  | some j =>
   rw [hu] at h
   injection h with h
   subst h
   obtain ⟨a, b, c⟩ := Yc hu
   exact ⟨by omega, by omega, by simpa [mQ] using c⟩
  | none =>
   rw [hu] at h
   obtain ⟨a, b⟩ := Iu h
   exact ⟨by omega, by omega, by simpa [mQ] using b⟩
 | false =>
  simp only [Bool.false_eq_true, if_false] at h ⊢
  obtain ⟨a, b⟩ := Iu h
  exact ⟨by omega, by omega, by simpa [mQ] using b⟩
noncomputable def gW (ax : Int) (q : Nat) (m : Bool) (left : Int) : Nat → List ai → Int → List ai × Int
 | 0, L, d => (L, d)
 | f + 1, L, d => if left ≤ d then (L, d) else match jY ax q m L with
  | none => (L, d)
  | some i => gW ax q m left f (cZ ax (place q m) (mn (left - d) (aH ax (kd L i))) (cZ ax i (-(mn (left - d) (aH ax (kd L i)))) L)) (d + mn (left - d) (aH ax (kd L i)))
theorem t_ {ax : Int} {q : Nat} {m : Bool} {left : Int} {f : Nat} {L : List ai} {d : Int} (h : left ≤ d) : gW ax q m left f L d = (L, d) := by
 cases f with
 | zero => rfl
 | succ f => unfold gW; rw [if_pos h]
theorem wR {ax : Int} {q : Nat} {m : Bool} {left : Int} {f : Nat} {L : List ai} {d : Int} (h : jY ax q m L = none) : gW ax q m left f L d = (L, d) := by
 cases f with
 | zero => rfl
 | succ f => unfold gW; rw [h]; split <;> rfl
theorem tZ {ax : Int} {q : Nat} {m : Bool} {left : Int} {f : Nat} {L : List ai} {d : Int} {i : Nat} (hl : ¬ left ≤ d) (h : jY ax q m L = some i) :
  gW ax q m left (f + 1) L d = gW ax q m left f (cZ ax (place q m) (mn (left - d) (aH ax (kd L i))) (cZ ax i (-(mn (left - d) (aH ax (kd L i)))) L)) (d + mn (left - d) (aH ax (kd L i))) := by
 rw [gW, if_neg hl, h]
theorem afN (a b : Int) : mn a b ≤ a := by unfold mn; split <;> omega
theorem afO (a b : Int) : mn a b ≤ b := by unfold mn; split <;> omega
theorem afP {a b : Int} (h : 0 < a) (k : 0 < b) : 0 < mn a b := by unfold mn; split <;> omega
theorem TV {ax s : Int} (hax : ax = 1 ∨ ax = 2) {q : Nat} {m : Bool} {left : Int} {N : Nat} {L0 : List ai} : ∀ (f : Nat) (L : List ai) (d : Int), su ax s (place q m) N L0 L d → q + 1 < L.length →
  su ax s (place q m) N L0 (gW ax q m left f L d).1 (gW ax q m left f L d).2 ∧ d ≤ (gW ax q m left f L d).2 ∧ (d ≤ left → (gW ax q m left f L d).2 ≤ left) := by
 intro f
 induction f with
 | zero => intro L d h _; exact ⟨h, Int.le_refl _, fun h => h⟩
 | succ f ih =>
  intro L d h hq
  by_cases hl : left ≤ d
  ·rw [t_ hl]; exact ⟨h, Int.le_refl _, fun h => h⟩
  ·cases hg : jY ax q m L with
   | none => rw [wR hg]; exact ⟨h, Int.le_refl _, fun h => h⟩
   | some i =>
    rw [tZ hl hg]
    obtain ⟨g1, g2, g3⟩ := yl hg hq
    have n0 := afP (a := left - d) (b := aH ax (kd L i)) (by omega) g3
    have n1 := afN (left - d) (aH ax (kd L i))
    have h2 := h.step hax g1 g2 (Int.le_of_lt n0) (afO _ _)
    obtain ⟨a, b, c⟩ := ih _ _ h2 (by rw [h2.len, ← h.len]; exact hq)
    exact ⟨a, by omega, fun _ => c (by omega)⟩
def ui (ax : Int) (c : ai) (p : List Int) (d : Nat) : Bool := match qo c (p.take d) with
 | some z => fK ax z.f0
 | none => false
def Ha (ax : Int) (c : ai) (p : List Int) : Option Nat := ny (ui ax c p) p.length
theorem ES : ∀ (p : List Int) (c x : ai), qo c p = some x → ∀ d, d < p.length → ∃ z, qo c (p.take d) = some z ∧ 0 ≤ rd p (d : Int) ∧ rd p (d : Int) < (z.f3.length : Int) := by
 intro p
 induction p with
 | nil => intro c x _ d h; simp at h
 | cons i is ih =>
  intro c x h d hd
  simp only [qo] at h
  split at h
  ·cases h
  ·rename_i hi
   cases d with
   | zero =>
    refine ⟨c, rfl, ?_⟩
    have e : rd (i :: is) ((0 : Nat) : Int) = i := rfl
    rw [e]
    omega
   | succ d =>
    obtain ⟨z, h1, h2⟩ := ih _ x h d (by simpa using hd)
    refine ⟨z, ?_, ?_⟩
    ·rw [List.take_succ_cons]
     simp only [qo]
     rw [if_neg hi]
     exact h1
    ·have e : rd (i :: is) ((d + 1 : Nat) : Int) = rd is (d : Int) := by unfold rd; rw [Int.toNat_natCast, Int.toNat_natCast]; rfl
     rw [e]
     exact h2
theorem XI : ∀ (p : List Int) (c z : ai), dB c = true → qo c p = some z → dB z = true := by
 intro p
 induction p with
 | nil => intro c z h e; simp only [qo] at e; injection e with e; rwa [← e]
 | cons i is ih =>
  intro c z h e
  simp only [qo] at e
  split at e
  ·cases e
  ·rename_i hi
   exact ih _ z (Pure.xQ h (F5 c.f3 i (by omega) (by omega))) e
structure Bg (ax : Int) (c : ai) (p : List Int) (d : Nat) (z : ai) (q : Nat) : Prop where
 hd : d < p.length
 at' : qo c (p.take d) = some z
 al : fK ax z.f0 = true
 i0 : 0 ≤ rd p (d : Int)
 i1 : rd p (d : Int) < (z.f3.length : Int)
 len : 2 ≤ z.f3.length
 hq : (q : Int) = mn (rd p (d : Int)) ((z.f3.length : Int) - 2)
theorem Bg.next {ax : Int} {c : ai} {p : List Int} {d : Nat} {z : ai} {q : Nat} (h : Bg ax c p d z q) : q + 1 < z.f3.length := by
 have h1 := h.hq
 have h2 := h.len
 unfold mn at h1
 split at h1 <;> omega
theorem Tu {ax : Int} {c : ai} {p : List Int} {x : ai} {d : Nat} (hc : dB c = true) (hx : qo c p = some x) (h : Ha ax c p = some d) : ∃ z q, Bg ax c p d z q ∧ dB z = true := by
 obtain ⟨h1, h2⟩ := Iu h
 obtain ⟨z, e, i0, i1⟩ := ES p c x hx d h1
 unfold ui at h2
 rw [e] at h2
 simp only [] at h2
 have ht := XI _ c z hc e
 have hk := yQ (oG (pK (lL ht)))
 have hl : 2 ≤ z.f3.length := by
  rcases hk with ⟨a, _⟩ | ⟨_, b⟩
  ·unfold fK at h2; simp [a] at h2
  ·exact b
 refine ⟨z, (mn (rd p (d : Int)) ((z.f3.length : Int) - 2)).toNat, ⟨h1, e, h2, i0, i1, hl, ?_⟩, ht⟩
 have : 0 ≤ mn (rd p (d : Int)) ((z.f3.length : Int) - 2) := by unfold mn; split <;> omega
 omega
theorem Tt {ax : Int} {z : ai} (hax : ax = 1 ∨ ax = 2) (ht : dB z = true) (ha : fK ax z.f0 = true) : rZ ax (aW ax z.f1 - ((z.f3.length : Int) - 1)) z.f3 := by
 have hm := lL ht
 have hB := IZ ht
 have Vl : oM z = true := by rw [u_, Bool.and_eq_true] at hB; exact hB.1
 have hs := o6 hm
 have hz := bV z
 have hl := ig z.f3
 have e : z.f0 - 1 = ax ∧ (z.f0 = 2 ∨ z.f0 = 3) := by
  unfold fK at ha
  simp at ha
  omega
 obtain ⟨g1, _⟩ := Eb Vl e.2 (by omega)
 rw [e.1] at g1
 have hg := Pure.jA hax ht
 have hk : 2 ≤ z.f3.length := by
  rcases yQ (oG (pK hm)) with ⟨a, _⟩ | ⟨_, b⟩
  ·omega
  ·exact b
 exact ⟨fun k hk => Pure.xQ ht hk, by omega, by omega⟩
noncomputable def AU (ax id : Int) (c : ai) : Int := if dB c = true ∧ (ax = 1 ∨ ax = 2) then (match iR id c with
 | none => 6
 | some p => match Ha ax c p with
  | none => 10
  | some _ => 0) else 1
end Go.Proofs.Ytfdmfgaiblfbhaa.P
