/- SpreadAll: part 5 of 7 of this claim's texts, one behind the other, made small by a program: the words of the kit's printer cut down to those that are used, the claim's own names made short. -/
import Derived.Test.YtfdmfgaiblfbhaaMSpreadAlld
import Derived.Test.YtfdmfgaiblfbhaaMSpreadAllc
set_option maxHeartbeats 8000000
set_option maxRecDepth 100000
set_option linter.unusedVariables false
set_option linter.unusedSimpArgs false
namespace Go.Proofs.Ytfdmfgaiblfbhaa.P
open Go.RowKit Go.Proofs.ai.bg Go.Proofs.ai.di Go.Proofs.ai.dG
theorem Kp.grown {S : Nat → Prop} {W W1 : World} {g : Nat} (h : W.grownBy W1 (some g)) (hs : S g) : Kp S W W1 := ⟨h.size, fun k hk hn => h.block k hk (fun e => hn (by injection e with e; rw [e]; exact hs))⟩
theorem pV.count {w0 W W1 : World} {bn bm B : Nat} {s : Int × List Int} {n : Int} (h : pV w0 bn bm B s W) (hk : W1.heap[bn]? = some (.cells #[.int .i64 n] 3 (0, 0))) (hb : Below w0.heap.size w0 W1) (hg : W.grownBy W1 (some bn)) : pV w0 bn bm B (n, s.2) W1 :=
 ⟨hk, bZ h.hm hg (fun e => h.neB.2.2 (Option.some.inj e)), h.map.kept hg (fun e => h.neB.1 (Option.some.inj e).symm), hb, h.gn, h.gB, h.nd, h.rg⟩
theorem pV.met {w0 W W1 : World} {bn bm B : Nat} {s : Int × List Int} {i : Int} (h : pV w0 bn bm B s W) (hm : W1.ownsMap (H := Unit) Try.prog 3 (plainElem Try.prog 4) B (s.2.length + 1) ((L_ s.2).put (.int .i64 i) (.lit (.bool true)))) (hg : W.grownBy W1 (some B)) (hi : i ∉ s.2) (h0 : 0 ≤ i) (h1 : i ≤ 2147483647) : pV w0 bn bm B (s.1, i :: s.2) W1 :=
 ⟨bZ h.hn hg (fun e => h.neB.1 (Option.some.inj e)), bZ h.hm hg (fun e => h.neB.2.1 (Option.some.inj e)), hm, grown_below h.below hg h.gB h.below.size, h.gn, h.gB, List.nodup_cons.2 ⟨hi, h.nd⟩, fun j hj => by
  rcases List.mem_cons.1 hj with rfl | hj
  ·exact ⟨h0, h1⟩
  ·exact h.rg j hj⟩
theorem afz (w : World) : (zeroValue 4).run Try.prog w = .ok (.bool false) w := by kernel_rfl
theorem anK (w0 : World) (bn bm B : Nat) (s : Int × List Int) (W : World) (x : aI) (A : Option Addr) (cb : Nat) (hI : pV w0 bn bm B s W) (h1 : 20000 < wrap64 (s.1 + 1)) :
  Calls Try.prog 176 (#[.agg #[.int .u8 x.f0, .int .i64 x.f1.f0, .int .i64 x.f1.f1, .int .i64 x.f1.f2, .int .i64 x.f1.f3, .int .i64 x.f2, .slice A x.f3.length cb]] ++ #[.pointer (some ⟨bn, 0, none⟩), .pointer (some ⟨bm, 0, none⟩)]) W fun e w' => e = .returned (.bool (lV s x).1) ∧ pV w0 bn bm B (lV s x).2 w' ∧ Kp (zn bn B) W w' := by
 rw [show lV s x = (false, (wrap64 (s.1 + 1), s.2)) from by unfold lV; rw [if_pos h1]]
 have HI := ae.mk hI
 have HK := ae.mk (Kp.refl (zn bn B) W)
 clear hI
 simp only [List.append_toArray, List.cons_append, List.nil_append]
 go_enter Try.func176, Try.ntmps176
 go_wp2_with (first | ((with_reducible refine aQ (N := 3) rfl ?_); refine aX ?hg (N := 3) ?hd (cs := #[.int .u8 x.f0, .int .i64 x.f1.f0, .int .i64 x.f1.f1, .int .i64 x.f1.f2, .int .i64 x.f1.f3, .int .i64 x.f2, .slice A x.f3.length cb]) (t := 26) ?hr ?_; (case hd => rfl); (case hg => rfl); (case hr => (go_simp; done)); intro b3 hg w3 hbox hb; have K3 := ae.mk hbox; have gI := ae.mk (HI.out.step hb); have f_ := ae.mk (HK.out.trans (Kp.below hb)); clear HI HK; have HI := gI; have HK := f_; clear gI f_; clear hb hbox hg; have cn := (af HI.out.hn 0).trans rfl) | ((with_reducible refine sS (.store 3 (.tmp 1) (.tmp 6)) rfl ?_); go_loud (clear cn; refine lY (w0 := w0) rfl rfl 3 (.tmp 1) (.tmp 6) rfl (g := bn) (j := 0) (base := w0.heap.size) #[.int .i64 (wrap64 (s.1 + 1))] (u := .int .i64 (wrap64 (s.1 + 1))) (dL := [.int .i64 (wrap64 (s.1 + 1))]) ?sA ?sX rfl ?sT ?s1 HI.out.hn ?sJ rfl HI.out.below HI.out.below.size HI.out.gn ?_; (case sA => rfl); (case sX => rfl); (case sT => rfl); (case s1 => (simp [Value.oneCell'])); (case sJ => (simp)); intro ws hbk hbb hgg; have gI := ae.mk (HI.out.count hbk hbb hgg); have f_ := ae.mk (HK.out.trans (Kp.grown hgg (Or.inl rfl))); have kN := ae.mk (bZ K3.out hgg (fun e_ => xQ K3.out HI.out.hn (by decide) (Option.some.inj e_))); clear HI HK K3 hbk hbb hgg; have HI := gI; have HK := f_; have K3 := kN; clear gI f_ kN; have cn := (af HI.out.hn 0).trans rfl; have c0 := (af K3.out 0).trans rfl; have c1 := (af K3.out 1).trans rfl; have c2 := (af K3.out 2).trans rfl; have c3 := (af K3.out 3).trans rfl; have c4 := (af K3.out 4).trans rfl; have c5 := (af K3.out 5).trans rfl; have c6 := (af K3.out 6).trans rfl)))
 go_ret
 exact ⟨rfl, HI.out, HK.out⟩
theorem anL (w0 : World) (bn bm B : Nat) (s : Int × List Int) (W : World) (x : aI) (A : Option Addr) (cb : Nat) (hI : pV w0 bn bm B s W) (h1 : ¬ 20000 < wrap64 (s.1 + 1)) (h2 : zG x = false) :
  Calls Try.prog 176 (#[.agg #[.int .u8 x.f0, .int .i64 x.f1.f0, .int .i64 x.f1.f1, .int .i64 x.f1.f2, .int .i64 x.f1.f3, .int .i64 x.f2, .slice A x.f3.length cb]] ++ #[.pointer (some ⟨bn, 0, none⟩), .pointer (some ⟨bm, 0, none⟩)]) W fun e w' => e = .returned (.bool (lV s x).1) ∧ pV w0 bn bm B (lV s x).2 w' ∧ Kp (zn bn B) W w' := by
 rw [show lV s x = (false, (wrap64 (s.1 + 1), s.2)) from by unfold lV; rw [if_neg h1, Dz, h2]; simp]
 have HN := ae.mk fun W => Gu x A cb W
 rw [h2] at HN
 clear h2
 have HI := ae.mk hI
 have HK := ae.mk (Kp.refl (zn bn B) W)
 clear hI
 simp only [List.append_toArray, List.cons_append, List.nil_append]
 go_enter Try.func176, Try.ntmps176
 go_wp2_with (first | ((with_reducible refine aQ (N := 3) rfl ?_); refine aX ?hg (N := 3) ?hd (cs := #[.int .u8 x.f0, .int .i64 x.f1.f0, .int .i64 x.f1.f1, .int .i64 x.f1.f2, .int .i64 x.f1.f3, .int .i64 x.f2, .slice A x.f3.length cb]) (t := 26) ?hr ?_; (case hd => rfl); (case hg => rfl); (case hr => (go_simp; done)); intro b3 hg w3 hbox hb; have K3 := ae.mk hbox; have gI := ae.mk (HI.out.step hb); have f_ := ae.mk (HK.out.trans (Kp.below hb)); clear HI HK; have HI := gI; have HK := f_; clear gI f_; clear hb hbox hg; have cn := (af HI.out.hn 0).trans rfl) | ((with_reducible refine sS (.store 3 (.tmp 1) (.tmp 6)) rfl ?_); go_loud (clear cn; refine lY (w0 := w0) rfl rfl 3 (.tmp 1) (.tmp 6) rfl (g := bn) (j := 0) (base := w0.heap.size) #[.int .i64 (wrap64 (s.1 + 1))] (u := .int .i64 (wrap64 (s.1 + 1))) (dL := [.int .i64 (wrap64 (s.1 + 1))]) ?sA ?sX rfl ?sT ?s1 HI.out.hn ?sJ rfl HI.out.below HI.out.below.size HI.out.gn ?_; (case sA => rfl); (case sX => rfl); (case sT => rfl); (case s1 => (simp [Value.oneCell'])); (case sJ => (simp)); intro ws hbk hbb hgg; have gI := ae.mk (HI.out.count hbk hbb hgg); have f_ := ae.mk (HK.out.trans (Kp.grown hgg (Or.inl rfl))); have kN := ae.mk (bZ K3.out hgg (fun e_ => xQ K3.out HI.out.hn (by decide) (Option.some.inj e_))); clear HI HK K3 hbk hbb hgg; have HI := gI; have HK := f_; have K3 := kN; clear gI f_ kN; have cn := (af HI.out.hn 0).trans rfl; have c0 := (af K3.out 0).trans rfl; have c1 := (af K3.out 1).trans rfl; have c2 := (af K3.out 2).trans rfl; have c3 := (af K3.out 3).trans rfl; have c4 := (af K3.out 4).trans rfl; have c5 := (af K3.out 5).trans rfl; have c6 := (af K3.out 6).trans rfl)))
 clear cn
 clear c0 c1 c2 c3 c4 c5 c6
 refine (HN.out _).mono ?_
 rintro e wk ⟨rfl, hb⟩
 have kN := ae.mk (aK K3.out hb)
 clear K3
 have K3 := kN
 clear kN
 have gI := ae.mk (HI.out.step hb); have f_ := ae.mk (HK.out.trans (Kp.below hb)); clear HI HK; have HI := gI; have HK := f_; clear gI f_
 clear hb
 go_wp2
 go_ret
 exact ⟨rfl, HI.out, HK.out⟩
theorem anM (w0 : World) (bn bm B : Nat) (s : Int × List Int) (W : World) (x : aI) (A : Option Addr) (cb : Nat) (hI : pV w0 bn bm B s W) (h1 : ¬ 20000 < wrap64 (s.1 + 1)) (h2 : zG x = true) (h3 : rQ x.f1 = false) :
  Calls Try.prog 176 (#[.agg #[.int .u8 x.f0, .int .i64 x.f1.f0, .int .i64 x.f1.f1, .int .i64 x.f1.f2, .int .i64 x.f1.f3, .int .i64 x.f2, .slice A x.f3.length cb]] ++ #[.pointer (some ⟨bn, 0, none⟩), .pointer (some ⟨bm, 0, none⟩)]) W fun e w' => e = .returned (.bool (lV s x).1) ∧ pV w0 bn bm B (lV s x).2 w' ∧ Kp (zn bn B) W w' := by
 rw [show lV s x = (false, (wrap64 (s.1 + 1), s.2)) from by unfold lV; rw [if_neg h1, Dz, h2, h3]; simp]
 have HN := ae.mk fun W => Gu x A cb W
 rw [h2] at HN
 clear h2
 have M1 := ae.mk (show pg.f [x.f1] = some false by simp [pg.f, h3])
 clear h3
 have HI := ae.mk hI
 have HK := ae.mk (Kp.refl (zn bn B) W)
 clear hI
 simp only [List.append_toArray, List.cons_append, List.nil_append]
 go_enter Try.func176, Try.ntmps176
 go_wp2_with (first | ((with_reducible refine aQ (N := 3) rfl ?_); refine aX ?hg (N := 3) ?hd (cs := #[.int .u8 x.f0, .int .i64 x.f1.f0, .int .i64 x.f1.f1, .int .i64 x.f1.f2, .int .i64 x.f1.f3, .int .i64 x.f2, .slice A x.f3.length cb]) (t := 26) ?hr ?_; (case hd => rfl); (case hg => rfl); (case hr => (go_simp; done)); intro b3 hg w3 hbox hb; have K3 := ae.mk hbox; have gI := ae.mk (HI.out.step hb); have f_ := ae.mk (HK.out.trans (Kp.below hb)); clear HI HK; have HI := gI; have HK := f_; clear gI f_; clear hb hbox hg; have cn := (af HI.out.hn 0).trans rfl) | ((with_reducible refine sS (.store 3 (.tmp 1) (.tmp 6)) rfl ?_); go_loud (clear cn; refine lY (w0 := w0) rfl rfl 3 (.tmp 1) (.tmp 6) rfl (g := bn) (j := 0) (base := w0.heap.size) #[.int .i64 (wrap64 (s.1 + 1))] (u := .int .i64 (wrap64 (s.1 + 1))) (dL := [.int .i64 (wrap64 (s.1 + 1))]) ?sA ?sX rfl ?sT ?s1 HI.out.hn ?sJ rfl HI.out.below HI.out.below.size HI.out.gn ?_; (case sA => rfl); (case sX => rfl); (case sT => rfl); (case s1 => (simp [Value.oneCell'])); (case sJ => (simp)); intro ws hbk hbb hgg; have gI := ae.mk (HI.out.count hbk hbb hgg); have f_ := ae.mk (HK.out.trans (Kp.grown hgg (Or.inl rfl))); have kN := ae.mk (bZ K3.out hgg (fun e_ => xQ K3.out HI.out.hn (by decide) (Option.some.inj e_))); clear HI HK K3 hbk hbb hgg; have HI := gI; have HK := f_; have K3 := kN; clear gI f_ kN; have cn := (af HI.out.hn 0).trans rfl; have c0 := (af K3.out 0).trans rfl; have c1 := (af K3.out 1).trans rfl; have c2 := (af K3.out 2).trans rfl; have c3 := (af K3.out 3).trans rfl; have c4 := (af K3.out 4).trans rfl; have c5 := (af K3.out 5).trans rfl; have c6 := (af K3.out 6).trans rfl)))
 clear cn
 clear c0 c1 c2 c3 c4 c5 c6
 refine (HN.out _).mono ?_
 rintro e wk ⟨rfl, hb⟩
 have kN := ae.mk (aK K3.out hb)
 clear K3
 have K3 := kN
 clear kN
 have gI := ae.mk (HI.out.step hb); have f_ := ae.mk (HK.out.trans (Kp.below hb)); clear HI HK; have HI := gI; have HK := f_; clear gI f_
 clear hb
 have c0 := (af K3.out 0).trans rfl
 have c1 := (af K3.out 1).trans rfl
 have c2 := (af K3.out 2).trans rfl
 have c3 := (af K3.out 3).trans rfl
 have c4 := (af K3.out 4).trans rfl
 have c5 := (af K3.out 5).trans rfl
 have c6 := (af K3.out 6).trans rfl
 go_wp2_with (((with_reducible refine aQ (N := 17) rfl ?_); (try (refine eQ (by rfl) ?_; dsimp only)); refine Kd.o8 k23 _ 23 ?hg (N := 17) ?hd (xs := ([x.f1] : List bC)) (inner := [.int .i64 x.f1.f0, .int .i64 x.f1.f1, .int .i64 x.f1.f2, .int .i64 x.f1.f3]) (ok := fun _ => True) (iO := fun _ => True) ?hr ?hp (fun _ hk => hk) trivial (Below.refl _ _) (Nat.le_refl _) (by simp) ?_; (case hd => rfl); (case hg => rfl); (case hr => (go_simp; done)); (case hp => exact (dB.c4 (show Kd.M k23 _ _ _ x.f1 [.int .i64 x.f1.f0, .int .i64 x.f1.f1, .int .i64 x.f1.f2, .int .i64 x.f1.f3] from qV _ _ _ x.f1) (dB.none _ _))); intro vr wr ho hb kW gK; clear kW gK; obtain ⟨Ar, cr, er⟩ := Kd.iJ ho; subst er; have kN := ae.mk (aK K3.out hb); clear K3; have K3 := kN; clear kN; have gI := ae.mk (HI.out.step hb); have f_ := ae.mk (HK.out.trans (Kp.below hb)); clear HI HK; have HI := gI; have HK := f_; clear gI f_; have HR := ae.mk (Kd.dH ho).2.2; have LR := ae.mk (Kd.dH ho).2.1; clear ho hb))
 clear c0 c1 c2 c3 c4 c5 c6
 refine (pg.calls Ar cr [x.f1] false _ HR.out LR.out M1.out).mono ?_
 rintro e wk ⟨rfl, hb⟩
 have kN := ae.mk (aK K3.out hb)
 clear K3
 have K3 := kN
 clear kN
 have gI := ae.mk (HI.out.step hb); have f_ := ae.mk (HK.out.trans (Kp.below hb)); clear HI HK; have HI := gI; have HK := f_; clear gI f_
 clear hb
 go_wp2
 go_ret
 exact ⟨rfl, HI.out, HK.out⟩
theorem anN (w0 : World) (bn bm B : Nat) (s : Int × List Int) (W : World) (x : aI) (A : Option Addr) (cb : Nat) (hI : pV w0 bn bm B s W) (h1 : ¬ 20000 < wrap64 (s.1 + 1)) (h2 : zG x = true) (h3 : rQ x.f1 = true) (h4 : x.f0 ≠ 1) :
  Calls Try.prog 176 (#[.agg #[.int .u8 x.f0, .int .i64 x.f1.f0, .int .i64 x.f1.f1, .int .i64 x.f1.f2, .int .i64 x.f1.f3, .int .i64 x.f2, .slice A x.f3.length cb]] ++ #[.pointer (some ⟨bn, 0, none⟩), .pointer (some ⟨bm, 0, none⟩)]) W fun e w' => e = .returned (.bool (lV s x).1) ∧ pV w0 bn bm B (lV s x).2 w' ∧ Kp (zn bn B) W w' := by
 rw [show lV s x = (true, (wrap64 (s.1 + 1), s.2)) from by unfold lV; rw [if_neg h1, Dz, h2, h3, if_neg (by simp), if_neg h4]]
 have HN := ae.mk fun W => Gu x A cb W
 rw [h2] at HN
 clear h2
 have M1 := ae.mk (show pg.f [x.f1] = some true by simp [pg.f, h3])
 clear h3
 have IC : (x.f0 == 1) = false := beq_eq_false_iff_ne.mpr h4
 clear h4
 have HI := ae.mk hI
 have HK := ae.mk (Kp.refl (zn bn B) W)
 clear hI
 simp only [List.append_toArray, List.cons_append, List.nil_append]
 go_enter Try.func176, Try.ntmps176
 go_wp2_with (first | ((with_reducible refine aQ (N := 3) rfl ?_); refine aX ?hg (N := 3) ?hd (cs := #[.int .u8 x.f0, .int .i64 x.f1.f0, .int .i64 x.f1.f1, .int .i64 x.f1.f2, .int .i64 x.f1.f3, .int .i64 x.f2, .slice A x.f3.length cb]) (t := 26) ?hr ?_; (case hd => rfl); (case hg => rfl); (case hr => (go_simp; done)); intro b3 hg w3 hbox hb; have K3 := ae.mk hbox; have gI := ae.mk (HI.out.step hb); have f_ := ae.mk (HK.out.trans (Kp.below hb)); clear HI HK; have HI := gI; have HK := f_; clear gI f_; clear hb hbox hg; have cn := (af HI.out.hn 0).trans rfl) | ((with_reducible refine sS (.store 3 (.tmp 1) (.tmp 6)) rfl ?_); go_loud (clear cn; refine lY (w0 := w0) rfl rfl 3 (.tmp 1) (.tmp 6) rfl (g := bn) (j := 0) (base := w0.heap.size) #[.int .i64 (wrap64 (s.1 + 1))] (u := .int .i64 (wrap64 (s.1 + 1))) (dL := [.int .i64 (wrap64 (s.1 + 1))]) ?sA ?sX rfl ?sT ?s1 HI.out.hn ?sJ rfl HI.out.below HI.out.below.size HI.out.gn ?_; (case sA => rfl); (case sX => rfl); (case sT => rfl); (case s1 => (simp [Value.oneCell'])); (case sJ => (simp)); intro ws hbk hbb hgg; have gI := ae.mk (HI.out.count hbk hbb hgg); have f_ := ae.mk (HK.out.trans (Kp.grown hgg (Or.inl rfl))); have kN := ae.mk (bZ K3.out hgg (fun e_ => xQ K3.out HI.out.hn (by decide) (Option.some.inj e_))); clear HI HK K3 hbk hbb hgg; have HI := gI; have HK := f_; have K3 := kN; clear gI f_ kN; have cn := (af HI.out.hn 0).trans rfl; have c0 := (af K3.out 0).trans rfl; have c1 := (af K3.out 1).trans rfl; have c2 := (af K3.out 2).trans rfl; have c3 := (af K3.out 3).trans rfl; have c4 := (af K3.out 4).trans rfl; have c5 := (af K3.out 5).trans rfl; have c6 := (af K3.out 6).trans rfl)))
 clear cn
 clear c0 c1 c2 c3 c4 c5 c6
 refine (HN.out _).mono ?_
 rintro e wk ⟨rfl, hb⟩
 have kN := ae.mk (aK K3.out hb)
 clear K3
 have K3 := kN
 clear kN
 have gI := ae.mk (HI.out.step hb); have f_ := ae.mk (HK.out.trans (Kp.below hb)); clear HI HK; have HI := gI; have HK := f_; clear gI f_
 clear hb
 have c0 := (af K3.out 0).trans rfl
 have c1 := (af K3.out 1).trans rfl
 have c2 := (af K3.out 2).trans rfl
 have c3 := (af K3.out 3).trans rfl
 have c4 := (af K3.out 4).trans rfl
 have c5 := (af K3.out 5).trans rfl
 have c6 := (af K3.out 6).trans rfl
 go_wp2_with (((with_reducible refine aQ (N := 17) rfl ?_); (try (refine eQ (by rfl) ?_; dsimp only)); refine Kd.o8 k23 _ 23 ?hg (N := 17) ?hd (xs := ([x.f1] : List bC)) (inner := [.int .i64 x.f1.f0, .int .i64 x.f1.f1, .int .i64 x.f1.f2, .int .i64 x.f1.f3]) (ok := fun _ => True) (iO := fun _ => True) ?hr ?hp (fun _ hk => hk) trivial (Below.refl _ _) (Nat.le_refl _) (by simp) ?_; (case hd => rfl); (case hg => rfl); (case hr => (go_simp; done)); (case hp => exact (dB.c4 (show Kd.M k23 _ _ _ x.f1 [.int .i64 x.f1.f0, .int .i64 x.f1.f1, .int .i64 x.f1.f2, .int .i64 x.f1.f3] from qV _ _ _ x.f1) (dB.none _ _))); intro vr wr ho hb kW gK; clear kW gK; obtain ⟨Ar, cr, er⟩ := Kd.iJ ho; subst er; have kN := ae.mk (aK K3.out hb); clear K3; have K3 := kN; clear kN; have gI := ae.mk (HI.out.step hb); have f_ := ae.mk (HK.out.trans (Kp.below hb)); clear HI HK; have HI := gI; have HK := f_; clear gI f_; have HR := ae.mk (Kd.dH ho).2.2; have LR := ae.mk (Kd.dH ho).2.1; clear ho hb))
 clear c0 c1 c2 c3 c4 c5 c6
 refine (pg.calls Ar cr [x.f1] true _ HR.out LR.out M1.out).mono ?_
 rintro e wk ⟨rfl, hb⟩
 have kN := ae.mk (aK K3.out hb)
 clear K3
 have K3 := kN
 clear kN
 have gI := ae.mk (HI.out.step hb); have f_ := ae.mk (HK.out.trans (Kp.below hb)); clear HI HK; have HI := gI; have HK := f_; clear gI f_
 clear hb
 have c0 := (af K3.out 0).trans rfl
 have c1 := (af K3.out 1).trans rfl
 have c2 := (af K3.out 2).trans rfl
 have c3 := (af K3.out 3).trans rfl
 have c4 := (af K3.out 4).trans rfl
 have c5 := (af K3.out 5).trans rfl
 have c6 := (af K3.out 6).trans rfl
 go_wp2
 go_ret
 exact ⟨rfl, HI.out, HK.out⟩
theorem anO (w0 : World) (bn bm B : Nat) (s : Int × List Int) (W : World) (x : aI) (A : Option Addr) (cb : Nat) (hI : pV w0 bn bm B s W) (h1 : ¬ 20000 < wrap64 (s.1 + 1)) (h2 : zG x = true) (h3 : rQ x.f1 = true) (h4 : x.f0 = 1) (h5 : 0 ≤ x.f2) (h6 : x.f2 ≤ 2147483647) (h7 : x.f2 ∈ s.2) :
  Calls Try.prog 176 (#[.agg #[.int .u8 x.f0, .int .i64 x.f1.f0, .int .i64 x.f1.f1, .int .i64 x.f1.f2, .int .i64 x.f1.f3, .int .i64 x.f2, .slice A x.f3.length cb]] ++ #[.pointer (some ⟨bn, 0, none⟩), .pointer (some ⟨bm, 0, none⟩)]) W fun e w' => e = .returned (.bool (lV s x).1) ∧ pV w0 bn bm B (lV s x).2 w' ∧ Kp (zn bn B) W w' := by
 rw [show lV s x = (false, (wrap64 (s.1 + 1), s.2)) from by unfold lV; rw [if_neg h1, Dz, h2, h3, if_neg (by simp), if_pos h4, if_pos h7]]
 have HN := ae.mk fun W => Gu x A cb W
 rw [h2] at HN
 clear h2
 have M1 := ae.mk (show pg.f [x.f1] = some true by simp [pg.f, h3])
 clear h3
 have LK : ae ((L_ s.2).atKey (.int .i64 x.f2) (.lit (.bool false)) = .lit (.bool true)) := ⟨by rw [XE, decide_eq_true h7]⟩
 clear h7
 have WF : ae ((Lit.int .i64 x.f2).wf = true) := ⟨WalkArith.wf_i64 (by omega)⟩
 have IC : (x.f0 == 1) = true := beq_iff_eq.mpr h4
 clear h4 h5 h6
 have HI := ae.mk hI
 have HK := ae.mk (Kp.refl (zn bn B) W)
 clear hI
 simp only [List.append_toArray, List.cons_append, List.nil_append]
 go_enter Try.func176, Try.ntmps176
 go_wp2_with (first | ((with_reducible refine aQ (N := 3) rfl ?_); refine aX ?hg (N := 3) ?hd (cs := #[.int .u8 x.f0, .int .i64 x.f1.f0, .int .i64 x.f1.f1, .int .i64 x.f1.f2, .int .i64 x.f1.f3, .int .i64 x.f2, .slice A x.f3.length cb]) (t := 26) ?hr ?_; (case hd => rfl); (case hg => rfl); (case hr => (go_simp; done)); intro b3 hg w3 hbox hb; have K3 := ae.mk hbox; have gI := ae.mk (HI.out.step hb); have f_ := ae.mk (HK.out.trans (Kp.below hb)); clear HI HK; have HI := gI; have HK := f_; clear gI f_; clear hb hbox hg; have cn := (af HI.out.hn 0).trans rfl) | ((with_reducible refine sS (.store 3 (.tmp 1) (.tmp 6)) rfl ?_); go_loud (clear cn; refine lY (w0 := w0) rfl rfl 3 (.tmp 1) (.tmp 6) rfl (g := bn) (j := 0) (base := w0.heap.size) #[.int .i64 (wrap64 (s.1 + 1))] (u := .int .i64 (wrap64 (s.1 + 1))) (dL := [.int .i64 (wrap64 (s.1 + 1))]) ?sA ?sX rfl ?sT ?s1 HI.out.hn ?sJ rfl HI.out.below HI.out.below.size HI.out.gn ?_; (case sA => rfl); (case sX => rfl); (case sT => rfl); (case s1 => (simp [Value.oneCell'])); (case sJ => (simp)); intro ws hbk hbb hgg; have gI := ae.mk (HI.out.count hbk hbb hgg); have f_ := ae.mk (HK.out.trans (Kp.grown hgg (Or.inl rfl))); have kN := ae.mk (bZ K3.out hgg (fun e_ => xQ K3.out HI.out.hn (by decide) (Option.some.inj e_))); clear HI HK K3 hbk hbb hgg; have HI := gI; have HK := f_; have K3 := kN; clear gI f_ kN; have cn := (af HI.out.hn 0).trans rfl; have c0 := (af K3.out 0).trans rfl; have c1 := (af K3.out 1).trans rfl; have c2 := (af K3.out 2).trans rfl; have c3 := (af K3.out 3).trans rfl; have c4 := (af K3.out 4).trans rfl; have c5 := (af K3.out 5).trans rfl; have c6 := (af K3.out 6).trans rfl)))
 clear cn
 clear c0 c1 c2 c3 c4 c5 c6
 refine (HN.out _).mono ?_
 rintro e wk ⟨rfl, hb⟩
 have kN := ae.mk (aK K3.out hb)
 clear K3
 have K3 := kN
 clear kN
 have gI := ae.mk (HI.out.step hb); have f_ := ae.mk (HK.out.trans (Kp.below hb)); clear HI HK; have HI := gI; have HK := f_; clear gI f_
 clear hb
 have c0 := (af K3.out 0).trans rfl
 have c1 := (af K3.out 1).trans rfl
 have c2 := (af K3.out 2).trans rfl
 have c3 := (af K3.out 3).trans rfl
 have c4 := (af K3.out 4).trans rfl
 have c5 := (af K3.out 5).trans rfl
 have c6 := (af K3.out 6).trans rfl
 go_wp2_with (((with_reducible refine aQ (N := 17) rfl ?_); (try (refine eQ (by rfl) ?_; dsimp only)); refine Kd.o8 k23 _ 23 ?hg (N := 17) ?hd (xs := ([x.f1] : List bC)) (inner := [.int .i64 x.f1.f0, .int .i64 x.f1.f1, .int .i64 x.f1.f2, .int .i64 x.f1.f3]) (ok := fun _ => True) (iO := fun _ => True) ?hr ?hp (fun _ hk => hk) trivial (Below.refl _ _) (Nat.le_refl _) (by simp) ?_; (case hd => rfl); (case hg => rfl); (case hr => (go_simp; done)); (case hp => exact (dB.c4 (show Kd.M k23 _ _ _ x.f1 [.int .i64 x.f1.f0, .int .i64 x.f1.f1, .int .i64 x.f1.f2, .int .i64 x.f1.f3] from qV _ _ _ x.f1) (dB.none _ _))); intro vr wr ho hb kW gK; clear kW gK; obtain ⟨Ar, cr, er⟩ := Kd.iJ ho; subst er; have kN := ae.mk (aK K3.out hb); clear K3; have K3 := kN; clear kN; have gI := ae.mk (HI.out.step hb); have f_ := ae.mk (HK.out.trans (Kp.below hb)); clear HI HK; have HI := gI; have HK := f_; clear gI f_; have HR := ae.mk (Kd.dH ho).2.2; have LR := ae.mk (Kd.dH ho).2.1; clear ho hb))
 clear c0 c1 c2 c3 c4 c5 c6
 refine (pg.calls Ar cr [x.f1] true _ HR.out LR.out M1.out).mono ?_
 rintro e wk ⟨rfl, hb⟩
 have kN := ae.mk (aK K3.out hb)
 clear K3
 have K3 := kN
 clear kN
 have gI := ae.mk (HI.out.step hb); have f_ := ae.mk (HK.out.trans (Kp.below hb)); clear HI HK; have HI := gI; have HK := f_; clear gI f_
 clear hb
 have c0 := (af K3.out 0).trans rfl
 have c1 := (af K3.out 1).trans rfl
 have c2 := (af K3.out 2).trans rfl
 have c3 := (af K3.out 3).trans rfl
 have c4 := (af K3.out 4).trans rfl
 have c5 := (af K3.out 5).trans rfl
 have c6 := (af K3.out 6).trans rfl
 have cm := (af HI.out.hm 0).trans rfl
 go_wp2_with (((with_reducible refine aQ (N := 29) rfl ?_); (try (refine eQ (by rfl) ?_; dsimp only)); refine KJ _ rfl _ _ 161 rfl 3 4 (Maps.int_keyed Try.underlying3) Try.underlying161 Try.underlying4 (afz _) B _ _ rfl HI.out.map _ (.int .i64 x.f2) rfl (Maps.keyOf_int_mk Try.underlying3 WF.out) true LK.out ?_))
 go_ret
 exact ⟨rfl, HI.out, HK.out⟩
theorem anP (w0 : World) (bn bm B : Nat) (s : Int × List Int) (W : World) (x : aI) (A : Option Addr) (cb : Nat) (hI : pV w0 bn bm B s W) (h1 : ¬ 20000 < wrap64 (s.1 + 1)) (h2 : zG x = true) (h3 : rQ x.f1 = true) (h4 : x.f0 = 1) (h5 : 0 ≤ x.f2) (h6 : x.f2 ≤ 2147483647) (h7 : x.f2 ∉ s.2) :
  Calls Try.prog 176 (#[.agg #[.int .u8 x.f0, .int .i64 x.f1.f0, .int .i64 x.f1.f1, .int .i64 x.f1.f2, .int .i64 x.f1.f3, .int .i64 x.f2, .slice A x.f3.length cb]] ++ #[.pointer (some ⟨bn, 0, none⟩), .pointer (some ⟨bm, 0, none⟩)]) W fun e w' => e = .returned (.bool (lV s x).1) ∧ pV w0 bn bm B (lV s x).2 w' ∧ Kp (zn bn B) W w' := by
 rw [show lV s x = (true, (wrap64 (s.1 + 1), x.f2 :: s.2)) from by unfold lV; rw [if_neg h1, Dz, h2, h3, if_neg (by simp), if_pos h4, if_neg h7]]
 have HN := ae.mk fun W => Gu x A cb W
 rw [h2] at HN
 clear h2
 have M1 := ae.mk (show pg.f [x.f1] = some true by simp [pg.f, h3])
 clear h3
 have LK : ae ((L_ s.2).atKey (.int .i64 x.f2) (.lit (.bool false)) = .lit (.bool false)) := ⟨by rw [XE, decide_eq_false h7]⟩
 have NM := ae.mk h7
 clear h7
 have HLN : ae (s.2.length < maxLen) := ⟨by have h8 := ade 2147483648 s.2 hI.nd (fun i hi => by have := hI.rg i hi; omega); unfold maxLen; omega⟩
 have I0 := ae.mk h5
 have I1 := ae.mk h6
 have WF : ae ((Lit.int .i64 x.f2).wf = true) := ⟨WalkArith.wf_i64 (by omega)⟩
 have IC : (x.f0 == 1) = true := beq_iff_eq.mpr h4
 clear h4 h5 h6
 have HI := ae.mk hI
 have HK := ae.mk (Kp.refl (zn bn B) W)
 clear hI
 simp only [List.append_toArray, List.cons_append, List.nil_append]
 go_enter Try.func176, Try.ntmps176
 go_wp2_with (first | ((with_reducible refine aQ (N := 3) rfl ?_); refine aX ?hg (N := 3) ?hd (cs := #[.int .u8 x.f0, .int .i64 x.f1.f0, .int .i64 x.f1.f1, .int .i64 x.f1.f2, .int .i64 x.f1.f3, .int .i64 x.f2, .slice A x.f3.length cb]) (t := 26) ?hr ?_; (case hd => rfl); (case hg => rfl); (case hr => (go_simp; done)); intro b3 hg w3 hbox hb; have K3 := ae.mk hbox; have gI := ae.mk (HI.out.step hb); have f_ := ae.mk (HK.out.trans (Kp.below hb)); clear HI HK; have HI := gI; have HK := f_; clear gI f_; clear hb hbox hg; have cn := (af HI.out.hn 0).trans rfl) | ((with_reducible refine sS (.store 3 (.tmp 1) (.tmp 6)) rfl ?_); go_loud (clear cn; refine lY (w0 := w0) rfl rfl 3 (.tmp 1) (.tmp 6) rfl (g := bn) (j := 0) (base := w0.heap.size) #[.int .i64 (wrap64 (s.1 + 1))] (u := .int .i64 (wrap64 (s.1 + 1))) (dL := [.int .i64 (wrap64 (s.1 + 1))]) ?sA ?sX rfl ?sT ?s1 HI.out.hn ?sJ rfl HI.out.below HI.out.below.size HI.out.gn ?_; (case sA => rfl); (case sX => rfl); (case sT => rfl); (case s1 => (simp [Value.oneCell'])); (case sJ => (simp)); intro ws hbk hbb hgg; have gI := ae.mk (HI.out.count hbk hbb hgg); have f_ := ae.mk (HK.out.trans (Kp.grown hgg (Or.inl rfl))); have kN := ae.mk (bZ K3.out hgg (fun e_ => xQ K3.out HI.out.hn (by decide) (Option.some.inj e_))); clear HI HK K3 hbk hbb hgg; have HI := gI; have HK := f_; have K3 := kN; clear gI f_ kN; have cn := (af HI.out.hn 0).trans rfl; have c0 := (af K3.out 0).trans rfl; have c1 := (af K3.out 1).trans rfl; have c2 := (af K3.out 2).trans rfl; have c3 := (af K3.out 3).trans rfl; have c4 := (af K3.out 4).trans rfl; have c5 := (af K3.out 5).trans rfl; have c6 := (af K3.out 6).trans rfl)))
 clear cn
 clear c0 c1 c2 c3 c4 c5 c6
 refine (HN.out _).mono ?_
 rintro e wk ⟨rfl, hb⟩
 have kN := ae.mk (aK K3.out hb)
 clear K3
 have K3 := kN
 clear kN
 have gI := ae.mk (HI.out.step hb); have f_ := ae.mk (HK.out.trans (Kp.below hb)); clear HI HK; have HI := gI; have HK := f_; clear gI f_
 clear hb
 have c0 := (af K3.out 0).trans rfl
 have c1 := (af K3.out 1).trans rfl
 have c2 := (af K3.out 2).trans rfl
 have c3 := (af K3.out 3).trans rfl
 have c4 := (af K3.out 4).trans rfl
 have c5 := (af K3.out 5).trans rfl
 have c6 := (af K3.out 6).trans rfl
 go_wp2_with (((with_reducible refine aQ (N := 17) rfl ?_); (try (refine eQ (by rfl) ?_; dsimp only)); refine Kd.o8 k23 _ 23 ?hg (N := 17) ?hd (xs := ([x.f1] : List bC)) (inner := [.int .i64 x.f1.f0, .int .i64 x.f1.f1, .int .i64 x.f1.f2, .int .i64 x.f1.f3]) (ok := fun _ => True) (iO := fun _ => True) ?hr ?hp (fun _ hk => hk) trivial (Below.refl _ _) (Nat.le_refl _) (by simp) ?_; (case hd => rfl); (case hg => rfl); (case hr => (go_simp; done)); (case hp => exact (dB.c4 (show Kd.M k23 _ _ _ x.f1 [.int .i64 x.f1.f0, .int .i64 x.f1.f1, .int .i64 x.f1.f2, .int .i64 x.f1.f3] from qV _ _ _ x.f1) (dB.none _ _))); intro vr wr ho hb kW gK; clear kW gK; obtain ⟨Ar, cr, er⟩ := Kd.iJ ho; subst er; have kN := ae.mk (aK K3.out hb); clear K3; have K3 := kN; clear kN; have gI := ae.mk (HI.out.step hb); have f_ := ae.mk (HK.out.trans (Kp.below hb)); clear HI HK; have HI := gI; have HK := f_; clear gI f_; have HR := ae.mk (Kd.dH ho).2.2; have LR := ae.mk (Kd.dH ho).2.1; clear ho hb))
 clear c0 c1 c2 c3 c4 c5 c6
 refine (pg.calls Ar cr [x.f1] true _ HR.out LR.out M1.out).mono ?_
 rintro e wk ⟨rfl, hb⟩
 have kN := ae.mk (aK K3.out hb)
 clear K3
 have K3 := kN
 clear kN
 have gI := ae.mk (HI.out.step hb); have f_ := ae.mk (HK.out.trans (Kp.below hb)); clear HI HK; have HI := gI; have HK := f_; clear gI f_
 clear hb
 have c0 := (af K3.out 0).trans rfl
 have c1 := (af K3.out 1).trans rfl
 have c2 := (af K3.out 2).trans rfl
 have c3 := (af K3.out 3).trans rfl
 have c4 := (af K3.out 4).trans rfl
 have c5 := (af K3.out 5).trans rfl
 have c6 := (af K3.out 6).trans rfl
 have cm := (af HI.out.hm 0).trans rfl
 go_wp2_with (first | ((with_reducible refine aQ (N := 29) rfl ?_); (try (refine eQ (by rfl) ?_; dsimp only)); refine KJ _ rfl _ _ 161 rfl 3 4 (Maps.int_keyed Try.underlying3) Try.underlying161 Try.underlying4 (afz _) B _ _ rfl HI.out.map _ (.int .i64 x.f2) rfl (Maps.keyOf_int_mk Try.underlying3 WF.out) false LK.out ?_) | (at_mapUpdate; refine wpList_mapUpdate_own _ rfl _ _ _ 161 rfl 3 4 (Maps.int_keyed Try.underlying3) Try.underlying161 _ B _ _ rfl HI.out.map HLN.out _ _ (.int .i64 x.f2) rfl rfl (Maps.keyOf_int_mk Try.underlying3 WF.out) (.lit (.bool true)) [] (plainElem_bool Try.underlying4 true) ?_; intro wu hown1 hgrow1; have gI := ae.mk (HI.out.met hown1 hgrow1 NM.out I0.out I1.out); have f_ := ae.mk (HK.out.trans (Kp.grown hgrow1 (Or.inr rfl))); clear HI HK hown1 hgrow1; have HI := gI; have HK := f_; clear gI f_))
 go_ret
 exact ⟨rfl, HI.out, HK.out⟩
theorem akW (w0 : World) (bn bm B : Nat) (s : Int × List Int) (W : World) (x : aI) (A : Option Addr) (cb : Nat) (hI : pV w0 bn bm B s W) :
  Calls Try.prog 176 (#[.agg #[.int .u8 x.f0, .int .i64 x.f1.f0, .int .i64 x.f1.f1, .int .i64 x.f1.f2, .int .i64 x.f1.f3, .int .i64 x.f2, .slice A x.f3.length cb]] ++ #[.pointer (some ⟨bn, 0, none⟩), .pointer (some ⟨bm, 0, none⟩)]) W fun e w' => e = .returned (.bool (lV s x).1) ∧ pV w0 bn bm B (lV s x).2 w' ∧ Kp (zn bn B) W w' := by
 by_cases h1 : 20000 < wrap64 (s.1 + 1)
 ·exact anK w0 bn bm B s W x A cb hI h1
 ·cases h2 : zG x with
  | false => exact anL w0 bn bm B s W x A cb hI h1 h2
  | true =>
   cases h3 : rQ x.f1 with
   | false => exact anM w0 bn bm B s W x A cb hI h1 h2 h3
   | true =>
    by_cases h4 : x.f0 = 1
    ·have h8 := h2
     unfold zG at h8
     rw [if_pos h4] at h8
     simp only [Bool.and_eq_true, decide_eq_true_eq] at h8
     by_cases h7 : x.f2 ∈ s.2
     ·exact anO w0 bn bm B s W x A cb hI h1 h2 h3 h4 h8.2.1 h8.2.2 h7
     ·exact anP w0 bn bm B s W x A cb hI h1 h2 h3 h4 h8.2.1 h8.2.2 h7
    ·exact anN w0 bn bm B s W x A cb hI h1 h2 h3 h4
section
variable {P : Program} {ops : Array Oper} {rest : List Oper} {o : Oper} {a : Act} {Q : Exit → Act → World → Prop}
theorem abd {W : World} (hgd : o.guard = none) {N : Tmp} (_hd : o.dst = some N) (t k e : TypeId) (ho : o.op = .makeMap t none)
  (h : ∀ g, g = W.heap.size → ∀ w1, Below W.heap.size W w1 → w1.ownsMap (H := Unit) P k (plainElem P e) g 0 (.map []) → wpList P ops Q rest (a.put o.dst (.map (some g))) w1) : wpList P ops Q (o :: rest) a W := by
 refine Kd.IB hgd (w1 := W.alloc (.map #[] 0)) (v := .map (some W.heap.size)) ?_ (h _ rfl _ (kz (Below.refl _ _) _) (World.ownsMap_made W P k _))
 unfold execOp
 simp [ho, run_makeMap, Result.andThen]
end
theorem akV (c : aI) (A : Option Addr) (cc : Nat) (W : World) (hz : sz c ≤ 1048576) (hr : Kd.C k26 W A c.f3.length c.f3) (hc : c.f3.length ≤ cc) : Calls Try.prog 144 #[.agg #[.int .u8 c.f0, .int .i64 c.f1.f0, .int .i64 c.f1.f1, .int .i64 c.f1.f2, .int .i64 c.f1.f3, .int .i64 c.f2, .slice A c.f3.length cc]] W fun e w' => e = .returned (.bool (o6 c)) ∧ Below W.heap.size W w' := by
 have abV := ae.mk fun (bn bm B : Nat) (W1 : World) (hI : pV W bn bm B (0, []) W1) => ajK (zn bn B) (pV W bn bm B) lV 176 #[.pointer (some ⟨bn, 0, none⟩), .pointer (some ⟨bm, 0, none⟩)] (wU Try.func176 (by decide +kernel) (by kernel_rfl)) W (fun s w h => h.below) (fun s w w' h hb => h.step hb)
  (fun s w h k hk => hk.elim (fun e => e ▸ eP h.hn) (fun e => e ▸ h.map.lt)) (fun s w x B' cb h _ _ => akW W bn bm B s w x B' cb h) (sz c) c (Nat.le_refl _) A cc hr hc (0, []) W1 hI
 rw [ab_ c hz] at abV
 have HB := ae.mk (Below.refl W.heap.size W)
 clear hr hc hz
 generalize o6 c = r at abV ⊢
 go_enter Try.func144, Try.ntmps144
 go_wp2_with (first | ((with_reducible refine aQ (N := 1) rfl ?_); refine aX ?hg (N := 1) ?hd (cs := #[.int .u8 c.f0, .int .i64 c.f1.f0, .int .i64 c.f1.f1, .int .i64 c.f1.f2, .int .i64 c.f1.f3, .int .i64 c.f2, .slice A c.f3.length cc]) (t := 26) ?hr ?_; (case hd => rfl); (case hg => rfl); (case hr => (go_simp; done)); intro b1 hg wb1 hbox hb; have dR := ae.mk hbox; have dZ := ae.mk (aH HB.out hb); clear HB; have HB := dZ; clear dZ; clear hb hbox hg) | ((with_reducible refine aQ (N := 5) rfl ?_); refine abd rfl (N := 5) rfl 161 3 4 rfl ?_; intro B hg wB hb hM; have GB := ae.mk (show W.heap.size ≤ B by rw [hg]; exact HB.out.size); have HM := ae.mk hM; have dZ := ae.mk (aH HB.out hb); have jO := ae.mk (aK dR.out hb); clear HB dR; have HB := dZ; have dR := jO; clear dZ jO; clear hb hM hg) | ((with_reducible refine aQ (N := 3) rfl ?_); refine aX ?hg (N := 3) ?hd (cs := #[.map none]) (t := 161) ?hr ?_; (case hd => rfl); (case hg => rfl); (case hr => (go_simp; done)); intro bm hg wbm hbox hb; have Fj := ae.mk hbox; have Gbm := ae.mk (show W.heap.size ≤ bm by rw [hg]; exact HB.out.size); have dZ := ae.mk (aH HB.out hb); have jO := ae.mk (aK dR.out hb); have DT := ae.mk (HM.out.kept (below_grown hb) (by simp)); clear HB dR HM; have HB := dZ; have dR := jO; have HM := DT; clear dZ jO DT; clear hb hbox hg) | ((with_reducible refine sS (.store 161 (.tmp 3) (.tmp 5)) rfl ?_); go_loud (refine lY (w0 := W) rfl rfl 161 (.tmp 3) (.tmp 5) rfl (g := bm) (j := 0) (base := W.heap.size) #[.map (some B)] (u := .map (some B)) (dL := [.map (some B)]) ?sA ?sX rfl ?sT ?s1 Fj.out ?sJ rfl HB.out HB.out.size Gbm.out ?_; (case sA => rfl); (case sX => rfl); (case sT => rfl); (case s1 => (simp [Value.oneCell'])); (case sJ => (simp)); intro axg hbk hbb hgg; have NB : ae (B ≠ bm) := ⟨fun e => by have hq := Fj.out; obtain ⟨es, cl, hB, _⟩ := HM.out; rw [← e, hB] at hq; cases hq⟩; have jO := ae.mk (bZ dR.out hgg (fun e_ => xQ dR.out Fj.out (by decide) (Option.some.inj e_))); have DT := ae.mk (HM.out.kept hgg (fun e_ => NB.out (Option.some.inj e_))); clear dR HM; have dR := jO; have HM := DT; clear jO DT; clear Fj HB; have Fj := ae.mk hbk; have HB := ae.mk hbb; clear hbk hbb hgg)) | ((with_reducible refine aQ (N := 4) rfl ?_); refine aX ?hg (N := 4) ?hd (cs := #[.int .i64 0]) (t := 3) ?hr ?_; (case hd => rfl); (case hg => rfl); (case hr => (go_simp; done)); intro bn hg wbn hbox hb; have SX := ae.mk hbox; have Gbn := ae.mk (show W.heap.size ≤ bn by rw [hg]; exact HB.out.size); have dZ := ae.mk (aH HB.out hb); have jO := ae.mk (aK dR.out hb); have Ol := ae.mk (aK Fj.out hb); have DT := ae.mk (HM.out.kept (below_grown hb) (by simp)); clear HB dR Fj HM; have HB := dZ; have dR := jO; have Fj := Ol; have HM := DT; clear dZ jO Ol DT; clear hb hbox hg) | ((with_reducible refine sS (.store 3 (.tmp 4) (.const (.int .i64 0))) rfl ?_); go_loud (refine lY (w0 := W) rfl rfl 3 (.tmp 4) (.const (.int .i64 0)) rfl (g := bn) (j := 0) (base := W.heap.size) #[.int .i64 0] (u := .int .i64 0) (dL := [.int .i64 0]) ?sA ?sX rfl ?sT ?s1 SX.out ?sJ rfl HB.out HB.out.size Gbn.out ?_; (case sA => rfl); (case sX => rfl); (case sT => rfl); (case s1 => (simp [Value.oneCell'])); (case sJ => (decide)); intro axh hbk hbb hgg; have NN : ae (B ≠ bn) := ⟨fun e => by have hq := SX.out; obtain ⟨es, cl, hB, _⟩ := HM.out; rw [← e, hB] at hq; cases hq⟩; have jO := ae.mk (bZ dR.out hgg (fun e_ => xQ dR.out SX.out (by decide) (Option.some.inj e_))); have Ol := ae.mk (bZ Fj.out hgg (fun e_ => xQ Fj.out SX.out (by decide) (Option.some.inj e_))); have DT := ae.mk (HM.out.kept hgg (fun e_ => NN.out (Option.some.inj e_))); clear dR Fj HM; have dR := jO; have Fj := Ol; have HM := DT; clear jO Ol DT; clear SX HB; have SX := ae.mk hbk; have HB := ae.mk hbb; clear hbk hbb hgg; have c0 := (af dR.out 0).trans rfl; have c1 := (af dR.out 1).trans rfl; have c2 := (af dR.out 2).trans rfl; have c3 := (af dR.out 3).trans rfl; have c4 := (af dR.out 4).trans rfl; have c5 := (af dR.out 5).trans rfl; have c6 := (af dR.out 6).trans rfl)))
 clear c0 c1 c2 c3 c4 c5 c6
 refine (abV.out bn bm B _ ⟨SX.out, Fj.out, HM.out, HB.out, Gbn.out, GB.out, List.nodup_nil, fun i hi => absurd hi (by simp)⟩).mono ?_
 rintro e w' ⟨rfl, hi, _⟩
 have HI := ae.mk hi.below
 clear hi
 go_wp2
 go_ret
 exact ⟨rfl, HI.out⟩
theorem akU (c : aI) (A : Option Addr) (cc : Nat) (W : World) (hz : sz c ≤ 1048576) (hr : Kd.C k26 W A c.f3.length c.f3) (hc : c.f3.length ≤ cc) : Calls Try.prog 143 #[.agg #[.int .u8 c.f0, .int .i64 c.f1.f0, .int .i64 c.f1.f1, .int .i64 c.f1.f2, .int .i64 c.f1.f3, .int .i64 c.f2, .slice A c.f3.length cc]] W fun e w' => e = .returned (.bool (!o6 c)) ∧ Below W.heap.size W w' := by
 have H := ae.mk fun (W1 : World) (hb : Below W.heap.size W W1) => akV c A cc W1 hz (Kd.iP hr hb) hc
 clear hr hc hz
 cases hm : o6 c
 all_goals
  rw [hm] at H
  clear hm
  go_enter Try.func143, Try.ntmps143
  go_wp2_with (((with_reducible refine aQ (N := 1) rfl ?_); refine aX ?hg (N := 1) ?hd (cs := #[.int .u8 c.f0, .int .i64 c.f1.f0, .int .i64 c.f1.f1, .int .i64 c.f1.f2, .int .i64 c.f1.f3, .int .i64 c.f2, .slice A c.f3.length cc]) (t := 26) ?hr ?_; (case hd => rfl); (case hg => rfl); (case hr => (go_simp; done)); intro b1 hg w1 hbox hb; have HB := ae.mk hb; have K1 := ae.mk hbox; clear hb hbox hg; have c0 := (af K1.out 0).trans rfl; have c1 := (af K1.out 1).trans rfl; have c2 := (af K1.out 2).trans rfl; have c3 := (af K1.out 3).trans rfl; have c4 := (af K1.out 4).trans rfl; have c5 := (af K1.out 5).trans rfl; have c6 := (af K1.out 6).trans rfl))
  clear c0 c1 c2 c3 c4 c5 c6
  refine (H.out _ HB.out).mono ?_
  rintro e w' ⟨rfl, hb⟩
  have HB2 := ae.mk (aH HB.out hb)
  clear hb
  go_wp2
  go_ret
  exact ⟨rfl, HB2.out⟩
def uf.f (l0 : List aI) : Option Bool := if l0.all (fun c => decide (sz c ≤ 1048576)) = true then some (l0.all o6) else none
theorem uf.calls (A0 : Option Addr) (c0 : Nat) (l0 : List aI) (r : Bool) (w : World) (hr0 : Kd.C k26 w A0 l0.length l0) (hc0 : l0.length ≤ c0) (h : uf.f l0 = some r) :
  Calls Try.prog 76 #[.slice A0 l0.length c0] w fun e w' => e = .returned (.bool r) ∧ Below w.heap.size w w' := by
 unfold uf.f at h
 split at h
 ·rename_i hz
  injection h with h
  have hcon := aay (fun (_ : Unit) W => Below w.heap.size w W) (fun _ x => (!o6 x, ())) 143 #[] (wU Try.func143 (by decide +kernel) (by kernel_rfl)) l0 A0 c0 w hr0 (fun _ W hW => hW) (fun _ W n hW => fV hW n)
   (fun _ W x B cb hx hW hC hl => by
    rw [show (#[Value.agg #[.int .u8 x.f0, .int .i64 x.f1.f0, .int .i64 x.f1.f1, .int .i64 x.f1.f2, .int .i64 x.f1.f3, .int .i64 x.f2, .slice B x.f3.length cb]] ++ #[] : Array Value) = #[.agg #[.int .u8 x.f0, .int .i64 x.f1.f0, .int .i64 x.f1.f1, .int .i64 x.f1.f2, .int .i64 x.f1.f3, .int .i64 x.f2, .slice B x.f3.length cb]] by simp]
    exact (akU x B cb W (of_decide_eq_true (List.all_eq_true.1 hz x hx)) (Kd.iP hC hW) hl).mono fun e w' ⟨he, hb⟩ => ⟨he, zx hW hW.size hb⟩) () w (Below.refl _ _) hr0.2.1
  rw [Rf] at hcon
  have hnone := Xu l0 A0 c0 143 #[] _ _ w hcon (fun W n hW => fV hW n)
  have e1 : r = !(l0.any fun x => !o6 x) := by
   rw [← h]
   clear h hcon hr0 hc0 hz hnone
   induction l0 with
   | nil => rfl
   | cons x xs ih => simp only [List.all_cons, List.any_cons, ih, Bool.not_or, Bool.not_not]
  subst e1
  generalize (l0.any fun x => !o6 x) = b at hnone
  have HC := ae.mk hnone
  clear hcon h hr0 hnone hz
  go_enter Try.func76, Try.ntmps76
  go_wp2_with fail
  refine HC.out.mono ?_
  rintro e w' ⟨rfl, hb⟩
  have HB := ae.mk hb
  clear hb
  go_wp2
  go_ret
  exact ⟨rfl, HB.out⟩
 ·exact absurd h (by simp)
noncomputable def jy (c : aI) : Bool := o6 c && pO c
theorem uP {c : aI} (h : o6 c = true) : sz c ≤ 20000 := by
 unfold o6 at h
 simp only [Bool.and_eq_true, decide_eq_true_eq] at h
 omega
theorem U7 {x : ByteArray} {w : World} {A : Option Addr} (h : Kd.C Kd.string w A 1 [x]) : ∃ ad, A = some ad := by
 obtain ⟨ad, h1, _⟩ := h.2.2 (by omega)
 exact ⟨ad, h1⟩
theorem ack (c : aI) (hz : sz c ≤ 1048576) (A : Option Addr) (cc : Nat) (w : World) (hr : Kd.C k26 w A c.f3.length c.f3) (hc : c.f3.length ≤ cc) :
  Calls Try.prog 180 #[.agg #[.int .u8 c.f0, .int .i64 c.f1.f0, .int .i64 c.f1.f1, .int .i64 c.f1.f2, .int .i64 c.f1.f3, .int .i64 c.f2, .slice A c.f3.length cc]] w fun e w' => (if jy c = true then e = .returned .nilIface else ∃ t u, e = .returned (.iface t u)) ∧ Below w.heap.size w w' := by
 have hM : uf.f [c] = some (o6 c) := by
  unfold uf.f
  rw [if_pos (by simp [hz])]
  simp
 have hW : o6 c = true → ∀ (gw : Nat) (W : World), w.heap.size ≤ gw → uo w gw 0 W → Calls Try.prog 197 #[.pointer (some ⟨gw, 0, none⟩), .agg #[.int .u8 c.f0, .int .i64 c.f1.f0, .int .i64 c.f1.f1, .int .i64 c.f1.f2, .int .i64 c.f1.f3, .int .i64 c.f2, .slice A c.f3.length cc]] W fun e w' => e = .returned (.bool (pO c)) ∧ uo w gw (0 + jw c.f3) w' ∧ Fr gw W w' := fun hm gw W hg hI => aix w gw hg (sz c) c (Nat.le_refl _) (uP hm) A cc hr hc 0 W (by have := uP hm; have := gm c; omega) hI
 unfold jy
 have HR := ae.mk hr
 have HC := ae.mk hc
 have HM := ae.mk hM
 have HW := ae.mk hW
 have HB := ae.mk (Below.refl w.heap.size w)
 clear hr hc hM hW hz
 obtain ⟨ck, ⟨cx, cy, cw, ch⟩, aV, l⟩ := c
 simp only [] at HR HC HW ⊢
 generalize pO ⟨ck, ⟨cx, cy, cw, ch⟩, aV, l⟩ = q at HW ⊢
 cases hm : o6 (⟨ck, ⟨cx, cy, cw, ch⟩, aV, l⟩ : aI) with
 | false =>
  rw [hm] at HM
  have HM := HM
  simp only [Bool.false_and, Bool.false_eq_true, if_false]
  clear hm HW
  go_enter Try.func180, Try.ntmps180
  go_wp2_with (first | ((with_reducible refine aQ (N := 1) rfl ?_); refine aX ?hg (N := 1) ?hd (cs := #[.int .u8 ck, .int .i64 cx, .int .i64 cy, .int .i64 cw, .int .i64 ch, .int .i64 aV, .slice A l.length cc]) (t := 26) ?hr ?_; (case hd => rfl); (case hg => rfl); (case hr => (go_simp; done)); intro b1 hg wb1 hbox hb; have dR := ae.mk hbox; have dZ := ae.mk (aH HB.out hb); clear HB; have HB := dZ; clear dZ; clear hb hbox hg) | ((with_reducible refine aQ (N := 5) rfl ?_); refine aX ?hg (N := 5) ?hd (cs := #[.int .i64 0, .slice none 0 0]) (t := 182) ?hr ?_; (case hd => rfl); (case hg => rfl); (case hr => (go_simp; done)); intro gw hg wgw hbox hb; have ui := ae.mk hbox; have GG := ae.mk (show w.heap.size ≤ gw by rw [hg]; exact HB.out.size); have dZ := ae.mk (aH HB.out hb); have jO := ae.mk (aK dR.out hb); clear HB dR; have HB := dZ; have dR := jO; clear dZ jO; have c0 := (af dR.out 0).trans rfl; have c1 := (af dR.out 1).trans rfl; have c2 := (af dR.out 2).trans rfl; have c3 := (af dR.out 3).trans rfl; have c4 := (af dR.out 4).trans rfl; have c5 := (af dR.out 5).trans rfl; have c6 := (af dR.out 6).trans rfl; clear hb hbox hg) | ((with_reducible refine aQ (N := 8) rfl ?_); refine Kd.BZ k26 _ 26 ?hg (N' := 8) ?hd (xs := [(⟨ck, ⟨cx, cy, cw, ch⟩, aV, l⟩ : aI)]) (inner := [.int .u8 ck, .int .i64 cx, .int .i64 cy, .int .i64 cw, .int .i64 ch, .int .i64 aV, .slice A l.length cc]) (ok := fun _ => True) (iO := fun _ => True) ?hr ?hp (fun _ hk => hk) trivial (Below.refl _ _) (Nat.le_refl _) (by simp) ?_; (case hd => rfl); (case hg => rfl); (case hr => (go_simp; done)); (case hp => exact (dB.c7 (vP _ _ (⟨ck, ⟨cx, cy, cw, ch⟩, aV, l⟩ : aI) HC.out (Kd.zk (Kd.QV wX (Kd.iP HR.out HB.out)) (fun _ _ => trivial))) (dB.none _ _))); intro vr wr ho hb kW gK; clear kW gK; obtain ⟨Am, cm, er⟩ := Kd.nH ho; subst er; have dZ := ae.mk (aH HB.out hb); have jO := ae.mk (aK dR.out hb); have tq := ae.mk (aK ui.out hb); clear HB dR ui; have HB := dZ; have dR := jO; have ui := tq; clear dZ jO tq; have Hm := ae.mk (Kd.kY ho).2.2; have Lm := ae.mk (Kd.kY ho).2.1; clear ho hb c0 c1 c2 c3 c4 c5 c6))
  refine (uf.calls Am cm [(⟨ck, ⟨cx, cy, cw, ch⟩, aV, l⟩ : aI)] false _ Hm.out Lm.out HM.out).mono ?_
  rintro e w1 ⟨rfl, hb⟩
  have dZ := ae.mk (aH HB.out hb); have jO := ae.mk (aK dR.out hb); have tq := ae.mk (aK ui.out hb); clear HB dR ui; have HB := dZ; have dR := jO; have ui := tq; clear dZ jO tq
  clear hb Hm Lm
  go_wp2_with fail
  refine (abh 1 0 (by decide) _).mono ?_
  rintro e w2 ⟨⟨tv, v, rfl⟩, hb⟩
  have dZ := ae.mk (aH HB.out hb); clear HB; have HB := dZ; clear dZ
  clear hb
  go_wp2_with (((with_reducible refine aQ (N := 12) rfl ?_); refine Kd.o8 Kd.string _ 9 ?hg (N := 12) ?hd (xs := [(⟨#[108, 97, 121, 111, 117, 116]⟩ : ByteArray)]) (inner := [.string (⟨#[108, 97, 121, 111, 117, 116]⟩ : ByteArray)]) (ok := fun _ => True) (iO := fun _ => True) ?hr ?hp (fun _ hk => hk) trivial (Below.refl _ _) (Nat.le_refl _) (by simp) ?_; (case hd => rfl); (case hg => rfl); (case hr => (go_simp; done)); (case hp => exact (dB.one (show Kd.M Kd.string _ _ _ (⟨#[108, 97, 121, 111, 117, 116]⟩ : ByteArray) [.string (⟨#[108, 97, 121, 111, 117, 116]⟩ : ByteArray)] from rfl) (dB.none _ _))); intro vs wr ho hb kW gK; clear kW gK; obtain ⟨As, cs_, er⟩ := Kd.iJ ho; subst er; have dZ := ae.mk (aH HB.out hb); clear HB; have HB := dZ; clear dZ; have Hs := ae.mk (Kd.dH ho).2.2; have Ls := ae.mk (Kd.dH ho).2.1; clear ho hb))
  obtain ⟨ad, ea⟩ := U7 Hs.out
  subst ea
  refine (ae9 tv v ad cs_ _ _ Hs.out Ls.out).mono ?_
  rintro e w3 ⟨⟨tu, u, rfl⟩, hb⟩
  have dZ := ae.mk (aH HB.out hb); clear HB; have HB := dZ; clear dZ
  clear hb Hs Ls
  go_wp2
  go_ret
  exact ⟨⟨_, _, rfl⟩, HB.out⟩
 | true =>
  rw [hm] at HM
  have HW := ae.mk (HW.out hm)
  simp only [Bool.true_and]
  clear hm
  cases q with
  | true =>
   simp only [if_true]
   go_enter Try.func180, Try.ntmps180
   go_wp2_with (first | ((with_reducible refine aQ (N := 1) rfl ?_); refine aX ?hg (N := 1) ?hd (cs := #[.int .u8 ck, .int .i64 cx, .int .i64 cy, .int .i64 cw, .int .i64 ch, .int .i64 aV, .slice A l.length cc]) (t := 26) ?hr ?_; (case hd => rfl); (case hg => rfl); (case hr => (go_simp; done)); intro b1 hg wb1 hbox hb; have dR := ae.mk hbox; have dZ := ae.mk (aH HB.out hb); clear HB; have HB := dZ; clear dZ; clear hb hbox hg) | ((with_reducible refine aQ (N := 5) rfl ?_); refine aX ?hg (N := 5) ?hd (cs := #[.int .i64 0, .slice none 0 0]) (t := 182) ?hr ?_; (case hd => rfl); (case hg => rfl); (case hr => (go_simp; done)); intro gw hg wgw hbox hb; have ui := ae.mk hbox; have GG := ae.mk (show w.heap.size ≤ gw by rw [hg]; exact HB.out.size); have dZ := ae.mk (aH HB.out hb); have jO := ae.mk (aK dR.out hb); clear HB dR; have HB := dZ; have dR := jO; clear dZ jO; have c0 := (af dR.out 0).trans rfl; have c1 := (af dR.out 1).trans rfl; have c2 := (af dR.out 2).trans rfl; have c3 := (af dR.out 3).trans rfl; have c4 := (af dR.out 4).trans rfl; have c5 := (af dR.out 5).trans rfl; have c6 := (af dR.out 6).trans rfl; clear hb hbox hg) | ((with_reducible refine aQ (N := 8) rfl ?_); refine Kd.BZ k26 _ 26 ?hg (N' := 8) ?hd (xs := [(⟨ck, ⟨cx, cy, cw, ch⟩, aV, l⟩ : aI)]) (inner := [.int .u8 ck, .int .i64 cx, .int .i64 cy, .int .i64 cw, .int .i64 ch, .int .i64 aV, .slice A l.length cc]) (ok := fun _ => True) (iO := fun _ => True) ?hr ?hp (fun _ hk => hk) trivial (Below.refl _ _) (Nat.le_refl _) (by simp) ?_; (case hd => rfl); (case hg => rfl); (case hr => (go_simp; done)); (case hp => exact (dB.c7 (vP _ _ (⟨ck, ⟨cx, cy, cw, ch⟩, aV, l⟩ : aI) HC.out (Kd.zk (Kd.QV wX (Kd.iP HR.out HB.out)) (fun _ _ => trivial))) (dB.none _ _))); intro vr wr ho hb kW gK; clear kW gK; obtain ⟨Am, cm, er⟩ := Kd.nH ho; subst er; have dZ := ae.mk (aH HB.out hb); have jO := ae.mk (aK dR.out hb); have tq := ae.mk (aK ui.out hb); clear HB dR ui; have HB := dZ; have dR := jO; have ui := tq; clear dZ jO tq; have Hm := ae.mk (Kd.kY ho).2.2; have Lm := ae.mk (Kd.kY ho).2.1; clear ho hb c0 c1 c2 c3 c4 c5 c6))
   refine (uf.calls Am cm [(⟨ck, ⟨cx, cy, cw, ch⟩, aV, l⟩ : aI)] true _ Hm.out Lm.out HM.out).mono ?_
   rintro e w1 ⟨rfl, hb⟩
   have dZ := ae.mk (aH HB.out hb); have jO := ae.mk (aK dR.out hb); have tq := ae.mk (aK ui.out hb); clear HB dR ui; have HB := dZ; have dR := jO; have ui := tq; clear dZ jO tq
   clear hb Hm Lm
   have HI := ae.mk (show uo w gw 0 w1 from ⟨HB.out, 0, .slice none 0 0, [], ui.out, Kd.nI _ _ _ _ _, Nat.le_refl _⟩)
   have c0 := (af dR.out 0).trans rfl
   have c1 := (af dR.out 1).trans rfl
   have c2 := (af dR.out 2).trans rfl
   have c3 := (af dR.out 3).trans rfl
   have c4 := (af dR.out 4).trans rfl
   have c5 := (af dR.out 5).trans rfl
   have c6 := (af dR.out 6).trans rfl
   go_wp2_with fail
   clear c0 c1 c2 c3 c4 c5 c6
   refine (HW.out gw w1 GG.out HI.out).mono ?_
   rintro e w2 ⟨rfl, ⟨hb2, n, v, ls, hk, _, _⟩, _⟩
   clear HB ui HI dR
   have HB := ae.mk hb2
   have ui := ae.mk hk
   clear hb2 hk
   go_wp2
   go_ret
   exact ⟨rfl, HB.out⟩
  | false =>
   simp only [Bool.false_eq_true, if_false]
   go_enter Try.func180, Try.ntmps180
   go_wp2_with (first | ((with_reducible refine aQ (N := 1) rfl ?_); refine aX ?hg (N := 1) ?hd (cs := #[.int .u8 ck, .int .i64 cx, .int .i64 cy, .int .i64 cw, .int .i64 ch, .int .i64 aV, .slice A l.length cc]) (t := 26) ?hr ?_; (case hd => rfl); (case hg => rfl); (case hr => (go_simp; done)); intro b1 hg wb1 hbox hb; have dR := ae.mk hbox; have dZ := ae.mk (aH HB.out hb); clear HB; have HB := dZ; clear dZ; clear hb hbox hg) | ((with_reducible refine aQ (N := 5) rfl ?_); refine aX ?hg (N := 5) ?hd (cs := #[.int .i64 0, .slice none 0 0]) (t := 182) ?hr ?_; (case hd => rfl); (case hg => rfl); (case hr => (go_simp; done)); intro gw hg wgw hbox hb; have ui := ae.mk hbox; have GG := ae.mk (show w.heap.size ≤ gw by rw [hg]; exact HB.out.size); have dZ := ae.mk (aH HB.out hb); have jO := ae.mk (aK dR.out hb); clear HB dR; have HB := dZ; have dR := jO; clear dZ jO; have c0 := (af dR.out 0).trans rfl; have c1 := (af dR.out 1).trans rfl; have c2 := (af dR.out 2).trans rfl; have c3 := (af dR.out 3).trans rfl; have c4 := (af dR.out 4).trans rfl; have c5 := (af dR.out 5).trans rfl; have c6 := (af dR.out 6).trans rfl; clear hb hbox hg) | ((with_reducible refine aQ (N := 8) rfl ?_); refine Kd.BZ k26 _ 26 ?hg (N' := 8) ?hd (xs := [(⟨ck, ⟨cx, cy, cw, ch⟩, aV, l⟩ : aI)]) (inner := [.int .u8 ck, .int .i64 cx, .int .i64 cy, .int .i64 cw, .int .i64 ch, .int .i64 aV, .slice A l.length cc]) (ok := fun _ => True) (iO := fun _ => True) ?hr ?hp (fun _ hk => hk) trivial (Below.refl _ _) (Nat.le_refl _) (by simp) ?_; (case hd => rfl); (case hg => rfl); (case hr => (go_simp; done)); (case hp => exact (dB.c7 (vP _ _ (⟨ck, ⟨cx, cy, cw, ch⟩, aV, l⟩ : aI) HC.out (Kd.zk (Kd.QV wX (Kd.iP HR.out HB.out)) (fun _ _ => trivial))) (dB.none _ _))); intro vr wr ho hb kW gK; clear kW gK; obtain ⟨Am, cm, er⟩ := Kd.nH ho; subst er; have dZ := ae.mk (aH HB.out hb); have jO := ae.mk (aK dR.out hb); have tq := ae.mk (aK ui.out hb); clear HB dR ui; have HB := dZ; have dR := jO; have ui := tq; clear dZ jO tq; have Hm := ae.mk (Kd.kY ho).2.2; have Lm := ae.mk (Kd.kY ho).2.1; clear ho hb c0 c1 c2 c3 c4 c5 c6))
   refine (uf.calls Am cm [(⟨ck, ⟨cx, cy, cw, ch⟩, aV, l⟩ : aI)] true _ Hm.out Lm.out HM.out).mono ?_
   rintro e w1 ⟨rfl, hb⟩
   have dZ := ae.mk (aH HB.out hb); have jO := ae.mk (aK dR.out hb); have tq := ae.mk (aK ui.out hb); clear HB dR ui; have HB := dZ; have dR := jO; have ui := tq; clear dZ jO tq
   clear hb Hm Lm
   have HI := ae.mk (show uo w gw 0 w1 from ⟨HB.out, 0, .slice none 0 0, [], ui.out, Kd.nI _ _ _ _ _, Nat.le_refl _⟩)
   have c0 := (af dR.out 0).trans rfl
   have c1 := (af dR.out 1).trans rfl
   have c2 := (af dR.out 2).trans rfl
   have c3 := (af dR.out 3).trans rfl
   have c4 := (af dR.out 4).trans rfl
   have c5 := (af dR.out 5).trans rfl
   have c6 := (af dR.out 6).trans rfl
   go_wp2_with fail
   clear c0 c1 c2 c3 c4 c5 c6
   refine (HW.out gw w1 GG.out HI.out).mono ?_
   rintro e w2 ⟨rfl, ⟨hb2, n, v, ls, hk, _, _⟩, _⟩
   clear HB ui HI dR
   have HB := ae.mk hb2
   have ui := ae.mk hk
   clear hb2 hk
   have c0 := (af ui.out 0).trans rfl
   have c1 := (af ui.out 1).trans rfl
   go_wp2_with fail
   clear c0 c1
   refine (abh 5 n (by decide) _).mono ?_
   rintro e w2 ⟨⟨tv, v, rfl⟩, hb⟩
   have dZ := ae.mk (aH HB.out hb); clear HB; have HB := dZ; clear dZ
   clear hb
   go_wp2_with (((with_reducible refine aQ (N := 24) rfl ?_); refine Kd.o8 Kd.string _ 9 ?hg (N := 24) ?hd (xs := [(⟨#[108, 97, 121, 111, 117, 116]⟩ : ByteArray)]) (inner := [.string (⟨#[108, 97, 121, 111, 117, 116]⟩ : ByteArray)]) (ok := fun _ => True) (iO := fun _ => True) ?hr ?hp (fun _ hk => hk) trivial (Below.refl _ _) (Nat.le_refl _) (by simp) ?_; (case hd => rfl); (case hg => rfl); (case hr => (go_simp; done)); (case hp => exact (dB.one (show Kd.M Kd.string _ _ _ (⟨#[108, 97, 121, 111, 117, 116]⟩ : ByteArray) [.string (⟨#[108, 97, 121, 111, 117, 116]⟩ : ByteArray)] from rfl) (dB.none _ _))); intro vs wr ho hb kW gK; clear kW gK; obtain ⟨As, cs_, er⟩ := Kd.iJ ho; subst er; have dZ := ae.mk (aH HB.out hb); clear HB; have HB := dZ; clear dZ; have Hs := ae.mk (Kd.dH ho).2.2; have Ls := ae.mk (Kd.dH ho).2.1; clear ho hb))
   obtain ⟨ad, ea⟩ := U7 Hs.out
   subst ea
   refine (ae9 tv v ad cs_ _ _ Hs.out Ls.out).mono ?_
   rintro e w3 ⟨⟨tu, u, rfl⟩, hb⟩
   have dZ := ae.mk (aH HB.out hb); clear HB; have HB := dZ; clear dZ
   clear hb Hs Ls
   go_wp2
   go_ret
   exact ⟨⟨_, _, rfl⟩, HB.out⟩
theorem aj6 (x : aI) (hz : sz x ≤ 1048576) (B : Option Addr) (cb : Nat) (W : World) (hr : Kd.C k26 W B x.f3.length x.f3) (hl : x.f3.length ≤ cb) :
  Calls Try.prog 179 #[.agg #[.int .u8 x.f0, .int .i64 x.f1.f0, .int .i64 x.f1.f1, .int .i64 x.f1.f2, .int .i64 x.f1.f3, .int .i64 x.f2, .slice B x.f3.length cb]] W fun e w' => e = .returned (.bool (!jy x)) ∧ Below W.heap.size W w' := by
 have HC := ae.mk (fun W1 (hb : Below W.heap.size W W1) => ack x hz B cb W1 (Kd.iP hr hb) hl)
 have HB := ae.mk (Below.refl W.heap.size W)
 clear hr hl hz
 cases hq : jy x
 all_goals
  simp only [hq, if_pos, Bool.false_eq_true, if_false] at HC
  clear hq
  go_enter Try.func179, Try.ntmps179
  go_wp2_with (((with_reducible refine aQ (N := 1) rfl ?_); refine aX ?hg (N := 1) ?hd (cs := #[.int .u8 x.f0, .int .i64 x.f1.f0, .int .i64 x.f1.f1, .int .i64 x.f1.f2, .int .i64 x.f1.f3, .int .i64 x.f2, .slice B x.f3.length cb]) (t := 26) ?hr ?_; (case hd => rfl); (case hg => rfl); (case hr => (go_simp; done)); intro b1 hg wb1 hbox hb; have dR := ae.mk hbox; have dZ := ae.mk (aH HB.out hb); clear HB; have HB := dZ; clear dZ; have c0 := (af dR.out 0).trans rfl; have c1 := (af dR.out 1).trans rfl; have c2 := (af dR.out 2).trans rfl; have c3 := (af dR.out 3).trans rfl; have c4 := (af dR.out 4).trans rfl; have c5 := (af dR.out 5).trans rfl; have c6 := (af dR.out 6).trans rfl; clear hb hbox hg))
  clear c0 c1 c2 c3 c4 c5 c6
 ·refine (HC.out _ HB.out).mono ?_
  rintro e w2 ⟨⟨t, u, rfl⟩, hb⟩
  have dZ := ae.mk (aH HB.out hb); clear HB; have HB := dZ; clear dZ
  clear hb
  go_wp2
  go_ret
  exact ⟨rfl, HB.out⟩
 ·refine (HC.out _ HB.out).mono ?_
  rintro e w2 ⟨rfl, hb⟩
  have dZ := ae.mk (aH HB.out hb); clear HB; have HB := dZ; clear dZ
  clear hb
  go_wp2
  go_ret
  exact ⟨rfl, HB.out⟩
theorem Vf (l : List aI) (hz : ∀ x, x ∈ l → sz x ≤ 1048576) (A : Option Addr) (c : Nat) (w : World) (hr : Kd.C k26 w A l.length l) (hc : l.length ≤ c) :
  Calls Try.prog 148 #[.slice A l.length c] w fun e w' => e = .returned (.bool (l.all jy)) ∧ Below w.heap.size w w' := by
 have hq := V5 (fun _ W => Below w.heap.size w W) (fun x => !jy x) 179 #[] (wU Try.func179 (by decide +kernel) (by kernel_rfl)) l A c w hr (fun _ _ h => h) (fun _ W n h => aH h (fV (Below.refl _ _) n))
  (fun x rest W B cb hx _ hI hC hlx => by
   refine (aj6 x (hz x hx) B cb W (Kd.iP hC hI) hlx).mono ?_
   rintro e w' ⟨he, hb⟩
   exact ⟨he, aH hI hb⟩) w (Below.refl _ _) hr.2.1
 have HQ := ae.mk hq
 rw [List.all_eq_not_any_not]
 clear hq hr hc hz
 generalize l.any (fun x => !jy x) = r at HQ ⊢
 cases r
 all_goals
  go_enter Try.func148, Try.ntmps148
  go_wp2_with fail
  refine HQ.out.mono ?_
  rintro e w2 ⟨rfl, hb⟩
  have HB := ae.mk hb
  clear hb
  go_wp2
  go_ret
  exact ⟨rfl, HB.out⟩
noncomputable def pq.f (l0 : List aI) : Option Bool := if l0.all (fun c => decide (sz c ≤ 1048576)) = true then some (l0.all jy) else none
theorem pq.calls (A0 : Option Addr) (c0 : Nat) (l0 : List aI) (r : Bool) (w : World) (hr0 : Kd.C k26 w A0 l0.length l0) (hc0 : l0.length ≤ c0) (h : pq.f l0 = some r) :
  Calls Try.prog 148 #[.slice A0 l0.length c0] w fun e w' => e = .returned (.bool r) ∧ Below w.heap.size w w' := by
 unfold pq.f at h
 split at h
 ·rename_i hz
  injection h with h
  subst h
  exact Vf l0 (fun x hx => of_decide_eq_true (List.all_eq_true.1 hz x hx)) A0 c0 w hr0 hc0
 ·exact absurd h (by simp)
section
variable {Pr : Program} {ops : Array Oper} {rest : List Oper} {op : Oper} {a : Act} {Q : Exit → Act → World → Prop} {w W : World} {P : Nat → Prop} {bs : List (Option Nat × Obj)} {ow : List (Value × List aI)} {ts : List (Value × List aI)} {ro : List (Addr × Value)}
theorem bV (N : Tmp) (_ : op.dst = some N) (h : wpList Pr ops Q (op :: rest) a W) : wpList Pr ops Q (op :: rest) a W := h
theorem kR (t : TypeId) (p x : Operand) (_ : op.op = .store t p x) (h : wpList Pr ops Q (op :: rest) a W) : wpList Pr ops Q (op :: rest) a W := h
theorem boxS (N : Tmp) (cs : Array Value) (t : TypeId) (S : ae (St w P bs ow ts ro W))
  (h : ∀ g w1, ae (St w P ((some g, .cells cs t (0, 0)) :: bs) ow ts ro w1) → wpList Pr ops Q rest (a.put op.dst (.pointer (some ⟨g, 0, none⟩))) w1) (hd : op.dst = some N := by rfl) (hgd : op.guard = none := by rfl)
  (hr : (execOp a.eval op).run Pr W = .ok (.value (.pointer (some ⟨W.heap.size, 0, none⟩))) (W.alloc (.cells cs t (0, 0))) := by first | (go_simp; done) | (go_simp; rfl)) : wpList Pr ops Q (op :: rest) a W :=
 ajQ hd hgd cs t S.out hr (fun g w1 S1 => h g w1 ⟨S1⟩)
theorem adw (i : Nat) {g : Nat} {cs : Array Value} {t0 : TypeId} (hi : bs[i]? = some (some g, .cells cs t0 (0, 0))) (t : TypeId) (p x : Tmp) (cs' : Array Value) (j n : Nat) (S : ae (St w P bs ow ts ro W)) (h : ∀ w1, ae (St w P (bs.set i (some g, .cells cs' t0 (0, 0))) ow ts ro w1) → wpList Pr ops Q rest a w1)
  (ho : op.op = .store t (.tmp p) (.tmp x)) (o_ : a.eval (.tmp p) = .pointer (some ⟨g, j, none⟩)) (hu : (a.eval (.tmp x)).cells.toList = (cs'.toList.drop j).take n) (ht : (Pr.info? t).map (·.size) = some n)
  (hn : ((cs'.toList.drop j).take n).length = n) (h1 : ((cs'.toList.drop j).take n).all Value.oneCell' = true) (hj : j + n ≤ cs.size) (he : cs.toList.take j ++ (cs'.toList.drop j).take n ++ cs.toList.drop (j + n) = cs'.toList) (hN : op.dst = none) (hgd : op.guard = none) : wpList Pr ops Q (op :: rest) a W :=
 ak3 i hi t (.tmp p) (.tmp x) ho cs' S.out o_ rfl hu (by rw [hn]; exact ht) (fun q hq => List.all_eq_true.1 h1 q hq) (by rw [hn]; exact hj) (by rw [hn]; exact he) hN hgd (fun w1 S1 => h w1 ⟨S1⟩)
variable {g : Nat} {cs : Array Value} {t0 : TypeId} {b0 b1 b2 b3 b4 : Option Nat × Obj}
theorem rU (t : TypeId) (p x : Tmp) (cs' : Array Value) (j n : Nat) (S : ae (St w P ((some g, .cells cs t0 (0, 0)) :: bs) ow ts ro W)) (h : ∀ w1, ae (St w P ((some g, .cells cs' t0 (0, 0)) :: bs) ow ts ro w1) → wpList Pr ops Q rest a w1)
  (ho : op.op = .store t (.tmp p) (.tmp x) := by rfl) (o_ : a.eval (.tmp p) = .pointer (some ⟨g, j, none⟩) := by rfl) (hu : (a.eval (.tmp x)).cells.toList = (cs'.toList.drop j).take n := by rfl) (ht : (Pr.info? t).map (·.size) = some n := by kernel_rfl)
  (hn : ((cs'.toList.drop j).take n).length = n := by rfl) (h1 : ((cs'.toList.drop j).take n).all Value.oneCell' = true := by rfl) (hj : j + n ≤ cs.size := by first | decide | simp) (he : cs.toList.take j ++ (cs'.toList.drop j).take n ++ cs.toList.drop (j + n) = cs'.toList := by rfl) (hN : op.dst = none := by rfl) (hgd : op.guard = none := by rfl) : wpList Pr ops Q (op :: rest) a W :=
 adw 0 rfl t p x cs' j n S h ho o_ hu ht hn h1 hj he hN hgd
theorem BP (t : TypeId) (p x : Tmp) (cs' : Array Value) (j n : Nat) (S : ae (St w P (b0 :: (some g, .cells cs t0 (0, 0)) :: bs) ow ts ro W)) (h : ∀ w1, ae (St w P (b0 :: (some g, .cells cs' t0 (0, 0)) :: bs) ow ts ro w1) → wpList Pr ops Q rest a w1)
  (ho : op.op = .store t (.tmp p) (.tmp x) := by rfl) (o_ : a.eval (.tmp p) = .pointer (some ⟨g, j, none⟩) := by rfl) (hu : (a.eval (.tmp x)).cells.toList = (cs'.toList.drop j).take n := by rfl) (ht : (Pr.info? t).map (·.size) = some n := by kernel_rfl)
  (hn : ((cs'.toList.drop j).take n).length = n := by rfl) (h1 : ((cs'.toList.drop j).take n).all Value.oneCell' = true := by rfl) (hj : j + n ≤ cs.size := by first | decide | simp) (he : cs.toList.take j ++ (cs'.toList.drop j).take n ++ cs.toList.drop (j + n) = cs'.toList := by rfl) (hN : op.dst = none := by rfl) (hgd : op.guard = none := by rfl) : wpList Pr ops Q (op :: rest) a W :=
 adw 1 rfl t p x cs' j n S h ho o_ hu ht hn h1 hj he hN hgd
theorem ak1 (t : TypeId) (p x : Tmp) (cs' : Array Value) (j n : Nat) (S : ae (St w P (b0 :: b1 :: (some g, .cells cs t0 (0, 0)) :: bs) ow ts ro W)) (h : ∀ w1, ae (St w P (b0 :: b1 :: (some g, .cells cs' t0 (0, 0)) :: bs) ow ts ro w1) → wpList Pr ops Q rest a w1)
  (ho : op.op = .store t (.tmp p) (.tmp x) := by rfl) (o_ : a.eval (.tmp p) = .pointer (some ⟨g, j, none⟩) := by rfl) (hu : (a.eval (.tmp x)).cells.toList = (cs'.toList.drop j).take n := by rfl) (ht : (Pr.info? t).map (·.size) = some n := by kernel_rfl)
  (hn : ((cs'.toList.drop j).take n).length = n := by rfl) (h1 : ((cs'.toList.drop j).take n).all Value.oneCell' = true := by rfl) (hj : j + n ≤ cs.size := by first | decide | simp) (he : cs.toList.take j ++ (cs'.toList.drop j).take n ++ cs.toList.drop (j + n) = cs'.toList := by rfl) (hN : op.dst = none := by rfl) (hgd : op.guard = none := by rfl) : wpList Pr ops Q (op :: rest) a W :=
 adw 2 rfl t p x cs' j n S h ho o_ hu ht hn h1 hj he hN hgd
theorem NK (N : Option Tmp) {f : FuncId} {fn : Func} (hf : Pr.funcs[f]? = some fn) {ar : Array Operand} {Oy : Array TypeId} {args : Array Value} {post : Ending → World → Prop} (hc : Calls Pr f args W post)
  (h : ∀ e w1, post e w1 → ∃ v, e = .returned v ∧ wpList Pr ops Q rest (a.put N v) w1) (hd : op.dst = N := by rfl) (hg : op.guard = none := by rfl) (hop : op.op = .call { callee := .value (.func f), args := ar, argTypes := Oy } := by rfl)
  (hname : (fn.name == "runtime.NumGoroutine") = false := by kernel_rfl) (hb : fn.body.isSome = true := by rfl) (hargs : ar.map a.eval = args := by ((try simp only [List.map_toArray, List.map_cons, List.map_nil]); first | done | rfl)) : wpList Pr ops Q (op :: rest) a W :=
 gu N hd hg hf hname hb args hop hargs (hc.mono h)
theorem jX (N : Option Tmp) {f : FuncId} {fn : Func} (hf : Pr.funcs[f]? = some fn) {ar : Array Operand} {Oy : Array TypeId} {args : Array Value} {v : Value} (S : ae (St w P bs ow ts ro W)) (hc : Calls Pr f args W fun e w' => e = .returned v ∧ Below W.heap.size W w')
  (h : ∀ w1, ae (St w P bs ow ts ro w1) → wpList Pr ops Q rest (a.put N v) w1) (hd : op.dst = N := by rfl) (hg : op.guard = none := by rfl) (hop : op.op = .call { callee := .value (.func f), args := ar, argTypes := Oy } := by rfl)
  (hname : (fn.name == "runtime.NumGoroutine") = false := by kernel_rfl) (hb : fn.body.isSome = true := by rfl) (hargs : ar.map a.eval = args := by ((try simp only [List.map_toArray, List.map_cons, List.map_nil]); first | done | rfl)) : wpList Pr ops Q (op :: rest) a W :=
 gu N hd hg hf hname hb args hop hargs (hc.mono fun e w1 ⟨he, hb⟩ => ⟨v, he, h w1 ⟨S.out.call hb⟩⟩)
theorem AZ (N : Option Tmp) {f : FuncId} {fn : Func} (hf : Pr.funcs[f]? = some fn) {ar : Array Operand} {Oy : Array TypeId} {args : Array Value} {l : List aI} {F : Option Addr → Nat → Value} (S : ae (St w P bs ow ts ro W))
  (hc : Calls Pr f args W fun e w' => ∃ A c, e = .returned (F A c) ∧ Kd.N k26 26 w' W.heap.size (fun k => Ok w P (keys bs ow) k ∨ W.heap.size ≤ k) (.slice A l.length c) l ∧ Below W.heap.size W w')
  (h : ∀ A c w1, ae (St w P bs ow ((.slice A l.length c, l) :: ts) ro w1) → wpList Pr ops Q rest (a.put N (F A c)) w1) (hd : op.dst = N := by rfl) (hg : op.guard = none := by rfl) (hop : op.op = .call { callee := .value (.func f), args := ar, argTypes := Oy } := by rfl)
  (hname : (fn.name == "runtime.NumGoroutine") = false := by kernel_rfl) (hb : fn.body.isSome = true := by rfl) (hargs : ar.map a.eval = args := by ((try simp only [List.map_toArray, List.map_cons, List.map_nil]); first | done | rfl)) : wpList Pr ops Q (op :: rest) a W :=
 gu N hd hg hf hname hb args hop hargs (hc.mono fun e w1 ⟨A, c, he, h1, hb⟩ => ⟨_, he, h A c w1 ⟨S.out.res (Kd.xO (base' := 0) h1) hb⟩⟩)
theorem anD (N : Option Tmp) {f : FuncId} {fn : Func} (hf : Pr.funcs[f]? = some fn) {ar : Array Operand} {Oy : Array TypeId} {args : Array Value} {l : List aI} {F : Option Addr → Nat → Value} (S : ae (St w P bs ow ts ro W))
  (hc : Calls Pr f args W fun e w' => ∃ A c, e = .returned (F A c) ∧ Kd.V k26 26 w' W.heap.size (fun k => Ok w P (keys bs ow) k ∨ W.heap.size ≤ k) (.slice A l.length c) l ∧ Below W.heap.size W w')
  (h : ∀ A c w1, ae (St w P bs ow ((.slice A l.length c, l) :: ts) ro w1) → wpList Pr ops Q rest (a.put N (F A c)) w1) (hd : op.dst = N := by rfl) (hg : op.guard = none := by rfl) (hop : op.op = .call { callee := .value (.func f), args := ar, argTypes := Oy } := by rfl)
  (hname : (fn.name == "runtime.NumGoroutine") = false := by kernel_rfl) (hb : fn.body.isSome = true := by rfl) (hargs : ar.map a.eval = args := by ((try simp only [List.map_toArray, List.map_cons, List.map_nil]); first | done | rfl)) : wpList Pr ops Q (op :: rest) a W :=
 gu N hd hg hf hname hb args hop hargs (hc.mono fun e w1 ⟨A, c, he, h1, hb⟩ => ⟨_, he, h A c w1 ⟨S.out.res h1 hb⟩⟩)
theorem YL (N : Option Tmp) {f : FuncId} {fn : Func} (hf : Pr.funcs[f]? = some fn) {ar : Array Operand} {Oy : Array TypeId} {args : Array Value} {l : List aI} {F : Option Addr → Nat → Value} (S : ae (St w P bs [] ts ro W))
  (hc : Calls Pr f args W fun e w' => ∃ A c, e = .returned (F A c) ∧ Kd.N k26 26 w' W.heap.size (fun k => Ok w P (keys bs []) k ∨ W.heap.size ≤ k) (.slice A l.length c) l ∧ Below W.heap.size W w')
  (h : ∀ A c w1, ae (St w P bs [(.slice A l.length c, l)] ts ro w1) → wpList Pr ops Q rest (a.put N (F A c)) w1) (hd : op.dst = N := by rfl) (hg : op.guard = none := by rfl) (hop : op.op = .call { callee := .value (.func f), args := ar, argTypes := Oy } := by rfl)
  (hname : (fn.name == "runtime.NumGoroutine") = false := by kernel_rfl) (hb : fn.body.isSome = true := by rfl) (hargs : ar.map a.eval = args := by ((try simp only [List.map_toArray, List.map_cons, List.map_nil]); first | done | rfl)) : wpList Pr ops Q (op :: rest) a W :=
 gu N hd hg hf hname hb args hop hargs (hc.mono fun e w1 ⟨A, c, he, h1, hb⟩ => ⟨_, he, h A c w1 ⟨S.out.Qv h1 hb⟩⟩)
end
section
variable {w W : World} {P : Nat → Prop} {bs : List (Option Nat × Obj)} {ow : List (Value × List aI)} {ts : List (Value × List aI)} {ro : List (Addr × Value)} {g : Nat} {t : TypeId} {v0 v1 v2 v3 v4 v5 v6 : Value} {a0 a1 a2 a3 a4 a5 a6 : Addr}
theorem St.nU (S : ae (St w P bs ow ts ro W)) (hm : (some g, .cells #[v0, v1, v2, v3, v4, v5, v6] t (0, 0)) ∈ bs) :
  W.cell? ⟨g, 0, none⟩ = some v0 ∧ W.cell? ⟨g, 1, none⟩ = some v1 ∧ W.cell? ⟨g, 2, none⟩ = some v2 ∧ W.cell? ⟨g, 3, none⟩ = some v3 ∧ W.cell? ⟨g, 4, none⟩ = some v4 ∧ W.cell? ⟨g, 5, none⟩ = some v5 ∧ W.cell? ⟨g, 6, none⟩ = some v6 :=
 ⟨S.out.at hm 0, S.out.at hm 1, S.out.at hm 2, S.out.at hm 3, S.out.at hm 4, S.out.at hm 5, S.out.at hm 6⟩
theorem St.el7 (S : ae (St w P bs ow ts ((a0, v0) :: (a1, v1) :: (a2, v2) :: (a3, v3) :: (a4, v4) :: (a5, v5) :: (a6, v6) :: ro) W)) :
  W.cell? a0 = some v0 ∧ W.cell? a1 = some v1 ∧ W.cell? a2 = some v2 ∧ W.cell? a3 = some v3 ∧ W.cell? a4 = some v4 ∧ W.cell? a5 = some v5 ∧ W.cell? a6 = some v6 :=
 ⟨(S.out.cell _ (.head _)).1, (S.out.cell _ (.tail _ (.head _))).1, (S.out.cell _ (.tail _ (.tail _ (.head _)))).1, (S.out.cell _ (.tail _ (.tail _ (.tail _ (.head _))))).1, (S.out.cell _ (.tail _ (.tail _ (.tail _ (.tail _ (.head _)))))).1, (S.out.cell _ (.tail _ (.tail _ (.tail _ (.tail _ (.tail _ (.head _))))))).1, (S.out.cell _ (.tail _ (.tail _ (.tail _ (.tail _ (.tail _ (.tail _ (.head _)))))))).1⟩
end
section
variable {Pr : Program} {md : Region.Mode} {ops : Array Oper} {Q : Exit → Act → World → Prop} {S : World → Prop} {ds : List Nat}
theorem iW (N : Tmp) {fuel : Nat} {l : Array Bool} {b a' : Act} {v : Value} {w : World} (h : dS Pr md ops Q S ds fuel l a' w) (ha : Act.put b (some N) v = a' := by simp only [Act.put, List.setIfInBounds_toArray, List.set_cons_zero, List.set_cons_succ, cO, b_]; rfl) : dS Pr md ops Q S ds fuel l (Act.put b (some N) v) w := qi ha h
end
section
variable {W : World} {b : Nat} {P : Nat → Prop} {A : Option Addr} {cc : Nat}
theorem ajM (c : aI) (hz : sz c ≤ 1048576) (hV : Kd.V k26 26 W b P (.slice A c.f3.length cc) c.f3) :
  Calls Try.prog 79 #[.agg #[.int .u8 c.f0, .int .i64 c.f1.f0, .int .i64 c.f1.f1, .int .i64 c.f1.f2, .int .i64 c.f1.f3, .int .i64 c.f2, .slice A c.f3.length cc]] W fun e w' => ∃ A' c', e = .returned (.slice A' (jh c).length c') ∧ Kd.N k26 26 w' W.heap.size (fun k => P k ∨ W.heap.size ≤ k) (.slice A' (jh c).length c') (jh c) ∧ Below W.heap.size W w' := by
 obtain ⟨k, hk⟩ := (Et (sz c) c (Nat.le_refl _) hz).rounds
 exact (dM.calls k _ _ _ _ _ _ P A cc c.f3 _ W (jS hV) hk).mono (fun e w' ⟨v, he, hN, hB⟩ => by
  obtain ⟨A', c', rfl⟩ := Kd.nH hN
  exact ⟨A', c', he, hN, hB⟩)
theorem ac6 (c : aI) (hz : sz c ≤ 1048576) (hV : Kd.V k26 26 W b P (.slice A c.f3.length cc) c.f3) :
  Calls Try.prog 126 #[.agg #[.int .u8 c.f0, .int .i64 c.f1.f0, .int .i64 c.f1.f1, .int .i64 c.f1.f2, .int .i64 c.f1.f3, .int .i64 c.f2, .slice A c.f3.length cc]] W fun e w' => ∃ A' c', e = .returned (.slice A' (rZ c).length c') ∧ Kd.N k26 26 w' W.heap.size (fun k => P k ∨ W.heap.size ≤ k) (.slice A' (rZ c).length c') (rZ c) ∧ Below W.heap.size W w' := by
 obtain ⟨k, hk⟩ := (aa_ c hz).rounds
 exact (fZ.calls k _ _ _ _ _ _ P A cc c.f3 _ W (jS hV) hk).mono (fun e w' ⟨v, he, hN, hB⟩ => by
  obtain ⟨A', c', rfl⟩ := Kd.nH hN
  exact ⟨A', c', he, hN, hB⟩)
theorem xW {r : bC} {v : Bool} (h : rQ r = v) : Calls Try.prog 57 #[.agg #[.int .i64 r.f0, .int .i64 r.f1, .int .i64 r.f2, .int .i64 r.f3]] W fun e w' => e = .returned (.bool v) ∧ Below W.heap.size W w' :=
 lI.calls _ _ _ _ _ W ((KP _ _ _ _).trans (congrArg some h))
end
def sV (L M : List aI) : Bool := decide (L.length ≤ 20000) && (L.all uQ && jo M)
theorem wY {pre rest M : List aI} {k : aI} (h : uQ k = false) : sV (pre ++ k :: rest) M = false := by
 unfold sV
 rw [List.all_append, List.all_cons, h, Bool.false_and, Bool.and_false, Bool.false_and, Bool.and_false]
theorem Bq {k : aI} (h : rQ k.f1 = false ∨ k.f0 < 1 ∨ 3 < k.f0 ∨ (k.f0 = 1 ∧ (0 < k.f3.length ∨ k.f2 < 0 ∨ 2147483647 < k.f2)) ∨ (1 < k.f0 ∧ (k.f3.length < 2 ∨ k.f2 ≠ 0))) : uQ k = false := by
 cases hk : uQ k with
 | false => rfl
 | true =>
  exfalso
  unfold uQ at hk
  simp only [Bool.and_eq_true, decide_eq_true_eq] at hk
  obtain ⟨⟨⟨h1, h2⟩, h3⟩, h4⟩ := hk
  rcases h with h | h | h | h | h
  ·rw [h1] at h; cases h
  ·omega
  ·omega
  ·have := h3 h.1; omega
  ·have := h4 h.1; omega
theorem Xw {k : aI} (h1 : rQ k.f1 = true) (h2 : 1 ≤ k.f0 ∧ k.f0 ≤ 3) (h3 : k.f0 = 1 → k.f3.length = 0 ∧ 0 ≤ k.f2 ∧ k.f2 ≤ 2147483647) (h4 : k.f0 > 1 → 2 ≤ k.f3.length ∧ k.f2 = 0) : uQ k = true := by
 unfold uQ
 rw [h1, decide_eq_true h2, decide_eq_true h3, decide_eq_true h4]
 rfl
theorem Vw {pre rest : List aI} {k : aI} (h : rY pre k = false) : jo (pre ++ k :: rest) = false := by
 have h2 : jo (pre ++ [k]) = false := by rw [vM, h, Bool.and_false]
 have h3 := BO (pre ++ [k]) rest h2
 rwa [List.append_assoc] at h3
theorem anJ (c : aI) (hz : sz c ≤ 1048576) (A : Option Addr) (cc : Nat) (w : World) (hr : Kd.C k26 w A c.f3.length c.f3) (hc : c.f3.length ≤ cc) :
  Calls Try.prog 38 #[.agg #[.int .u8 c.f0, .int .i64 c.f1.f0, .int .i64 c.f1.f1, .int .i64 c.f1.f2, .int .i64 c.f1.f3, .int .i64 c.f2, .slice A c.f3.length cc]] w fun e w' => e = .returned (.bool (o6 c)) ∧ Below w.heap.size w w' := by
 have S := ae.mk (St.start (ts := [(.slice A c.f3.length cc, c.f3)]) (b0 := w.heap.size) (w := w) (P := fun k => k < w.heap.size) (fun t ht => by
  rw [List.mem_singleton.1 ht]; exact Kd.C9 hc (Kd.QV wX hr)))
 have HZ := ae.mk hz
 have HM := ae.mk (show o6 c = sV (jh c) (rZ c) from rfl)
 have HLZ := ae.mk (show (jh c).length ≤ 1048576 from hz)
 have HMZ := ae.mk (show (rZ c).length ≤ 1048576 from Nat.le_trans (List.length_filter_le _ _) hz)
 clear hr hc hz
 obtain ⟨ck, ⟨cx, cy, cw, ch⟩, aV, l⟩ := c
 simp only [] at S HZ HM HLZ HMZ
 have acQ := fun W b P A cc hV => @ajM W b P A cc ⟨ck, ⟨cx, cy, cw, ch⟩, aV, l⟩ HZ.out hV
 have acR := fun W b P A cc hV => @ac6 W b P A cc ⟨ck, ⟨cx, cy, cw, ch⟩, aV, l⟩ HZ.out hV
 rw [HM.out]
 generalize jh ⟨ck, ⟨cx, cy, cw, ch⟩, aV, l⟩ = L at HM HLZ acQ ⊢
 generalize rZ ⟨ck, ⟨cx, cy, cw, ch⟩, aV, l⟩ = M at HM HMZ acR ⊢
 have HA := ae.mk acQ
 have HLE := ae.mk acR
 clear HM acQ acR
 by_cases hl : 20000 < L.length
 case pos =>
  have hla : decide (20000 < (L.length : Int)) = true := decide_eq_true (by omega)
  have hlb : decide ((L.length : Int) > 20000) = true := decide_eq_true (by omega)
  have hlc : decide (20000 < L.length) = true := decide_eq_true (by omega)
  have HB := ae.mk (show sV L M = false by unfold sV; rw [decide_eq_false (by omega), Bool.false_and])
  clear hl
  go_enter Try.func38, Try.ntmps38
  go_wp2_with (first
   | ((with_reducible refine bV 1 rfl ?_); refine boxS 1 #[.int .u8 ck, .int .i64 cx, .int .i64 cy, .int .i64 cw, .int .i64 ch, .int .i64 aV, .slice A l.length cc] 26 S ?_; clear S; intro b1 oC S; obtain ⟨gW, jA, jB, jK, jL, kH, iI⟩ := St.nU S (.head _))
   | ((with_reducible refine bV 9 rfl ?_); refine AZ (some 9) Try.func79 S (HA.out _ _ _ _ _ (S.out.tree _ (.head _))) ?_; clear S; intro Aa ca qU S; clear gW jA jB jK jL kH iI)
   | fail)
  go_ret
  refine ⟨?_, S.out.below⟩
  rw [HB.out]
  rfl
 have hla : decide (20000 < (L.length : Int)) = false := decide_eq_false (by omega)
 have hlb : decide ((L.length : Int) > 20000) = false := decide_eq_false (by omega)
 have hlc : decide (20000 < L.length) = false := decide_eq_false (by omega)
 have HL := ae.mk hl
 clear hl
 go_enter Try.func38, Try.ntmps38
 go_wp2_with (first
  | ((with_reducible refine bV 1 rfl ?_); refine boxS 1 #[.int .u8 ck, .int .i64 cx, .int .i64 cy, .int .i64 cw, .int .i64 ch, .int .i64 aV, .slice A l.length cc] 26 S ?_; clear S; intro b1 xm S; obtain ⟨gW, jA, jB, jK, jL, kH, iI⟩ := St.nU S (.head _))
  | ((with_reducible refine bV 9 rfl ?_); refine AZ (some 9) Try.func79 S (HA.out _ _ _ _ _ (S.out.tree _ (.head _))) ?_; clear S; intro Aa ca wJ S; clear gW jA jB jK jL kH iI)
  | fail)
 clear hla hlb hlc
 go_loopg [15] L.length (fun gg v15 wr => ∃ (pre rest : List aI), v15 = .int .i64 (pre.length : Int) ∧ ae (pre ++ rest = L) ∧ rest.length ≤ gg ∧ ae (pre.all uQ = true) ∧ ae (St w (fun k => k < w.heap.size) [(some b1, .cells #[.int .u8 ck, .int .i64 cx, .int .i64 cy, .int .i64 cw, .int .i64 ch, .int .i64 aV, .slice A l.length cc] 26 (0, 0))] [] [(.slice Aa L.length ca, L), (.slice A l.length cc, l)] [] wr))
 case atStart => exact ⟨[], L, rfl, ⟨rfl⟩, Nat.le_refl _, ⟨rfl⟩, ⟨S.out⟩⟩
 case round =>
  clear S
  obtain ⟨pre, rest, rfl, HE, hgg, Z9, S⟩ := hrel
  cases rest with
  | cons k rest =>
   have hlt : (pre.length : Int) < (L.length : Int) := by rw [← HE.out, List.length_append, List.length_cons]; omega
   have hw1 : wrap64 ((pre.length : Int) + 1) = ((pre ++ [k]).length : Int) := by have := HLZ.out; rw [List.length_append, List.length_singleton]; unfold wrap64; omega
   have HW1 := ae.mk hw1
   have qO := ae.mk hgg
   obtain ⟨mf, ua, uc, ek, S1⟩ := S.out.elem (.head _) (pre.length : Int) (Int.natCast_nonneg _) hlt
   subst ek
   have hrd : au L (pre.length : Int) = k := by rw [← HE.out]; exact lS pre k rest
   rw [hrd] at S1
   simp only [Int.toNat_natCast] at S1
   replace S := ae.mk S1
   clear S1 hrd hgg hw1
   cases hmr : rQ k.f1 with
   | false =>
    have Eh := ae.mk hmr
    clear hmr
    have HB := ae.mk (show sV L M = false by rw [← HE.out]; exact wY (Bq (.inl Eh.out)))
    have qw := (S.out.cell _ (.tail _ (.head _))).1
    have qx := (S.out.cell _ (.tail _ (.tail _ (.head _)))).1
    have pR := (S.out.cell _ (.tail _ (.tail _ (.tail _ (.head _))))).1
    have pU := (S.out.cell _ (.tail _ (.tail _ (.tail _ (.tail _ (.head _)))))).1
    go_wp2_with (first
     | ((with_reducible refine bV 23 rfl ?_); refine jX (some 23) Try.func57 S (xW Eh.out) ?_; clear S; intro D9 S; clear qw qx pR pU)
     | fail)
    go_ret
    refine ⟨?_, S.out.below⟩
    rw [HB.out]
    rfl
   | true =>
    have Eh := ae.mk hmr
    clear hmr
    by_cases h1 : k.f0 < 1
    case pos =>
     have h1a : decide (k.f0 < 1) = true := decide_eq_true (by omega)
     have h1b : decide (1 > k.f0) = true := decide_eq_true (by omega)
     have HB := ae.mk (show sV L M = false by rw [← HE.out]; exact wY (Bq (.inr (.inl h1))))
     have qw := (S.out.cell _ (.tail _ (.head _))).1
     have qx := (S.out.cell _ (.tail _ (.tail _ (.head _)))).1
     have pR := (S.out.cell _ (.tail _ (.tail _ (.tail _ (.head _))))).1
     have pU := (S.out.cell _ (.tail _ (.tail _ (.tail _ (.tail _ (.head _)))))).1
     go_wp2_with (first
      | ((with_reducible refine bV 23 rfl ?_); refine jX (some 23) Try.func57 S (xW Eh.out) ?_; clear S; intro KY S; clear qw qx pR pU; have rG := (S.out.cell _ (.head _)).1)
      | fail)
     clear rG
     go_ret
     refine ⟨?_, S.out.below⟩
     rw [HB.out]
     rfl
    have h1a : decide (k.f0 < 1) = false := decide_eq_false (by omega)
    have h1b : decide (1 > k.f0) = false := decide_eq_false (by omega)
    by_cases h3 : 3 < k.f0
    case pos =>
     have h3a : decide (3 < k.f0) = true := decide_eq_true (by omega)
     have h3b : decide (k.f0 > 3) = true := decide_eq_true (by omega)
     have HB := ae.mk (show sV L M = false by rw [← HE.out]; exact wY (Bq (.inr (.inr (.inl h3)))))
     have qw := (S.out.cell _ (.tail _ (.head _))).1
     have qx := (S.out.cell _ (.tail _ (.tail _ (.head _)))).1
     have pR := (S.out.cell _ (.tail _ (.tail _ (.tail _ (.head _))))).1
     have pU := (S.out.cell _ (.tail _ (.tail _ (.tail _ (.tail _ (.head _)))))).1
     go_wp2_with (first
      | ((with_reducible refine bV 23 rfl ?_); refine jX (some 23) Try.func57 S (xW Eh.out) ?_; clear S; intro JH S; clear qw qx pR pU; have rG := (S.out.cell _ (.head _)).1)
      | fail)
     clear rG
     go_ret
     refine ⟨?_, S.out.below⟩
     rw [HB.out]
     rfl
    have h3a : decide (3 < k.f0) = false := decide_eq_false (by omega)
    have h3b : decide (k.f0 > 3) = false := decide_eq_false (by omega)
    by_cases h4 : k.f0 = 1
    case pos =>
     have IC : (k.f0 == 1) = true := beq_iff_eq.mpr h4
     have h4d : decide (k.f0 = 1) = true := decide_eq_true h4
     by_cases h5 : 0 < k.f3.length
     case pos =>
      have h5a : decide (0 < (k.f3.length : Int)) = true := decide_eq_true (by omega)
      have NL : decide ((k.f3.length : Int) > 0) = true := decide_eq_true (by omega)
      have h5c : decide (0 < k.f3.length) = true := decide_eq_true (by omega)
      have HB := ae.mk (show sV L M = false by rw [← HE.out]; exact wY (Bq (.inr (.inr (.inr (.inl ⟨h4, .inl h5⟩))))))
      have qw := (S.out.cell _ (.tail _ (.head _))).1
      have qx := (S.out.cell _ (.tail _ (.tail _ (.head _)))).1
      have pR := (S.out.cell _ (.tail _ (.tail _ (.tail _ (.head _))))).1
      have pU := (S.out.cell _ (.tail _ (.tail _ (.tail _ (.tail _ (.head _)))))).1
      go_wp2_with (first
       | ((with_reducible refine bV 23 rfl ?_); refine jX (some 23) Try.func57 S (xW Eh.out) ?_; clear S; intro Rk S; clear qw qx pR pU; have rG := (S.out.cell _ (.head _)).1; have uM := (S.out.cell _ (.tail _ (.tail _ (.tail _ (.tail _ (.tail _ (.tail _ (.head _)))))))).1)
       | fail)
      clear rG uM
      go_ret
      refine ⟨?_, S.out.below⟩
      rw [HB.out]
      rfl
     have h5a : decide (0 < (k.f3.length : Int)) = false := decide_eq_false (by omega)
     have NL : decide ((k.f3.length : Int) > 0) = false := decide_eq_false (by omega)
     have h5c : decide (0 < k.f3.length) = false := decide_eq_false (by omega)
     by_cases h6 : k.f2 < 0
     case pos =>
      have h6a : decide (k.f2 < 0) = true := decide_eq_true (by omega)
      have h6b : decide (0 > k.f2) = true := decide_eq_true (by omega)
      have HB := ae.mk (show sV L M = false by rw [← HE.out]; exact wY (Bq (.inr (.inr (.inr (.inl ⟨h4, .inr (.inl h6)⟩))))))
      have qw := (S.out.cell _ (.tail _ (.head _))).1
      have qx := (S.out.cell _ (.tail _ (.tail _ (.head _)))).1
      have pR := (S.out.cell _ (.tail _ (.tail _ (.tail _ (.head _))))).1
      have pU := (S.out.cell _ (.tail _ (.tail _ (.tail _ (.tail _ (.head _)))))).1
      go_wp2_with (first
       | ((with_reducible refine bV 23 rfl ?_); refine jX (some 23) Try.func57 S (xW Eh.out) ?_; clear S; intro Rl S; clear qw qx pR pU; have rG := (S.out.cell _ (.head _)).1; have uM := (S.out.cell _ (.tail _ (.tail _ (.tail _ (.tail _ (.tail _ (.tail _ (.head _)))))))).1; have uK := (S.out.cell _ (.tail _ (.tail _ (.tail _ (.tail _ (.tail _ (.head _))))))).1)
       | fail)
      clear rG uM uK
      go_ret
      refine ⟨?_, S.out.below⟩
      rw [HB.out]
      rfl
     have h6a : decide (k.f2 < 0) = false := decide_eq_false (by omega)
     have h6b : decide (0 > k.f2) = false := decide_eq_false (by omega)
     by_cases h7 : 2147483647 < k.f2
     case pos =>
      have h7a : decide (2147483647 < k.f2) = true := decide_eq_true (by omega)
      have h7b : decide (k.f2 > 2147483647) = true := decide_eq_true (by omega)
      have HB := ae.mk (show sV L M = false by rw [← HE.out]; exact wY (Bq (.inr (.inr (.inr (.inl ⟨h4, .inr (.inr h7)⟩))))))
      have qw := (S.out.cell _ (.tail _ (.head _))).1
      have qx := (S.out.cell _ (.tail _ (.tail _ (.head _)))).1
      have pR := (S.out.cell _ (.tail _ (.tail _ (.tail _ (.head _))))).1
      have pU := (S.out.cell _ (.tail _ (.tail _ (.tail _ (.tail _ (.head _)))))).1
      go_wp2_with (first
       | ((with_reducible refine bV 23 rfl ?_); refine jX (some 23) Try.func57 S (xW Eh.out) ?_; clear S; intro QC S; clear qw qx pR pU; have rG := (S.out.cell _ (.head _)).1; have uM := (S.out.cell _ (.tail _ (.tail _ (.tail _ (.tail _ (.tail _ (.tail _ (.head _)))))))).1; have uK := (S.out.cell _ (.tail _ (.tail _ (.tail _ (.tail _ (.tail _ (.head _))))))).1)
       | fail)
      clear rG uM uK
      go_ret
      refine ⟨?_, S.out.below⟩
      rw [HB.out]
      rfl
     have h7a : decide (2147483647 < k.f2) = false := decide_eq_false (by omega)
     have h7b : decide (k.f2 > 2147483647) = false := decide_eq_false (by omega)
     have h8a : decide (1 < k.f0) = false := decide_eq_false (by omega)
     have h8b : decide (k.f0 > 1) = false := decide_eq_false (by omega)
     have HG := ae.mk (Xw Eh.out (by omega) (by omega) (by omega))
     have qw := (S.out.cell _ (.tail _ (.head _))).1
     have qx := (S.out.cell _ (.tail _ (.tail _ (.head _)))).1
     have pR := (S.out.cell _ (.tail _ (.tail _ (.tail _ (.head _))))).1
     have pU := (S.out.cell _ (.tail _ (.tail _ (.tail _ (.tail _ (.head _)))))).1
     go_wp2_with (first
      | ((with_reducible refine bV 23 rfl ?_); refine jX (some 23) Try.func57 S (xW Eh.out) ?_; clear S; intro Me S; clear qw qx pR pU; have rG := (S.out.cell _ (.head _)).1; have uM := (S.out.cell _ (.tail _ (.tail _ (.tail _ (.tail _ (.tail _ (.tail _ (.head _)))))))).1; have uK := (S.out.cell _ (.tail _ (.tail _ (.tail _ (.tail _ (.tail _ (.head _))))))).1)
      | fail)
     clear rG uM uK
     have hw1 := HW1.out
     go_wp2
     go_roundg rest.length
     case measure => exact Nat.lt_of_lt_of_le (Nat.lt_succ_self _) qO.out
     case rel => exact ⟨pre ++ [k], rest, (by rw [hw1]), ⟨by rw [List.append_assoc]; exact HE.out⟩, Nat.le_refl _, ⟨by rw [List.all_append, Z9.out, List.all_cons, HG.out]; rfl⟩, ⟨S.out.dW.dK.dK.dK.dK.dK.dK.dK⟩⟩
    have IC : (k.f0 == 1) = false := beq_eq_false_iff_ne.mpr h4
    have h4d : decide (k.f0 = 1) = false := decide_eq_false h4
    have h8a : decide (1 < k.f0) = true := decide_eq_true (by omega)
    have h8b : decide (k.f0 > 1) = true := decide_eq_true (by omega)
    by_cases h5 : k.f3.length < 2
    case pos =>
     have h5a : decide ((k.f3.length : Int) < 2) = true := decide_eq_true (by omega)
     have NL : decide (2 > (k.f3.length : Int)) = true := decide_eq_true (by omega)
     have h5c : decide (k.f3.length < 2) = true := decide_eq_true (by omega)
     have HB := ae.mk (show sV L M = false by rw [← HE.out]; exact wY (Bq (.inr (.inr (.inr (.inr ⟨by omega, .inl h5⟩))))))
     have qw := (S.out.cell _ (.tail _ (.head _))).1
     have qx := (S.out.cell _ (.tail _ (.tail _ (.head _)))).1
     have pR := (S.out.cell _ (.tail _ (.tail _ (.tail _ (.head _))))).1
     have pU := (S.out.cell _ (.tail _ (.tail _ (.tail _ (.tail _ (.head _)))))).1
     go_wp2_with (first
      | ((with_reducible refine bV 23 rfl ?_); refine jX (some 23) Try.func57 S (xW Eh.out) ?_; clear S; intro Vj S; clear qw qx pR pU; have rG := (S.out.cell _ (.head _)).1; have uM := (S.out.cell _ (.tail _ (.tail _ (.tail _ (.tail _ (.tail _ (.tail _ (.head _)))))))).1)
      | fail)
     clear rG uM
     go_ret
     refine ⟨?_, S.out.below⟩
     rw [HB.out]
     rfl
    have h5a : decide ((k.f3.length : Int) < 2) = false := decide_eq_false (by omega)
    have NL : decide (2 > (k.f3.length : Int)) = false := decide_eq_false (by omega)
    have h5c : decide (k.f3.length < 2) = false := decide_eq_false (by omega)
    by_cases h6 : k.f2 = 0
    case neg =>
     have h6b : (k.f2 != 0) = true := bne_iff_ne.mpr h6
     have h6c : (k.f2 == 0) = false := beq_eq_false_iff_ne.mpr h6
     have h6d : decide (k.f2 = 0) = false := decide_eq_false h6
     have HB := ae.mk (show sV L M = false by rw [← HE.out]; exact wY (Bq (.inr (.inr (.inr (.inr ⟨by omega, .inr h6⟩))))))
     have qw := (S.out.cell _ (.tail _ (.head _))).1
     have qx := (S.out.cell _ (.tail _ (.tail _ (.head _)))).1
     have pR := (S.out.cell _ (.tail _ (.tail _ (.tail _ (.head _))))).1
     have pU := (S.out.cell _ (.tail _ (.tail _ (.tail _ (.tail _ (.head _)))))).1
     go_wp2_with (first
      | ((with_reducible refine bV 23 rfl ?_); refine jX (some 23) Try.func57 S (xW Eh.out) ?_; clear S; intro Vk S; clear qw qx pR pU; have rG := (S.out.cell _ (.head _)).1; have uM := (S.out.cell _ (.tail _ (.tail _ (.tail _ (.tail _ (.tail _ (.tail _ (.head _)))))))).1; have uK := (S.out.cell _ (.tail _ (.tail _ (.tail _ (.tail _ (.tail _ (.head _))))))).1)
      | fail)
     clear rG uM uK
     go_ret
     refine ⟨?_, S.out.below⟩
     rw [HB.out]
     rfl
    have h6b : (k.f2 != 0) = false := bne_eq_false_iff_eq.mpr h6
    have h6c : (k.f2 == 0) = true := beq_iff_eq.mpr h6
    have h6d : decide (k.f2 = 0) = true := decide_eq_true h6
    have HG := ae.mk (Xw Eh.out (by omega) (by omega) (by omega))
    have qw := (S.out.cell _ (.tail _ (.head _))).1
    have qx := (S.out.cell _ (.tail _ (.tail _ (.head _)))).1
    have pR := (S.out.cell _ (.tail _ (.tail _ (.tail _ (.head _))))).1
    have pU := (S.out.cell _ (.tail _ (.tail _ (.tail _ (.tail _ (.head _)))))).1
    go_wp2_with (first
     | ((with_reducible refine bV 23 rfl ?_); refine jX (some 23) Try.func57 S (xW Eh.out) ?_; clear S; intro ad6 S; clear qw qx pR pU; have rG := (S.out.cell _ (.head _)).1; have uM := (S.out.cell _ (.tail _ (.tail _ (.tail _ (.tail _ (.tail _ (.tail _ (.head _)))))))).1; have uK := (S.out.cell _ (.tail _ (.tail _ (.tail _ (.tail _ (.tail _ (.head _))))))).1)
     | fail)
    clear rG uM uK
    have hw1 := HW1.out
    go_wp2
    go_roundg rest.length
    case measure => exact Nat.lt_of_lt_of_le (Nat.lt_succ_self _) qO.out
    case rel => exact ⟨pre ++ [k], rest, (by rw [hw1]), ⟨by rw [List.append_assoc]; exact HE.out⟩, Nat.le_refl _, ⟨by rw [List.all_append, Z9.out, List.all_cons, HG.out]; rfl⟩, ⟨S.out.dW.dK.dK.dK.dK.dK.dK.dK⟩⟩
  | nil =>
   have hE := HE.out
   rw [List.append_nil] at hE
   subst hE
   clear HE hgg
   have hlt : ¬ ((pre.length : Int) < (pre.length : Int)) := by omega
   obtain ⟨gW, jA, jB, jK, jL, kH, iI⟩ := St.nU S (.head _)
   go_wp2_with (first
    | ((with_reducible refine bV 99 rfl ?_); refine AZ (some 99) Try.func126 S (HLE.out _ _ _ _ _ (S.out.tree _ (.tail _ (.head _)))) ?_; clear S; intro Al cl ZL S; clear gW jA jB jK jL kH iI)
    | fail)
   go_loopg [102] M.length (fun gg apB wr => ∃ (pm rest : List aI), apB = .int .i64 (pm.length : Int) ∧ ae (pm ++ rest = M) ∧ rest.length ≤ gg ∧ ae (jo pm = true) ∧ ae (St w (fun k => k < w.heap.size) [(some b1, .cells #[.int .u8 ck, .int .i64 cx, .int .i64 cy, .int .i64 cw, .int .i64 ch, .int .i64 aV, .slice A l.length cc] 26 (0, 0))] [] [(.slice Al M.length cl, M), (.slice Aa pre.length ca, pre), (.slice A l.length cc, l)] [] wr))
   case atStart => exact ⟨[], M, rfl, ⟨rfl⟩, Nat.le_refl _, ⟨rfl⟩, ⟨S.out⟩⟩
   case round =>
    clear S
    rename World => wz
    obtain ⟨pm, rest, rfl, HE, hgg, HD, S⟩ := hrel
    cases rest with
    | nil =>
     have hE := HE.out
     rw [List.append_nil] at hE
     subst hE
     have hlt : ¬ ((pm.length : Int) < (pm.length : Int)) := by omega
     have HB := ae.mk (show sV pre pm = true by unfold sV; rw [Z9.out, HD.out, decide_eq_true (by have := HL.out; omega)]; rfl)
     go_wp2
     go_ret
     refine ⟨?_, S.out.below⟩
     rw [HB.out]
     rfl
    | cons k rest =>
     have hlt : (pm.length : Int) < (M.length : Int) := by rw [← HE.out, List.length_append, List.length_cons]; omega
     have hw1 : wrap64 ((pm.length : Int) + 1) = ((pm ++ [k]).length : Int) := by have := HMZ.out; rw [List.length_append, List.length_singleton]; unfold wrap64; omega
     have HW1 := ae.mk hw1
     have qO := ae.mk hgg
     have HPM := ae.mk (show pm.length ≤ 1048576 by have := HMZ.out; omega)
     have HLT := ae.mk hlt
     obtain ⟨mf, ua, uc, ek, S1⟩ := S.out.elem (.head _) (pm.length : Int) (Int.natCast_nonneg _) hlt
     subst ek
     have hrd : au M (pm.length : Int) = k := by rw [← HE.out]; exact lS pm k rest
     rw [hrd] at S1
     simp only [Int.toNat_natCast] at S1
     replace S := ae.mk S1
     clear S1 hrd hgg hw1
     go_wp2
     have HK0 := ae.mk (show rY [] k = true from rfl)
     go_loopg [7] pm.length (fun gg v7 wr => ∃ (pa pb : List aI), v7 = .int .i64 (pa.length : Int) ∧ ae (pa ++ pb = pm) ∧ pb.length ≤ gg ∧ ae (rY pa k = true) ∧ ae (St w (fun k => k < w.heap.size) [(some b1, .cells #[.int .u8 ck, .int .i64 cx, .int .i64 cy, .int .i64 cw, .int .i64 ch, .int .i64 aV, .slice A l.length cc] 26 (0, 0))] [] [(.slice ua k.f3.length uc, k.f3), (.slice (some mf) M.length cl, M), (.slice Aa pre.length ca, pre), (.slice A l.length cc, l)] [((mf.add (pm.length * 7)), .int .u8 k.f0), (⟨(mf.add (pm.length * 7)).block, (mf.add (pm.length * 7)).off + 1, none⟩, .int .i64 k.f1.f0), (⟨(mf.add (pm.length * 7)).block, (mf.add (pm.length * 7)).off + 2, none⟩, .int .i64 k.f1.f1), (⟨(mf.add (pm.length * 7)).block, (mf.add (pm.length * 7)).off + 3, none⟩, .int .i64 k.f1.f2), (⟨(mf.add (pm.length * 7)).block, (mf.add (pm.length * 7)).off + 4, none⟩, .int .i64 k.f1.f3), (⟨(mf.add (pm.length * 7)).block, (mf.add (pm.length * 7)).off + 5, none⟩, .int .i64 k.f2), (⟨(mf.add (pm.length * 7)).block, (mf.add (pm.length * 7)).off + 6, none⟩, .slice ua k.f3.length uc)] wr))
     case atStart => exact ⟨[], pm, rfl, ⟨rfl⟩, Nat.le_refl _, ⟨rfl⟩, ⟨S.out⟩⟩
     case round =>
      clear S
      rename World => wy
      obtain ⟨pa, pb, rfl, HE2, hgg, HAP, S⟩ := hrel
      cases pb with
      | nil =>
       have hE := HE2.out
       rw [List.append_nil] at hE
       subst hE
       have hlt : ¬ ((pa.length : Int) < (pa.length : Int)) := by omega
       go_wp2
       have hw1 := HW1.out
       go_wp2
       go_roundg rest.length
       case measure => exact Nat.lt_of_lt_of_le (Nat.lt_succ_self _) qO.out
       case rel => exact ⟨pa ++ [k], rest, (by rw [hw1]), ⟨by rw [List.append_assoc]; exact HE.out⟩, Nat.le_refl _, ⟨by rw [vM, HD.out, HAP.out]; rfl⟩, ⟨S.out.dW.dK.dK.dK.dK.dK.dK.dK⟩⟩
      | cons q pb =>
       have hlt : (pa.length : Int) < (pm.length : Int) := by rw [← HE2.out, List.length_append, List.length_cons]; omega
       have hlt0 := HLT.out
       have hlt2 : (pa.length : Int) < (M.length : Int) := by omega
       have hw1 : wrap64 ((pa.length : Int) + 1) = ((pa ++ [q]).length : Int) := by have := HPM.out; rw [List.length_append, List.length_singleton]; unfold wrap64; omega
       have HW2 := ae.mk hw1
       have aoG := ae.mk hgg
       obtain ⟨adq, va, vc, eq_, S1⟩ := S.out.elem (.tail _ (.head _)) (pa.length : Int) (Int.natCast_nonneg _) hlt2
       injection eq_ with eq_
       subst eq_
       have hrd : au M (pa.length : Int) = q := by rw [← HE.out, ← HE2.out, List.append_assoc]; exact lS pa q (pb ++ k :: rest)
       rw [hrd] at S1
       simp only [Int.toNat_natCast] at S1
       replace S := ae.mk S1
       clear S1 hrd hgg hw1
       by_cases hq : k.f2 = q.f2
       case pos =>
        have hqb : (k.f2 == q.f2) = true := beq_iff_eq.mpr hq
        have hqd : decide (k.f2 = q.f2) = true := decide_eq_true hq
        have HQ := ae.mk hq
        clear hq
        have Vu := (S.out.cell _ (.tail _ (.tail _ (.tail _ (.tail _ (.tail _ (.tail _ (.tail _ (.tail _ (.tail _ (.tail _ (.tail _ (.tail _ (.head _)))))))))))))).1
        have uK := (S.out.cell _ (.tail _ (.tail _ (.tail _ (.tail _ (.tail _ (.head _))))))).1
        go_wp2
        go_quiet (fail)
        clear Vu uK
        replace S := ae.mk (S.out.call (fV (Below.refl _ _) nq))
        generalize wr.drewN nq = axd at S ⊢
        go_wp2
        have HB := ae.mk (show sV pre M = false by unfold sV; rw [← HE.out, Vw (by rw [← HE2.out]; unfold rY; rw [List.all_append, List.all_cons, decide_eq_false (by have := HQ.out; simpa using this), Bool.false_and, Bool.and_false]), Bool.and_false, Bool.and_false])
        go_ret
        refine ⟨?_, S.out.below⟩
        rw [HB.out]
        rfl
       case neg =>
        have hqb : (k.f2 == q.f2) = false := beq_eq_false_iff_ne.mpr hq
        have hqd : decide (k.f2 = q.f2) = false := decide_eq_false hq
        have HQ := ae.mk hq
        clear hq
        have Vu := (S.out.cell _ (.tail _ (.tail _ (.tail _ (.tail _ (.tail _ (.tail _ (.tail _ (.tail _ (.tail _ (.tail _ (.tail _ (.tail _ (.head _)))))))))))))).1
        have uK := (S.out.cell _ (.tail _ (.tail _ (.tail _ (.tail _ (.tail _ (.head _))))))).1
        go_wp2
        go_quiet (fail)
        clear Vu uK
        replace S := ae.mk (S.out.call (fV (Below.refl _ _) nq))
        generalize wr.drewN nq = axe at S ⊢
        go_wp2
        have hw1 := HW2.out
        go_wp2
        go_roundg pb.length
        case measure => exact Nat.lt_of_lt_of_le (Nat.lt_succ_self _) aoG.out
        case rel => exact ⟨pa ++ [q], pb, (by rw [hw1]), ⟨by rw [List.append_assoc]; exact HE2.out⟩, Nat.le_refl _, ⟨by unfold rY; rw [List.all_append, List.all_cons, decide_eq_true HQ.out]; rw [show (pa.all fun y => decide (k.f2 ≠ y.f2)) = true from HAP.out]; rfl⟩, ⟨S.out.dW.dK.dK.dK.dK.dK.dK.dK⟩⟩
def lJ.f (_ : Nat) (a0 a1 a2 a3 a4 a5 : Int) (l : List aI) : Option Bool := if sz ⟨a0, ⟨a1, a2, a3, a4⟩, a5, l⟩ ≤ 1048576 then some (o6 ⟨a0, ⟨a1, a2, a3, a4⟩, a5, l⟩) else none
theorem lJ.calls (k : Nat) (az : Int) (aC : Int) (aA : Int) (aG : Int) (aT : Int) (aU : Int) (bT : Option Addr) (bJ : Nat) (aj : List (aI)) (r : Bool) (w : World) (kJ : Kd.C k26 w bT aj.length aj) (lq : aj.length ≤ bJ) (h : lJ.f k az aC aA aG aT aU aj = some r) :
  Calls Try.prog 38 #[.agg #[.int .u8 az, .int .i64 aC, .int .i64 aA, .int .i64 aG, .int .i64 aT, .int .i64 aU, .slice bT aj.length bJ]] w fun e w' => e = .returned (.bool r) ∧ Below w.heap.size w w' := by
 unfold lJ.f at h
 split at h
 ·rename_i hz
  injection h with h
  subst h
  exact anJ ⟨az, ⟨aC, aA, aG, aT⟩, aU, aj⟩ hz bT bJ w kJ lq
 ·cases h
theorem abe (c : aI) (h : sz c ≤ 1048576) : Ev (fun k => lJ.f k c.f0 c.f1.f0 c.f1.f1 c.f1.f2 c.f1.f3 c.f2 c.f3) (o6 c) := by
 refine Ev.congr (f := fun _ => some (o6 c)) (fun k => ?_) (Ev.now _)
 unfold lJ.f
 rw [NI, if_pos h]
end Go.Proofs.Ytfdmfgaiblfbhaa.P
namespace Go.Proofs.Ytfdmfgaiblfbhaa.P
open Go.RowKit Go.Proofs.ai.bg Go.Proofs.ai.di Go.Proofs.ai.dG
attribute [local go_sem] kD kF lN lQ jF jG kE kG
def fC.l0 : Nat → List Int → Int → Int → Int → Int → Int → Int → Int → Int → List (aI) → Option (List Int)
 | 0, _, _, _, _, _, _, _, _, _, _ => none
 | k + 1, x3, x8, x9, QS, XI, XJ, XK, XL, XM, CU => if x9 < x8 then (if QS = 2 then (if 0 ≤ x9 then (if x9 < (CU.length : Int) then (if x3.length < 17592186044416 then (fC.l0 k (x3 ++ [(au CU x9).f1.f2]) x8 (wrap64 (x9 + 1)) QS XI XJ XK XL XM CU) else (none)) else (none)) else (none)) else (if 0 ≤ x9 then (if x9 < (CU.length : Int) then (if x3.length < 17592186044416 then (fC.l0 k (x3 ++ [(au CU x9).f1.f3]) x8 (wrap64 (x9 + 1)) QS XI XJ XK XL XM CU) else (none)) else (none)) else (none))) else (some x3)
def fC.f (k : Nat) (az : Int) (aC : Int) (aA : Int) (aG : Int) (aT : Int) (aU : Int) (aj : List (aI)) : Option (List Int) := fC.l0 k (([] : List Int)) (aj.length : Int) 0 az aC aA aG aT aU aj
theorem fC.calls (k : Nat) (az : Int) (aC : Int) (aA : Int) (aG : Int) (aT : Int) (aU : Int) (bT : Option Addr) (bJ : Nat) (aj : List (aI)) (r : List Int) (w : World) (kJ : Kd.C k26 w bT aj.length aj) (lq : aj.length ≤ bJ) (h : fC.f k az aC aA aG aT aU aj = some r) :
  Calls Try.prog 194 #[.agg #[.int .u8 az, .int .i64 aC, .int .i64 aA, .int .i64 aG, .int .i64 aT, .int .i64 aU, .slice bT aj.length bJ]] w fun e w' => ∃ ng : Value, e = .returned (ng) ∧ Kd.R (Kd.int .i64) 3 w' w.heap.size (fun _ => True) ng r ∧ Below w.heap.size w w' := by
 have Ae := Try.underlying26
 have lF := ae.mk kJ
 clear kJ lq
 have HB := ae.mk (Below.refl w.heap.size w)
 have H : (fC.l0 k (([] : List Int)) (aj.length : Int) 0 az aC aA aG aT aU aj) = some r := h
 clear h
 obtain ⟨alL, Zd⟩ : ∃ y_ : List Int, y_ = (([] : List Int)) := ⟨_, rfl⟩
 replace H : (fC.l0 k alL (aj.length : Int) 0 az aC aA aG aT aU aj) = some r := by (rw [Zd]; with_reducible exact H)
 have amM := ae.mk Zd
 clear Zd
 have H' := ae.mk H
 clear H
 go_enter Try.func194, Try.ntmps194
 go_wp2_with (first | ((with_reducible refine aQ (N := 1) rfl ?_); refine aX ?hg (N := 1) ?hd (cs := #[.int .u8 az, .int .i64 aC, .int .i64 aA, .int .i64 aG, .int .i64 aT, .int .i64 aU, .slice bT aj.length bJ]) (t := 26) ?hr ?_; (case hd => rfl); (case hg => rfl); (case hr => (go_simp; done)); intro pI hg w2 hbox hb; have iG := ae.mk (hbox); replace HB := ae.mk (aH (by repeat ((with_reducible exact HB.out))) hb); clear hb hbox hg) | ((with_reducible refine aQ (N := 5) rfl ?_); refine Kd.o8 (Kd.int .i64) _ 3 ?hg (N := 5) ?hd (xs := ([] : List Int)) (inner := []) (ok := fun _ => True) (iO := fun _ => True) ?hr ?hp (fun _ hk => hk) trivial (Below.refl _ _) (Nat.le_refl _) (by simp) ?_; (case hd => rfl); (case hg => rfl); (case hr => (go_simp; done)); (case hp => exact (dB.none _ _)); intro awW w3 ho4 hb kW gK; clear kW gK; (rw [← amM.out] at ho4); have al_ := ae.mk (Kd.iQ ho4 (aY (by repeat ((with_reducible exact HB.out))))); replace iG := ae.mk (aK iG.out hb); replace HB := ae.mk (aH (by repeat ((with_reducible exact HB.out))) hb); clear hb ho4; have IM : w3.cell? ⟨pI, 0, none⟩ = some (.int .u8 az) := (af iG.out 0).trans rfl; have IP : w3.cell? ⟨pI, 1, none⟩ = some (.int .i64 aC) := (af iG.out 1).trans rfl; have IQ : w3.cell? ⟨pI, 2, none⟩ = some (.int .i64 aA) := (af iG.out 2).trans rfl; have IU : w3.cell? ⟨pI, 3, none⟩ = some (.int .i64 aG) := (af iG.out 3).trans rfl; have Ue : w3.cell? ⟨pI, 4, none⟩ = some (.int .i64 aT) := (af iG.out 4).trans rfl; have Uf : w3.cell? ⟨pI, 5, none⟩ = some (.int .i64 aU) := (af iG.out 5).trans rfl; have Ug : w3.cell? ⟨pI, 6, none⟩ = some (.slice bT aj.length bJ) := (af iG.out 6).trans rfl; have Ja := ag iG.out 0; have Jb := ag iG.out 1; have Jc := ag iG.out 2; have Jd := ag iG.out 3; have Uw := ag iG.out 4; have Ux := ag iG.out 5; have Uy := ag iG.out 6))
 go_loopg [3, 9] k (fun kq v3 v9 w' => ∃ (qp : List Int) (o7 : Int), v9 = .int .i64 o7 ∧ ae (fC.l0 kq qp (aj.length : Int) o7 az aC aA aG aT aU aj = some r) ∧ ae (kq ≤ k) ∧ ae (Kd.R (Kd.int .i64) 3 w' w.heap.size (fun _ => True) v3 qp) ∧ ae (w'.heap[pI]? = some (.cells #[.int .u8 az, .int .i64 aC, .int .i64 aA, .int .i64 aG, .int .i64 aT, .int .i64 aU, (.slice bT aj.length bJ)] 26 (0, 0))) ∧ ae (Below w.heap.size w w'))
 case atStart => exact ⟨(alL), (0), (by rfl), H', ⟨Nat.le_refl _⟩, ⟨by exact al_.out⟩, ⟨by exact iG.out⟩, ⟨by repeat ((with_reducible exact HB.out))⟩⟩
 case round =>
  clear H'
  clear IM IP IQ IU Ue Uf Ug Ja Jb Jc Jd Uw Ux Uy
  obtain ⟨qp, o7, rfl, HA, jI, tK, iG, HB⟩ := hrel
  cases gk with
  | zero => exact absurd HA.out (by simp [fC.l0])
  | succ k1 =>
   have H := HA.out
   clear HA
   simp only [fC.l0] at H
   by_cases c6 : o7 < (aj.length : Int)
   ·rw [if_pos c6] at H
    have wS : decide (o7 < (aj.length : Int)) = true := decide_eq_true c6
    clear c6
    by_cases c7 : az = 2
    ·rw [if_pos c7] at H
     have t_ : (az == 2) = true := beq_iff_eq.mpr c7
     have Iz : (az != 2) = false := bne_eq_false_iff_eq.mpr c7
     clear c7
     by_cases c8 : 0 ≤ o7
     ·rw [if_pos c8] at H
      have vZ : decide (0 ≤ o7) = true := decide_eq_true c8
      clear c8
      by_cases c9 : o7 < (aj.length : Int)
      ·rw [if_pos c9] at H
       have IA : decide (o7 < (aj.length : Int)) = true := decide_eq_true c9
       clear c9
       by_cases c10 : qp.length < 17592186044416
       ·rw [if_pos c10] at H
        have amg := ae.mk c10
        clear c10
        obtain ⟨alM, Ze⟩ : ∃ y_ : List Int, y_ = (qp ++ [(au aj o7).f1.f2]) := ⟨_, rfl⟩
        replace H : (fC.l0 k1 alM (aj.length : Int) (wrap64 (o7 + 1)) az aC aA aG aT aU aj) = some r := by (rw [Ze]; with_reducible exact H)
        have amN := ae.mk Ze
        clear Ze
        have H' := ae.mk H
        clear H
        have yJ : wr.cell? ⟨pI, 0, none⟩ = some (.int .u8 az) := (af iG.out 0).trans rfl
        have yK : wr.cell? ⟨pI, 1, none⟩ = some (.int .i64 aC) := (af iG.out 1).trans rfl
        have yL : wr.cell? ⟨pI, 2, none⟩ = some (.int .i64 aA) := (af iG.out 2).trans rfl
        have yM : wr.cell? ⟨pI, 3, none⟩ = some (.int .i64 aG) := (af iG.out 3).trans rfl
        have FM : wr.cell? ⟨pI, 4, none⟩ = some (.int .i64 aT) := (af iG.out 4).trans rfl
        have FN : wr.cell? ⟨pI, 5, none⟩ = some (.int .i64 aU) := (af iG.out 5).trans rfl
        have FO : wr.cell? ⟨pI, 6, none⟩ = some (.slice bT aj.length bJ) := (af iG.out 6).trans rfl
        have yO := ag iG.out 0
        have yP := ag iG.out 1
        have yQ := ag iG.out 2
        have yR := ag iG.out 3
        have FV := ag iG.out 4
        have FW := ag iG.out 5
        have FX := ag iG.out 6
        have adt : 0 ≤ (o7 : Int) := of_decide_eq_true (by (with_reducible assumption))
        have adF : o7 < (aj.length : Int) := of_decide_eq_true (by (with_reducible assumption))
        obtain ⟨auP, asK, att, aoZ, PZ, P5, P6, P7, P8, P9, P_, ahG, ahC⟩ := nV lF.out o7 adt adF
        cases aoZ
        replace PZ := (HB.out.cell (World.block_lt_of_cell? w _ PZ)).trans PZ
        replace P5 := (HB.out.cell (World.block_lt_of_cell? w _ P5)).trans P5
        replace P6 := (HB.out.cell (World.block_lt_of_cell? w _ P6)).trans P6
        replace P7 := (HB.out.cell (World.block_lt_of_cell? w _ P7)).trans P7
        replace P8 := (HB.out.cell (World.block_lt_of_cell? w _ P8)).trans P8
        replace P9 := (HB.out.cell (World.block_lt_of_cell? w _ P9)).trans P9
        replace P_ := (HB.out.cell (World.block_lt_of_cell? w _ P_)).trans P_
        clear ahC ahG
        replace adt := eq_true adt
        replace adF := eq_true adF
        go_wp2_with (((with_reducible refine ji (b := .append) (xs := #[.tmp 15, .tmp 23]) rfl ?_); at_builtin; refine Kd.oG (Kd.int .i64) (w0 := w) w.heap.size rfl (.tmp 15) (.tmp 23) 41 3 (.int .i64 0) 8 rfl Try.underlying41 info3 rfl (by decide) (by omega) u3 qp ((au aj o7).f1.f2) [.int .i64 ((au aj o7).f1.f2)] (fun _ => True) (fun _ => False) rfl rfl ?aP (fun _ hk => hk.elim) ?aF ?aO ?aB ?aS ?aL ?_; (case aP => exact rfl); (case aB => exact (by repeat ((with_reducible exact HB.out)))); (case aF => exact (fun _ _ => trivial)); (case aO => exact tK.out); (case aS => exact (aY (by repeat ((with_reducible exact HB.out))))); (case aL => have := amg.out; omega); intro awX w12 ho hb hg hat; rw [← amN.out] at ho; have ama := ae.mk (ho); replace iG := ae.mk (bZ iG.out hg (Kd.zq tK.out iG.out (by decide))); replace HB := ae.mk (hb); clear tK; clear ho hb hg hat))
        go_roundg k1
        case measure => have := jI.out; omega
        case rel => exact ⟨(alM), (wrap64 (o7 + 1)), (by rfl), H', ⟨by have := jI.out; omega⟩, ⟨by exact ama.out⟩, ⟨by exact iG.out⟩, ⟨by repeat ((with_reducible exact HB.out))⟩⟩
       ·rw [if_neg c10] at H
        exact absurd H (by simp)
      ·rw [if_neg c9] at H
       exact absurd H (by simp)
     ·rw [if_neg c8] at H
      exact absurd H (by simp)
    ·rw [if_neg c7] at H
     have t_ : (az == 2) = false := beq_eq_false_iff_ne.mpr c7
     have Iz : (az != 2) = true := bne_iff_ne.mpr c7
     by_cases c13 : 0 ≤ o7
     ·rw [if_pos c13] at H
      have RS : decide (0 ≤ o7) = true := decide_eq_true c13
      clear c13
      by_cases c14 : o7 < (aj.length : Int)
      ·rw [if_pos c14] at H
       have RU : decide (o7 < (aj.length : Int)) = true := decide_eq_true c14
       clear c14
       by_cases c15 : qp.length < 17592186044416
       ·rw [if_pos c15] at H
        have Yf := ae.mk c15
        clear c15
        obtain ⟨alN, Zf⟩ : ∃ y_ : List Int, y_ = (qp ++ [(au aj o7).f1.f3]) := ⟨_, rfl⟩
        replace H : (fC.l0 k1 alN (aj.length : Int) (wrap64 (o7 + 1)) az aC aA aG aT aU aj) = some r := by (rw [Zf]; with_reducible exact H)
        have amO := ae.mk Zf
        clear Zf
        have H' := ae.mk H
        clear H
        have FP : wr.cell? ⟨pI, 0, none⟩ = some (.int .u8 az) := (af iG.out 0).trans rfl
        have FQ : wr.cell? ⟨pI, 1, none⟩ = some (.int .i64 aC) := (af iG.out 1).trans rfl
        have FT : wr.cell? ⟨pI, 2, none⟩ = some (.int .i64 aA) := (af iG.out 2).trans rfl
        have FU : wr.cell? ⟨pI, 3, none⟩ = some (.int .i64 aG) := (af iG.out 3).trans rfl
        have Wn : wr.cell? ⟨pI, 4, none⟩ = some (.int .i64 aT) := (af iG.out 4).trans rfl
        have Wp : wr.cell? ⟨pI, 5, none⟩ = some (.int .i64 aU) := (af iG.out 5).trans rfl
        have Wq : wr.cell? ⟨pI, 6, none⟩ = some (.slice bT aj.length bJ) := (af iG.out 6).trans rfl
        have FY := ag iG.out 0
        have FZ := ag iG.out 1
        have F5 := ag iG.out 2
        have F6 := ag iG.out 3
        have WV := ag iG.out 4
        have WW := ag iG.out 5
        have WX := ag iG.out 6
        have adu : 0 ≤ (o7 : Int) := of_decide_eq_true (by (with_reducible assumption))
        have adG : o7 < (aj.length : Int) := of_decide_eq_true (by (with_reducible assumption))
        obtain ⟨auQ, asL, atu, ao0, Qa, Qb, Qc, Qd, Qe, Qg, Qh, ahH, ahD⟩ := nV lF.out o7 adu adG
        cases ao0
        replace Qa := (HB.out.cell (World.block_lt_of_cell? w _ Qa)).trans Qa
        replace Qb := (HB.out.cell (World.block_lt_of_cell? w _ Qb)).trans Qb
        replace Qc := (HB.out.cell (World.block_lt_of_cell? w _ Qc)).trans Qc
        replace Qd := (HB.out.cell (World.block_lt_of_cell? w _ Qd)).trans Qd
        replace Qe := (HB.out.cell (World.block_lt_of_cell? w _ Qe)).trans Qe
        replace Qg := (HB.out.cell (World.block_lt_of_cell? w _ Qg)).trans Qg
        replace Qh := (HB.out.cell (World.block_lt_of_cell? w _ Qh)).trans Qh
        clear ahD ahH
        replace adu := eq_true adu
        replace adG := eq_true adG
        go_wp2_with (((with_reducible refine ji (b := .append) (xs := #[.tmp 25, .tmp 33]) rfl ?_); at_builtin; refine Kd.oG (Kd.int .i64) (w0 := w) w.heap.size rfl (.tmp 25) (.tmp 33) 41 3 (.int .i64 0) 8 rfl Try.underlying41 info3 rfl (by decide) (by omega) u3 qp ((au aj o7).f1.f3) [.int .i64 ((au aj o7).f1.f3)] (fun _ => True) (fun _ => False) rfl rfl ?aP (fun _ hk => hk.elim) ?aF ?aO ?aB ?aS ?aL ?_; (case aP => exact rfl); (case aB => exact (by repeat ((with_reducible exact HB.out)))); (case aF => exact (fun _ _ => trivial)); (case aO => exact tK.out); (case aS => exact (aY (by repeat ((with_reducible exact HB.out))))); (case aL => have := Yf.out; omega); intro awY Rj ho hb hg hat; rw [← amO.out] at ho; have amb := ae.mk (ho); replace iG := ae.mk (bZ iG.out hg (Kd.zq tK.out iG.out (by decide))); replace HB := ae.mk (hb); clear tK; clear ho hb hg hat))
        go_roundg k1
        case measure => have := jI.out; omega
        case rel => exact ⟨(alN), (wrap64 (o7 + 1)), (by rfl), H', ⟨by have := jI.out; omega⟩, ⟨by exact amb.out⟩, ⟨by exact iG.out⟩, ⟨by repeat ((with_reducible exact HB.out))⟩⟩
       ·rw [if_neg c15] at H
        exact absurd H (by simp)
      ·rw [if_neg c14] at H
       exact absurd H (by simp)
     ·rw [if_neg c13] at H
      exact absurd H (by simp)
   ·rw [if_neg c6] at H
    have wS : decide (o7 < (aj.length : Int)) = false := decide_eq_false c6
    clear c6
    obtain rfl := Option.some.inj H
    go_wp2
    go_ret
    exact ⟨_, by rfl, by exact tK.out, by repeat ((with_reducible exact HB.out))⟩
end Go.Proofs.Ytfdmfgaiblfbhaa.P
namespace Go.Proofs.Ytfdmfgaiblfbhaa.P
open Go.RowKit Go.Proofs.ai.bg Go.Proofs.ai.di Go.Proofs.ai.dG
attribute [local go_sem] kD kF lN lQ jF jG kE kG
attribute [local go_sem high] Sj
def bP.l0 : Nat → List (bC) → List (bC) → Int → Int → Int → Int → Int → Int → Int → Int → List (aI) → Option ((List (bC)) × Bool)
 | 0, _, _, _, _, _, _, _, _, _, _, _ => none
 | k + 1, x4, x5, x28, x29, aiK, aiL, aiM, aiN, aiO, aiP, CV => if x29 < x28 then (if 0 ≤ x29 then (if x29 < (x4.length : Int) then (if x29 < (CV.length : Int) then (if (!(((fQ x4 x29).f0) == ((au CV x29).f1.f0)) || (!(((fQ x4 x29).f1) == ((au CV x29).f1.f1)) || (!(((fQ x4 x29).f2) == ((au CV x29).f1.f2)) || (!(((fQ x4 x29).f3) == ((au CV x29).f1.f3)))))) = true then (some ((([] : List (bC))), false)) else (bP.l0 k x4 x5 x28 (wrap64 (x29 + 1)) aiK aiL aiM aiN aiO aiP CV)) else (none)) else (none)) else (none)) else (some (x5, true))
def bP.f (k : Nat) (az : Int) (aC : Int) (aA : Int) (aG : Int) (aT : Int) (aU : Int) (aj : List (aI)) : Option ((List (bC)) × Bool) := if az = 1 then (some ((([] : List (bC))), true)) else ((fC.f k az aC aA aG aT aU aj).bind fun yD => ((aJ.f k aC aA aG aT ((az - 1) % 256) yD).bind fun sQ => (if sQ.2.2 = true then (bP.l0 k sQ.1 sQ.2.1 (sQ.1.length : Int) 0 az aC aA aG aT aU aj) else (some (sQ.2.1, false)))))
def bP.T3 : Bool × List (List Nat × List Nat) := (true, [([], []), ([0], [0]), ([], []), ([2], [2]), ([3], [3]), ([], []), ([5], [5]), ([1, 4, 6, 6], [1, 4, 6]), ([7], [7]), ([8], [8]), ([8], [8]), ([8], [8]), ([9, 7, 0, 1, 2, 3, 4, 5, 6, 7, 8, 9], [9]), ([10, 12, 0, 1, 2, 3, 4, 5, 6, 7, 8, 9, 10, 12], [10]), ([11, 13, 0, 1, 2, 3, 4, 5, 6, 7, 8, 9, 10, 11, 12, 13], [11])])
def bP.B3 : List Nat := [0, 1, 0, 4, 12, 0, 32, 127, 255, 511, 511, 511, 1023, 6143, 16383]
theorem bP.JC : lC .any (opsOf Try.f178 3) = bP.T3 := by kernel_rfl
theorem bP.Eu : lu bP.T3.2 bP.B3 = true := by kernel_rfl
def bP.T9 : Bool × List (List Nat × List Nat) := (true, [([], []), ([], []), ([0, 1], [0, 1]), ([2], [2]), ([], []), ([4], [4]), ([], []), ([5, 6], [5, 6]), ([7], [7]), ([8], [8]), ([3, 9], [3, 9])])
def bP.B9 : List Nat := [0, 0, 3, 7, 0, 16, 0, 112, 240, 496, 1023]
theorem bP.ZI : lC .any (opsOf Try.f178 9) = bP.T9 := by kernel_rfl
theorem bP.RN : lu bP.T9.2 bP.B9 = true := by kernel_rfl
theorem bP.calls (k : Nat) (az : Int) (aC : Int) (aA : Int) (aG : Int) (aT : Int) (aU : Int) (bT : Option Addr) (bJ : Nat) (aj : List (aI)) (r1 : List (bC)) (r2 : Bool) (w : World) (kJ : Kd.C k26 w bT aj.length aj) (lq : aj.length ≤ bJ) (h : bP.f k az aC aA aG aT aU aj = some (r1, r2)) :
  Calls Try.prog 178 #[.agg #[.int .u8 az, .int .i64 aC, .int .i64 aA, .int .i64 aG, .int .i64 aT, .int .i64 aU, .slice bT aj.length bJ]] w fun e w' => ∃ ng : Value, e = .returned (.tuple #[ng, .bool r2]) ∧ Kd.V k23 23 w' w.heap.size (fun k_ => (w.heap.size ≤ k_)) ng r1 ∧ Below w.heap.size w w' := by
 have Ae := Try.underlying26
 have EX := Try.underlying23
 have lF := ae.mk kJ
 have rM := ae.mk lq
 clear kJ lq
 have HB := ae.mk (Below.refl w.heap.size w)
 have H : (if az = 1 then (some ((([] : List (bC))), true)) else ((fC.f k az aC aA aG aT aU aj).bind fun yD => ((aJ.f k aC aA aG aT ((az - 1) % 256) yD).bind fun sQ => (if sQ.2.2 = true then (bP.l0 k sQ.1 sQ.2.1 (sQ.1.length : Int) 0 az aC aA aG aT aU aj) else (some (sQ.2.1, false)))))) = some (r1, r2) := h
 clear h
 by_cases c2 : az = 1
 ·rw [if_pos c2] at H
  have Iy : (az == 1) = true := beq_iff_eq.mpr c2
  have Yw : (az != 1) = false := bne_eq_false_iff_eq.mpr c2
  clear c2
  obtain ⟨apO, Zg⟩ : ∃ y_ : List (bC), y_ = (([] : List (bC))) := ⟨_, rfl⟩
  replace H : (some (apO, true)) = some (r1, r2) := by (rw [Zg]; with_reducible exact H)
  have amP := ae.mk Zg
  clear Zg
  simp only [Option.some.injEq, Prod.mk.injEq] at H
  obtain ⟨rfl, rfl⟩ := H
  go_enter Try.func178, Try.ntmps178
  go_wp2_with (first | ((with_reducible refine aQ (N := 1) rfl ?_); refine aX ?hg (N := 1) ?hd (cs := #[.int .u8 az, .int .i64 aC, .int .i64 aA, .int .i64 aG, .int .i64 aT, .int .i64 aU, .slice bT aj.length bJ]) (t := 26) ?hr ?_; (case hd => rfl); (case hg => rfl); (case hr => (go_simp; done)); intro gJ hg w3 hbox hb; have bK := ae.mk (hbox); replace HB := ae.mk (aH (by repeat ((with_reducible exact HB.out))) hb); clear hb hbox hg; have II : w3.cell? ⟨gJ, 0, none⟩ = some (.int .u8 az) := (af bK.out 0).trans rfl; have IJ : w3.cell? ⟨gJ, 1, none⟩ = some (.int .i64 aC) := (af bK.out 1).trans rfl; have IK : w3.cell? ⟨gJ, 2, none⟩ = some (.int .i64 aA) := (af bK.out 2).trans rfl; have IL : w3.cell? ⟨gJ, 3, none⟩ = some (.int .i64 aG) := (af bK.out 3).trans rfl; have NQ : w3.cell? ⟨gJ, 4, none⟩ = some (.int .i64 aT) := (af bK.out 4).trans rfl; have NR : w3.cell? ⟨gJ, 5, none⟩ = some (.int .i64 aU) := (af bK.out 5).trans rfl; have NT : w3.cell? ⟨gJ, 6, none⟩ = some (.slice bT aj.length bJ) := (af bK.out 6).trans rfl; have I7 := ag bK.out 0; have I8 := ag bK.out 1; have I9 := ag bK.out 2; have I_ := ag bK.out 3; have NZ := ag bK.out 4; have N7 := ag bK.out 5; have N8 := ag bK.out 6) | ((with_reducible refine aQ (N := 11) rfl ?_); refine Kd.o8 k23 _ 23 ?hg (N := 11) ?hd (xs := ([] : List (bC))) (inner := []) (ok := fun _ => True) (iO := fun _ => True) ?hr ?hp (fun _ hk => hk) trivial (Below.refl _ _) (Nat.le_refl _) (by simp) ?_; (case hd => rfl); (case hg => rfl); (case hr => (go_simp; done)); (case hp => exact (dB.none _ _)); intro awZ w5 UG hb kW gK; clear kW gK; (rw [← amP.out] at UG); have amc := ae.mk (Kd.iQ (Kd.CX (M := fun k_ => (w.heap.size ≤ k_)) UG (aY (by repeat ((with_reducible exact HB.out)))) (fun k_ h_ => h_)) (aY (by repeat ((with_reducible exact HB.out))))); replace bK := ae.mk (aK bK.out hb); replace HB := ae.mk (aH (by repeat ((with_reducible exact HB.out))) hb); clear hb UG))
  go_ret2
  exact ⟨_, by rfl, Kd.KH (by exact Kd.cZ amc.out (fun _ hk => hk.1)), by repeat ((with_reducible exact HB.out))⟩
 ·rw [if_neg c2] at H
  have Iy : (az == 1) = false := beq_eq_false_iff_ne.mpr c2
  have Yw : (az != 1) = true := bne_iff_ne.mpr c2
  replace H := Option.bind_eq_some_iff.mp H
  obtain ⟨yD, QU, H⟩ := H
  replace H : ((aJ.f k aC aA aG aT ((az - 1) % 256) yD).bind fun sQ => (if sQ.2.2 = true then (bP.l0 k sQ.1 sQ.2.1 (sQ.1.length : Int) 0 az aC aA aG aT aU aj) else (some (sQ.2.1, false)))) = some (r1, r2) := H
  have A7 := ae.mk QU
  clear QU
  replace H := Option.bind_eq_some_iff.mp H
  obtain ⟨⟨mO, Jz, alk⟩, ZW, H⟩ := H
  replace H : (if alk = true then (bP.l0 k mO Jz (mO.length : Int) 0 az aC aA aG aT aU aj) else (some (Jz, false))) = some (r1, r2) := H
  have A8 := ae.mk ZW
  clear ZW
  by_cases c9 : alk = true
  ·subst c9
   have H1 : (bP.l0 k mO Jz (mO.length : Int) 0 az aC aA aG aT aU aj) = some (r1, r2) := by rw [if_pos rfl] at H; exact H
   clear H
   have H := H1
   clear H1
   have H' := ae.mk H
   clear H
   go_enter Try.func178, Try.ntmps178
   try go_wp2_with (((with_reducible refine aQ (N := 1) rfl ?_); refine aX ?hg (N := 1) ?hd (cs := #[.int .u8 az, .int .i64 aC, .int .i64 aA, .int .i64 aG, .int .i64 aT, .int .i64 aU, .slice bT aj.length bJ]) (t := 26) ?hr ?_; (case hd => rfl); (case hg => rfl); (case hr => (go_simp; done)); intro gJ hg w10 hbox hb; have bK := ae.mk (hbox); replace HB := ae.mk (aH (by repeat ((with_reducible exact HB.out))) hb); clear hb hbox hg; have yJ : w10.cell? ⟨gJ, 0, none⟩ = some (.int .u8 az) := (af bK.out 0).trans rfl; have yK : w10.cell? ⟨gJ, 1, none⟩ = some (.int .i64 aC) := (af bK.out 1).trans rfl; have yL : w10.cell? ⟨gJ, 2, none⟩ = some (.int .i64 aA) := (af bK.out 2).trans rfl; have yM : w10.cell? ⟨gJ, 3, none⟩ = some (.int .i64 aG) := (af bK.out 3).trans rfl; have FM : w10.cell? ⟨gJ, 4, none⟩ = some (.int .i64 aT) := (af bK.out 4).trans rfl; have FN : w10.cell? ⟨gJ, 5, none⟩ = some (.int .i64 aU) := (af bK.out 5).trans rfl; have FO : w10.cell? ⟨gJ, 6, none⟩ = some (.slice bT aj.length bJ) := (af bK.out 6).trans rfl; have yO := ag bK.out 0; have yP := ag bK.out 1; have yQ := ag bK.out 2; have yR := ag bK.out 3; have FV := ag bK.out 4; have FW := ag bK.out 5; have FX := ag bK.out 6))
   replace bK := ae.mk (tZ bK.out); replace HB := ae.mk (qP HB.out)
   refine m_ (n := 15) (S := fun w' => w'.cell? ⟨gJ, 0, none⟩ = some (.int .u8 az) ∧ w'.cell? ⟨gJ, 1, none⟩ = some (.int .i64 aC) ∧ w'.cell? ⟨gJ, 2, none⟩ = some (.int .i64 aA) ∧ w'.cell? ⟨gJ, 3, none⟩ = some (.int .i64 aG) ∧ w'.cell? ⟨gJ, 4, none⟩ = some (.int .i64 aT) ∧ w'.cell? ⟨gJ, 5, none⟩ = some (.int .i64 aU) ∧ w'.cell? ⟨gJ, 6, none⟩ = some (.slice bT aj.length bJ)) (ds := []) #[false, false, false, false, false, false, false, false, false, false, false, false, false, false, false] (by kernel_rfl) rfl rfl ⟨(af bK.out 0).trans rfl, (af bK.out 1).trans rfl, (af bK.out 2).trans rfl, (af bK.out 3).trans rfl, (af bK.out 4).trans rfl, (af bK.out 5).trans rfl, (af bK.out 6).trans rfl⟩ (fun hHeld => ?_); refine jr bP.JC bP.Eu (fun aW gX => ?_)
   generalize w10.drew = w12 at bK HB hHeld ⊢
   refine eG (i := 0) (N := some 13) (v := ?_) (a' := ?_) #[true, false, false, false, false, false, false, false, false, false, false, false, false, false, false] rfl rfl (dO aW.out (by kernel_rfl)) (fun _ _ _ h => h) (Or.inl ⟨by rfl, ?_⟩) ?_ ?_
   rotate_left
   ·intro w'
    go_simp
    with_reducible rfl
   rotate_left
   ·simp only [Act.put, List.setIfInBounds_toArray, List.set_cons_zero, List.set_cons_succ, cO, b_]
    rfl
   refine eG (i := 2) (N := some 15) (v := ?_) (a' := ?_) #[true, false, true, false, false, false, false, false, false, false, false, false, false, false, false] rfl rfl (dO aW.out (by kernel_rfl)) (fun _ _ _ h => h) (Or.inl ⟨by rfl, ?_⟩) ?_ ?_
   rotate_left
   ·intro w'
    go_simp
    with_reducible rfl
   rotate_left
   ·simp only [Act.put, List.setIfInBounds_toArray, List.set_cons_zero, List.set_cons_succ, cO, b_]
    rfl
   refine mF (i := 1) (N := some 14) (v := ?_) (a' := ?_) #[true, true, true, false, false, false, false, false, false, false, false, false, false, false, false] rfl rfl (jd aW.out gX.out (by kernel_rfl)) (fun _ _ _ h => h) (Or.inl ⟨by rfl, ?_⟩) hHeld ?_ ?_
   rotate_left
   ·rintro w' ⟨s0, s1, s2, s3, s4, s5, s6⟩
    go_simp
    with_reducible rfl
   rotate_left
   ·simp only [Act.put, List.setIfInBounds_toArray, List.set_cons_zero, List.set_cons_succ, cO, b_]
    rfl
   refine mF (i := 3) (N := some 16) (v := ?_) (a' := ?_) #[true, true, true, true, false, false, false, false, false, false, false, false, false, false, false] rfl rfl (jd aW.out gX.out (by kernel_rfl)) (fun _ _ _ h => h) (Or.inl ⟨by rfl, ?_⟩) hHeld ?_ ?_
   rotate_left
   ·rintro w' ⟨s0, s1, s2, s3, s4, s5, s6⟩
    go_simp
    with_reducible rfl
   rotate_left
   ·simp only [Act.put, List.setIfInBounds_toArray, List.set_cons_zero, List.set_cons_succ, cO, b_]
    rfl
   refine eG (i := 4) (N := some 17) (v := ?_) (a' := ?_) #[true, true, true, true, true, false, false, false, false, false, false, false, false, false, false] rfl rfl (dO aW.out (by kernel_rfl)) (fun _ _ _ h => h) (Or.inl ⟨by rfl, ?_⟩) ?_ ?_
   rotate_left
   ·intro w'
    go_simp
    with_reducible rfl
   rotate_left
   ·simp only [Act.put, List.setIfInBounds_toArray, List.set_cons_zero, List.set_cons_succ, cO, b_]
    rfl
   refine mF (i := 5) (N := some 18) (v := ?_) (a' := ?_) #[true, true, true, true, true, true, false, false, false, false, false, false, false, false, false] rfl rfl (jd aW.out gX.out (by kernel_rfl)) (fun _ _ _ h => h) (Or.inl ⟨by rfl, ?_⟩) hHeld ?_ ?_
   rotate_left
   ·rintro w' ⟨s0, s1, s2, s3, s4, s5, s6⟩
    go_simp
    with_reducible rfl
   rotate_left
   ·simp only [Act.put, List.setIfInBounds_toArray, List.set_cons_zero, List.set_cons_succ, cO, b_]
    rfl
   refine jY (i := 6) (N := some 19) #[true, true, true, true, true, true, true, false, false, false, false, false, false, false, false] rfl rfl (eX aW.out (by kernel_rfl)) (by decide) (fun K hK => ?_)
   refine jc Try.func194 (by kernel_rfl) rfl #[.agg #[.int .u8 az, .int .i64 aC, .int .i64 aA, .int .i64 aG, .int .i64 aT, .int .i64 aU, .slice bT aj.length bJ]] (by rfl) rfl rfl (by (try simp only [List.map_toArray, List.map_cons, List.map_nil]); rfl) ?_
   with_reducible refine (fC.calls k az aC aA aG aT aU _ _ aj yD _ ?fO ?gG A7.out).mono ?_
   (case fO => repeat (exact (Kd.iP lF.out HB.out)))
   (case gG => exact rM.out)
   rintro e qI ⟨apE, rfl, ho0, hb⟩
   refine ⟨_, rfl, ?_⟩
   have uX := ae.mk (Kd.iQ (Kd.CX (M := fun k_ => (w.heap.size ≤ k_)) ho0 (aY (by repeat ((with_reducible exact HB.out)))) (fun k_ h_ => h_)) (aY (by repeat ((with_reducible exact HB.out))))); replace bK := ae.mk (aK bK.out hb); replace HB := ae.mk (aH (by repeat ((with_reducible exact HB.out))) hb)
   (try clear hb)
   (skip)
   (skip)
   (skip)
   (try clear ho0)
   obtain ⟨OC, Hf, TR⟩ := Kd.iJ uX.out
   (subst TR)
   refine hK.out _ _ ⟨(af bK.out 0).trans rfl, (af bK.out 1).trans rfl, (af bK.out 2).trans rfl, (af bK.out 3).trans rfl, (af bK.out 4).trans rfl, (af bK.out 5).trans rfl, (af bK.out 6).trans rfl⟩ (fun hHeld => ?_)
   clear hK K
   refine qi (a' := ?_) ?_ ?_
   rotate_left
   ·show Act.put _ (some 19) _ = _
    simp only [Act.put, List.setIfInBounds_toArray, List.set_cons_zero, List.set_cons_succ, cO, b_]
    rfl
   refine jY (i := 7) (N := some 20) #[true, true, true, true, true, true, true, true, false, false, false, false, false, false, false] rfl rfl (eX aW.out (by kernel_rfl)) (by decide) (fun K hK => ?_)
   refine jc Try.func46 (by kernel_rfl) rfl #[.agg #[.int .i64 aC, .int .i64 aA, .int .i64 aG, .int .i64 aT], .int .u8 ((az - 1) % 256), .slice OC yD.length Hf] (by rfl) rfl rfl (by (try simp only [List.map_toArray, List.map_cons, List.map_nil]); rfl) ?_
   with_reducible refine (aJ.calls k aC aA aG aT ((az - 1) % 256) _ _ yD mO Jz true _ ?fO ?gG A8.out).mono ?_
   (case fO => repeat (exact (Kd.dH uX.out).2.2))
   (case gG => exact (Kd.dH uX.out).2.1)
   rintro e pz ⟨apF, alq, rfl, ho0, ho1, hb⟩
   refine ⟨_, rfl, ?_⟩
   have Yb := ae.mk (Kd.CE (Kd.iT (ok' := fun k_ => (w.heap.size ≤ k_) ∧ some k_ ≠ (.slice OC yD.length Hf : Value).ownBlock ∧ k_ ≠ gJ) ho0 (fun k_ qh => ⟨(Nat.le_trans (aY (by repeat ((with_reducible exact HB.out)))) qh), (Kd.fresh' (Kd.lX uX.out) k_ qh), (Kd.jM bK.out k_ qh)⟩)) (aY (by repeat ((with_reducible exact HB.out))))); have Yc := ae.mk (Kd.CE (Kd.iT (ok' := fun k_ => (w.heap.size ≤ k_) ∧ some k_ ≠ (.slice OC yD.length Hf : Value).ownBlock ∧ k_ ≠ gJ) ho1 (fun k_ qh => ⟨(Nat.le_trans (aY (by repeat ((with_reducible exact HB.out)))) qh), (Kd.fresh' (Kd.lX uX.out) k_ qh), (Kd.jM bK.out k_ qh)⟩)) (aY (by repeat ((with_reducible exact HB.out))))); replace uX := ae.mk (Kd.fJ uX.out hb); replace bK := ae.mk (aK bK.out hb); replace HB := ae.mk (aH (by repeat ((with_reducible exact HB.out))) hb)
   (try clear hb)
   (skip)
   (skip)
   (skip)
   (try clear ho0)
   (try clear ho1)
   refine hK.out _ _ ⟨(af bK.out 0).trans rfl, (af bK.out 1).trans rfl, (af bK.out 2).trans rfl, (af bK.out 3).trans rfl, (af bK.out 4).trans rfl, (af bK.out 5).trans rfl, (af bK.out 6).trans rfl⟩ (fun hHeld => ?_)
   clear hK K
   refine qi (a' := ?_) ?_ ?_
   rotate_left
   ·show Act.put _ (some 20) _ = _
    simp only [Act.put, List.setIfInBounds_toArray, List.set_cons_zero, List.set_cons_succ, cO, b_]
    rfl
   refine eG (i := 8) (N := some 12) (v := ?_) (a' := ?_) #[true, true, true, true, true, true, true, true, true, false, false, false, false, false, false] rfl rfl (dO aW.out (by kernel_rfl)) (fun _ _ _ h => h) (Or.inl ⟨by rfl, ?_⟩) ?_ ?_
   rotate_left
   ·intro w'
    go_simp
    with_reducible rfl
   rotate_left
   ·simp only [Act.put, List.setIfInBounds_toArray, List.set_cons_zero, List.set_cons_succ, cO, b_]
    rfl
   refine eG (i := 9) (N := some 21) (v := ?_) (a' := ?_) #[true, true, true, true, true, true, true, true, true, true, false, false, false, false, false] rfl rfl (dO aW.out (by kernel_rfl)) (fun _ _ _ h => h) (Or.inl ⟨by rfl, ?_⟩) ?_ ?_
   rotate_left
   ·intro w'
    go_simp
    with_reducible rfl
   rotate_left
   ·simp only [Act.put, List.setIfInBounds_toArray, List.set_cons_zero, List.set_cons_succ, cO, b_]
    rfl
   refine eG (i := 10) (N := some 22) (v := ?_) (a' := ?_) #[true, true, true, true, true, true, true, true, true, true, true, false, false, false, false] rfl rfl (dO aW.out (by kernel_rfl)) (fun _ _ _ h => h) (Or.inl ⟨by rfl, ?_⟩) ?_ ?_
   rotate_left
   ·intro w'
    go_simp
    with_reducible rfl
   rotate_left
   ·simp only [Act.put, List.setIfInBounds_toArray, List.set_cons_zero, List.set_cons_succ, cO, b_]
    rfl
   refine eG (i := 11) (N := some 23) (v := ?_) (a' := ?_) #[true, true, true, true, true, true, true, true, true, true, true, true, false, false, false] rfl rfl (dO aW.out (by kernel_rfl)) (fun _ _ _ h => h) (Or.inl ⟨by rfl, ?_⟩) ?_ ?_
   rotate_left
   ·intro w'
    go_simp
    with_reducible rfl
   rotate_left
   ·simp only [Act.put, List.setIfInBounds_toArray, List.set_cons_zero, List.set_cons_succ, cO, b_]
    rfl
   refine eG (i := 12) (N := some 4) (v := ?_) (a' := ?_) #[true, true, true, true, true, true, true, true, true, true, true, true, true, false, false] rfl rfl (dO aW.out (by kernel_rfl)) (fun _ _ _ h => h) (Or.inl ⟨by rfl, ?_⟩) ?_ ?_
   rotate_left
   ·intro w'
    go_simp
    with_reducible rfl
   rotate_left
   ·simp only [Act.put, List.setIfInBounds_toArray, List.set_cons_zero, List.set_cons_succ, cO, b_]
    rfl
   refine eG (i := 13) (N := some 5) (v := ?_) (a' := ?_) #[true, true, true, true, true, true, true, true, true, true, true, true, true, true, false] rfl rfl (dO aW.out (by kernel_rfl)) (fun _ _ _ h => h) (Or.inl ⟨by rfl, ?_⟩) ?_ ?_
   rotate_left
   ·intro w'
    go_simp
    with_reducible rfl
   rotate_left
   ·simp only [Act.put, List.setIfInBounds_toArray, List.set_cons_zero, List.set_cons_succ, cO, b_]
    rfl
   refine eG (i := 14) (N := some 6) (v := ?_) (a' := ?_) #[true, true, true, true, true, true, true, true, true, true, true, true, true, true, true] rfl rfl (dO aW.out (by kernel_rfl)) (fun _ _ _ h => h) (Or.inl ⟨by rfl, ?_⟩) ?_ ?_
   rotate_left
   ·intro w'
    go_simp
    with_reducible rfl
   rotate_left
   ·simp only [Act.put, List.setIfInBounds_toArray, List.set_cons_zero, List.set_cons_succ, cO, b_]
    rfl
   refine oV (lh aW.out (by kernel_rfl)) ?_
   obtain ⟨abT, acp, acH⟩ := Kd.VP Yb.out
   subst acH
   try go_wp2
   go_loopg [29] k (fun kq v29 w' => ∃ (df : Int), v29 = .int .i64 df ∧ ae (bP.l0 kq mO Jz (mO.length : Int) df az aC aA aG aT aU aj = some (r1, r2)) ∧ ae (kq ≤ k) ∧ ae (Kd.V k23 23 w' w.heap.size (fun k_ => (w.heap.size ≤ k_) ∧ k_ ≠ gJ) (.slice abT mO.length acp) mO) ∧ ae (Kd.V k23 23 w' w.heap.size (fun k_ => (w.heap.size ≤ k_) ∧ k_ ≠ gJ) alq Jz) ∧ ae (w'.heap[gJ]? = some (.cells #[.int .u8 az, .int .i64 aC, .int .i64 aA, .int .i64 aG, .int .i64 aT, .int .i64 aU, (.slice bT aj.length bJ)] 26 (0, 0))) ∧ ae (Below w.heap.size w w'))
   case atStart => exact ⟨(0), (by rfl), H', ⟨Nat.le_refl _⟩, ⟨by exact Kd.iT Yb.out (fun _ hk => ⟨hk.1, hk.2.2⟩)⟩, ⟨by exact Kd.iT Yc.out (fun _ hk => ⟨hk.1, hk.2.2⟩)⟩, ⟨by exact bK.out⟩, ⟨by repeat ((with_reducible exact HB.out))⟩⟩
   case round =>
    clear H'
    clear c2 Iy Yw yJ yK yL yM FM FN FO yO yP yQ yR FV FW FX
    obtain ⟨df, rfl, HA, jI, qX, iy, bK, HB⟩ := hrel
    cases gk with
    | zero => exact absurd HA.out (by simp [bP.l0])
    | succ k1 =>
     have H := HA.out
     clear HA
     simp only [bP.l0] at H
     by_cases c17 : df < (mO.length : Int)
     ·rw [if_pos c17] at H
      have RY : decide (df < (mO.length : Int)) = true := decide_eq_true c17
      clear c17
      by_cases c18 : 0 ≤ df
      ·rw [if_pos c18] at H
       have aeO : decide (0 ≤ df) = true := decide_eq_true c18
       clear c18
       by_cases c19 : df < (mO.length : Int)
       ·rw [if_pos c19] at H
        have aeP : decide (df < (mO.length : Int)) = true := decide_eq_true c19
        clear c19
        by_cases c20 : df < (aj.length : Int)
        ·rw [if_pos c20] at H
         have am' : decide (df < (aj.length : Int)) = true := decide_eq_true c20
         clear c20
         by_cases c21 : (!(((fQ mO df).f0) == ((au aj df).f1.f0)) || (!(((fQ mO df).f1) == ((au aj df).f1.f1)) || (!(((fQ mO df).f2) == ((au aj df).f1.f2)) || (!(((fQ mO df).f3) == ((au aj df).f1.f3)))))) = true
         ·rw [if_pos c21] at H
          have aeQ : (!(((fQ mO df).f0) == ((au aj df).f1.f0)) || (!(((fQ mO df).f1) == ((au aj df).f1.f1)) || (!(((fQ mO df).f2) == ((au aj df).f1.f2)) || (!(((fQ mO df).f3) == ((au aj df).f1.f3)))))) = true := c21
          clear c21
          obtain ⟨apP, Zh⟩ : ∃ y_ : List (bC), y_ = (([] : List (bC))) := ⟨_, rfl⟩
          replace H : (some (apP, false)) = some (r1, r2) := by (rw [Zh]; with_reducible exact H)
          have amQ := ae.mk Zh
          clear Zh
          simp only [Option.some.injEq, Prod.mk.injEq] at H
          obtain ⟨rfl, rfl⟩ := H
          try go_wp2
          replace qX := ae.mk (Kd.Fz qX.out); replace iy := ae.mk (Kd.Fz iy.out); replace bK := ae.mk (tZ bK.out); replace HB := ae.mk (qP HB.out)
          have LU : 0 ≤ (df : Int) := of_decide_eq_true (by (with_reducible assumption))
          have L8 : df < (mO.length : Int) := of_decide_eq_true (by (with_reducible assumption))
          obtain ⟨uY, acB, Gp, Gq, Gs, Gt⟩ := Nq (Kd.oH qX.out).2.2 df LU L8
          cases acB
          replace LU := eq_true LU
          replace L8 := eq_true L8
          have LV : 0 ≤ (df : Int) := of_decide_eq_true (by (with_reducible assumption))
          have L9 : df < (aj.length : Int) := of_decide_eq_true (by (with_reducible assumption))
          obtain ⟨mV, SG, TI, acC, uz, uA, uB, uC, uD, uF, uG, PL, F7⟩ := nV lF.out df LV L9
          have Gl := uG
          have Gj := uF
          have Gi := uD
          have Gh := uC
          have Gg := uB
          have Gf := uA
          have F_ := uz
          cases acC
          replace uz := (HB.out.cell (World.block_lt_of_cell? w _ uz)).trans uz
          replace uA := (HB.out.cell (World.block_lt_of_cell? w _ uA)).trans uA
          replace uB := (HB.out.cell (World.block_lt_of_cell? w _ uB)).trans uB
          replace uC := (HB.out.cell (World.block_lt_of_cell? w _ uC)).trans uC
          replace uD := (HB.out.cell (World.block_lt_of_cell? w _ uD)).trans uD
          replace uF := (HB.out.cell (World.block_lt_of_cell? w _ uF)).trans uF
          replace uG := (HB.out.cell (World.block_lt_of_cell? w _ uG)).trans uG
          have OH := ae.mk F7
          clear F7 PL
          replace LV := eq_true LV
          replace L9 := eq_true L9
          refine m_ (n := 11) (S := fun w' => w'.cell? ⟨gJ, 0, none⟩ = some (.int .u8 az) ∧ w'.cell? ⟨gJ, 1, none⟩ = some (.int .i64 aC) ∧ w'.cell? ⟨gJ, 2, none⟩ = some (.int .i64 aA) ∧ w'.cell? ⟨gJ, 3, none⟩ = some (.int .i64 aG) ∧ w'.cell? ⟨gJ, 4, none⟩ = some (.int .i64 aT) ∧ w'.cell? ⟨gJ, 5, none⟩ = some (.int .i64 aU) ∧ w'.cell? ⟨gJ, 6, none⟩ = some (.slice (some mV) aj.length bJ) ∧ w'.cell? (uY.add ((df).toNat * 4)) = some (.int .i64 ((fQ mO df).f0)) ∧ w'.cell? ⟨(uY.add ((df).toNat * 4)).block, (uY.add ((df).toNat * 4)).off + 1, none⟩ = some (.int .i64 ((fQ mO df).f1)) ∧ w'.cell? ⟨(uY.add ((df).toNat * 4)).block, (uY.add ((df).toNat * 4)).off + 2, none⟩ = some (.int .i64 ((fQ mO df).f2)) ∧ w'.cell? ⟨(uY.add ((df).toNat * 4)).block, (uY.add ((df).toNat * 4)).off + 3, none⟩ = some (.int .i64 ((fQ mO df).f3)) ∧ w'.cell? (mV.add ((df).toNat * 7)) = some (.int .u8 ((au aj df).f0)) ∧ w'.cell? ⟨(mV.add ((df).toNat * 7)).block, (mV.add ((df).toNat * 7)).off + 1, none⟩ = some (.int .i64 ((au aj df).f1.f0)) ∧ w'.cell? ⟨(mV.add ((df).toNat * 7)).block, (mV.add ((df).toNat * 7)).off + 2, none⟩ = some (.int .i64 ((au aj df).f1.f1)) ∧ w'.cell? ⟨(mV.add ((df).toNat * 7)).block, (mV.add ((df).toNat * 7)).off + 3, none⟩ = some (.int .i64 ((au aj df).f1.f2)) ∧ w'.cell? ⟨(mV.add ((df).toNat * 7)).block, (mV.add ((df).toNat * 7)).off + 4, none⟩ = some (.int .i64 ((au aj df).f1.f3)) ∧ w'.cell? ⟨(mV.add ((df).toNat * 7)).block, (mV.add ((df).toNat * 7)).off + 5, none⟩ = some (.int .i64 ((au aj df).f2)) ∧ w'.cell? ⟨(mV.add ((df).toNat * 7)).block, (mV.add ((df).toNat * 7)).off + 6, none⟩ = some (.slice SG ((au aj df).f3).length TI)) (ds := []) #[false, false, false, false, false, false, false, false, false, false, false] (by kernel_rfl) rfl rfl ⟨(af bK.out 0).trans rfl, (af bK.out 1).trans rfl, (af bK.out 2).trans rfl, (af bK.out 3).trans rfl, (af bK.out 4).trans rfl, (af bK.out 5).trans rfl, (af bK.out 6).trans rfl, Gp, Gq, Gs, Gt, ((HB.out.cell (World.block_lt_of_cell? w _ F_)).trans F_), ((HB.out.cell (World.block_lt_of_cell? w _ Gf)).trans Gf), ((HB.out.cell (World.block_lt_of_cell? w _ Gg)).trans Gg), ((HB.out.cell (World.block_lt_of_cell? w _ Gh)).trans Gh), ((HB.out.cell (World.block_lt_of_cell? w _ Gi)).trans Gi), ((HB.out.cell (World.block_lt_of_cell? w _ Gj)).trans Gj), ((HB.out.cell (World.block_lt_of_cell? w _ Gl)).trans Gl)⟩ (fun hHeld => ?_); refine jr bP.ZI bP.RN (fun aW gX => ?_)
          generalize wr.drew = w22 at qX iy bK HB OH Gp Gq Gs Gt uz uA uB uC uD uF uG hHeld ⊢
          refine eG (i := 0) (N := some 32) (v := ?_) (a' := ?_) #[true, false, false, false, false, false, false, false, false, false, false] rfl rfl (dO aW.out (by kernel_rfl)) (fun _ _ _ h => h) (Or.inl ⟨by rfl, ?_⟩) ?_ ?_
          rotate_left
          ·intro w'
           go_simp
           with_reducible rfl
          rotate_left
          ·simp only [Act.put, List.setIfInBounds_toArray, List.set_cons_zero, List.set_cons_succ, cO, b_]
           rfl
          refine eG (i := 1) (N := some 33) (v := ?_) (a' := ?_) #[true, true, false, false, false, false, false, false, false, false, false] rfl rfl (dO aW.out (by kernel_rfl)) (fun _ _ _ h => h) (Or.inl ⟨by rfl, ?_⟩) ?_ ?_
          rotate_left
          ·intro w'
           go_simp
           with_reducible rfl
          rotate_left
          ·simp only [Act.put, List.setIfInBounds_toArray, List.set_cons_zero, List.set_cons_succ, cO, b_]
           rfl
          refine eG (i := 2) (N := some 34) (v := ?_) (a' := ?_) #[true, true, true, false, false, false, false, false, false, false, false] rfl rfl (dO aW.out (by kernel_rfl)) (fun _ _ _ h => h) (Or.inl ⟨by rfl, ?_⟩) ?_ ?_
          rotate_left
          ·intro w'
           go_simp
           with_reducible rfl
          rotate_left
          ·simp only [Act.put, List.setIfInBounds_toArray, List.set_cons_zero, List.set_cons_succ, cO, b_]
           rfl
          refine eG (i := 4) (N := some 36) (v := ?_) (a' := ?_) #[true, true, true, false, true, false, false, false, false, false, false] rfl rfl (dO aW.out (by kernel_rfl)) (fun _ _ _ h => h) (Or.inl ⟨by rfl, ?_⟩) ?_ ?_
          rotate_left
          ·intro w'
           go_simp
           with_reducible rfl
          rotate_left
          ·simp only [Act.put, List.setIfInBounds_toArray, List.set_cons_zero, List.set_cons_succ, cO, b_]
           rfl
          refine eG (i := 6) (N := some 38) (v := ?_) (a' := ?_) #[true, true, true, false, true, false, true, false, false, false, false] rfl rfl (dO aW.out (by kernel_rfl)) (fun _ _ _ h => h) (Or.inl ⟨by rfl, ?_⟩) ?_ ?_
          rotate_left
          ·intro w'
           go_simp
           with_reducible rfl
          rotate_left
          ·simp only [Act.put, List.setIfInBounds_toArray, List.set_cons_zero, List.set_cons_succ, cO, b_]
           rfl
          refine mF (i := 3) (N := some 35) (v := ?_) (a' := ?_) #[true, true, true, true, true, false, true, false, false, false, false] rfl rfl (jd aW.out gX.out (by kernel_rfl)) (fun _ _ _ h => h) (Or.inl ⟨by rfl, ?_⟩) hHeld ?_ ?_
          rotate_left
          ·rintro w' ⟨s0, s1, s2, s3, s4, s5, s6, s7, s8, s9, s10, s11, s12, s13, s14, s15, s16, s17⟩
           go_simp
           with_reducible rfl
          rotate_left
          ·simp only [Act.put, List.setIfInBounds_toArray, List.set_cons_zero, List.set_cons_succ, cO, b_]
           rfl
          refine mF (i := 5) (N := some 37) (v := ?_) (a' := ?_) #[true, true, true, true, true, true, true, false, false, false, false] rfl rfl (jd aW.out gX.out (by kernel_rfl)) (fun _ _ _ h => h) (Or.inl ⟨by rfl, ?_⟩) hHeld ?_ ?_
          rotate_left
          ·rintro w' ⟨s0, s1, s2, s3, s4, s5, s6, s7, s8, s9, s10, s11, s12, s13, s14, s15, s16, s17⟩
           go_simp
           with_reducible rfl
          rotate_left
          ·simp only [Act.put, List.setIfInBounds_toArray, List.set_cons_zero, List.set_cons_succ, cO, b_]
           rfl
          refine eG (i := 7) (N := some 39) (v := ?_) (a' := ?_) #[true, true, true, true, true, true, true, true, false, false, false] rfl rfl (dO aW.out (by kernel_rfl)) (fun _ _ _ h => h) (Or.inl ⟨by rfl, ?_⟩) ?_ ?_
          rotate_left
          ·intro w'
           go_simp
           with_reducible rfl
          rotate_left
          ·simp only [Act.put, List.setIfInBounds_toArray, List.set_cons_zero, List.set_cons_succ, cO, b_]
           rfl
          refine eG (i := 8) (N := some 40) (v := ?_) (a' := ?_) #[true, true, true, true, true, true, true, true, true, false, false] rfl rfl (dO aW.out (by kernel_rfl)) (fun _ _ _ h => h) (Or.inl ⟨by rfl, ?_⟩) ?_ ?_
          rotate_left
          ·intro w'
           go_simp
           with_reducible rfl
          rotate_left
          ·simp only [Act.put, List.setIfInBounds_toArray, List.set_cons_zero, List.set_cons_succ, cO, b_]
           rfl
          refine mF (i := 9) (N := some 41) (v := ?_) (a' := ?_) #[true, true, true, true, true, true, true, true, true, true, false] rfl rfl (jd aW.out gX.out (by kernel_rfl)) (fun _ _ _ h => h) (Or.inl ⟨by rfl, ?_⟩) hHeld ?_ ?_
          rotate_left
          ·rintro w' ⟨s0, s1, s2, s3, s4, s5, s6, s7, s8, s9, s10, s11, s12, s13, s14, s15, s16, s17⟩
           go_simp
           with_reducible rfl
          rotate_left
          ·simp only [Act.put, List.setIfInBounds_toArray, List.set_cons_zero, List.set_cons_succ, cO, b_]
           rfl
          refine eG (i := 10) (N := some 42) (v := ?_) (a' := ?_) #[true, true, true, true, true, true, true, true, true, true, true] rfl rfl (dO aW.out (by kernel_rfl)) (fun _ _ _ h => h) (Or.inl ⟨by rfl, ?_⟩) ?_ ?_
          rotate_left
          ·intro w'
           go_simp
           with_reducible rfl
          rotate_left
          ·simp only [Act.put, List.setIfInBounds_toArray, List.set_cons_zero, List.set_cons_succ, cO, b_]
           rfl
          refine oV (lh aW.out (by kernel_rfl)) ?_
          try go_wp2_with (((with_reducible refine aQ (N := 43) rfl ?_); refine Kd.o8 k23 _ 23 ?hg (N := 43) ?hd (xs := ([] : List (bC))) (inner := []) (ok := fun _ => True) (iO := fun _ => True) ?hr ?hp (fun _ hk => hk) trivial (Below.refl _ _) (Nat.le_refl _) (by simp) ?_; (case hd => rfl); (case hg => rfl); (case hr => (go_simp; done)); (case hp => exact (dB.none _ _)); intro aw0 JG UE hb kW gK; clear kW gK; (rw [← amQ.out] at UE); have amd := ae.mk (Kd.iQ (Kd.CX (M := fun k_ => (w.heap.size ≤ k_)) UE (aY (by repeat ((with_reducible exact HB.out)))) (fun k_ h_ => h_)) (aY (by repeat ((with_reducible exact HB.out))))); replace qX := ae.mk (Kd.wM qX.out (Kd.nT UE) hb); replace iy := ae.mk (Kd.wM iy.out (Kd.nT UE) hb); replace bK := ae.mk (aK bK.out hb); replace HB := ae.mk (aH (by repeat ((with_reducible exact HB.out))) hb); clear hb UE))
          go_ret2
          exact ⟨_, by rfl, Kd.KH (by exact Kd.cZ amd.out (fun _ hk => hk.1)), by repeat ((with_reducible exact HB.out))⟩
         ·rw [if_neg c21] at H
          have aeQ : (!(((fQ mO df).f0) == ((au aj df).f1.f0)) || (!(((fQ mO df).f1) == ((au aj df).f1.f1)) || (!(((fQ mO df).f2) == ((au aj df).f1.f2)) || (!(((fQ mO df).f3) == ((au aj df).f1.f3)))))) = false := by simpa using c21
          clear c21
          have H' := ae.mk H
          clear H
          try go_wp2
          replace qX := ae.mk (Kd.Fz qX.out); replace iy := ae.mk (Kd.Fz iy.out); replace bK := ae.mk (tZ bK.out); replace HB := ae.mk (qP HB.out)
          have LU : 0 ≤ (df : Int) := of_decide_eq_true (by (with_reducible assumption))
          have L8 : df < (mO.length : Int) := of_decide_eq_true (by (with_reducible assumption))
          obtain ⟨uY, acB, Gp, Gq, Gs, Gt⟩ := Nq (Kd.oH qX.out).2.2 df LU L8
          cases acB
          replace LU := eq_true LU
          replace L8 := eq_true L8
          have LV : 0 ≤ (df : Int) := of_decide_eq_true (by (with_reducible assumption))
          have L9 : df < (aj.length : Int) := of_decide_eq_true (by (with_reducible assumption))
          obtain ⟨mV, SG, TI, acC, uz, uA, uB, uC, uD, uF, uG, PL, F7⟩ := nV lF.out df LV L9
          have Gl := uG
          have Gj := uF
          have Gi := uD
          have Gh := uC
          have Gg := uB
          have Gf := uA
          have F_ := uz
          cases acC
          replace uz := (HB.out.cell (World.block_lt_of_cell? w _ uz)).trans uz
          replace uA := (HB.out.cell (World.block_lt_of_cell? w _ uA)).trans uA
          replace uB := (HB.out.cell (World.block_lt_of_cell? w _ uB)).trans uB
          replace uC := (HB.out.cell (World.block_lt_of_cell? w _ uC)).trans uC
          replace uD := (HB.out.cell (World.block_lt_of_cell? w _ uD)).trans uD
          replace uF := (HB.out.cell (World.block_lt_of_cell? w _ uF)).trans uF
          replace uG := (HB.out.cell (World.block_lt_of_cell? w _ uG)).trans uG
          have OH := ae.mk F7
          clear F7 PL
          replace LV := eq_true LV
          replace L9 := eq_true L9
          refine m_ (n := 11) (S := fun w' => w'.cell? ⟨gJ, 0, none⟩ = some (.int .u8 az) ∧ w'.cell? ⟨gJ, 1, none⟩ = some (.int .i64 aC) ∧ w'.cell? ⟨gJ, 2, none⟩ = some (.int .i64 aA) ∧ w'.cell? ⟨gJ, 3, none⟩ = some (.int .i64 aG) ∧ w'.cell? ⟨gJ, 4, none⟩ = some (.int .i64 aT) ∧ w'.cell? ⟨gJ, 5, none⟩ = some (.int .i64 aU) ∧ w'.cell? ⟨gJ, 6, none⟩ = some (.slice (some mV) aj.length bJ) ∧ w'.cell? (uY.add ((df).toNat * 4)) = some (.int .i64 ((fQ mO df).f0)) ∧ w'.cell? ⟨(uY.add ((df).toNat * 4)).block, (uY.add ((df).toNat * 4)).off + 1, none⟩ = some (.int .i64 ((fQ mO df).f1)) ∧ w'.cell? ⟨(uY.add ((df).toNat * 4)).block, (uY.add ((df).toNat * 4)).off + 2, none⟩ = some (.int .i64 ((fQ mO df).f2)) ∧ w'.cell? ⟨(uY.add ((df).toNat * 4)).block, (uY.add ((df).toNat * 4)).off + 3, none⟩ = some (.int .i64 ((fQ mO df).f3)) ∧ w'.cell? (mV.add ((df).toNat * 7)) = some (.int .u8 ((au aj df).f0)) ∧ w'.cell? ⟨(mV.add ((df).toNat * 7)).block, (mV.add ((df).toNat * 7)).off + 1, none⟩ = some (.int .i64 ((au aj df).f1.f0)) ∧ w'.cell? ⟨(mV.add ((df).toNat * 7)).block, (mV.add ((df).toNat * 7)).off + 2, none⟩ = some (.int .i64 ((au aj df).f1.f1)) ∧ w'.cell? ⟨(mV.add ((df).toNat * 7)).block, (mV.add ((df).toNat * 7)).off + 3, none⟩ = some (.int .i64 ((au aj df).f1.f2)) ∧ w'.cell? ⟨(mV.add ((df).toNat * 7)).block, (mV.add ((df).toNat * 7)).off + 4, none⟩ = some (.int .i64 ((au aj df).f1.f3)) ∧ w'.cell? ⟨(mV.add ((df).toNat * 7)).block, (mV.add ((df).toNat * 7)).off + 5, none⟩ = some (.int .i64 ((au aj df).f2)) ∧ w'.cell? ⟨(mV.add ((df).toNat * 7)).block, (mV.add ((df).toNat * 7)).off + 6, none⟩ = some (.slice SG ((au aj df).f3).length TI)) (ds := []) #[false, false, false, false, false, false, false, false, false, false, false] (by kernel_rfl) rfl rfl ⟨(af bK.out 0).trans rfl, (af bK.out 1).trans rfl, (af bK.out 2).trans rfl, (af bK.out 3).trans rfl, (af bK.out 4).trans rfl, (af bK.out 5).trans rfl, (af bK.out 6).trans rfl, Gp, Gq, Gs, Gt, ((HB.out.cell (World.block_lt_of_cell? w _ F_)).trans F_), ((HB.out.cell (World.block_lt_of_cell? w _ Gf)).trans Gf), ((HB.out.cell (World.block_lt_of_cell? w _ Gg)).trans Gg), ((HB.out.cell (World.block_lt_of_cell? w _ Gh)).trans Gh), ((HB.out.cell (World.block_lt_of_cell? w _ Gi)).trans Gi), ((HB.out.cell (World.block_lt_of_cell? w _ Gj)).trans Gj), ((HB.out.cell (World.block_lt_of_cell? w _ Gl)).trans Gl)⟩ (fun hHeld => ?_); refine jr bP.ZI bP.RN (fun aW gX => ?_)
          generalize wr.drew = BV at qX iy bK HB OH Gp Gq Gs Gt uz uA uB uC uD uF uG hHeld ⊢
          refine eG (i := 0) (N := some 32) (v := ?_) (a' := ?_) #[true, false, false, false, false, false, false, false, false, false, false] rfl rfl (dO aW.out (by kernel_rfl)) (fun _ _ _ h => h) (Or.inl ⟨by rfl, ?_⟩) ?_ ?_
          rotate_left
          ·intro w'
           go_simp
           with_reducible rfl
          rotate_left
          ·simp only [Act.put, List.setIfInBounds_toArray, List.set_cons_zero, List.set_cons_succ, cO, b_]
           rfl
          refine eG (i := 1) (N := some 33) (v := ?_) (a' := ?_) #[true, true, false, false, false, false, false, false, false, false, false] rfl rfl (dO aW.out (by kernel_rfl)) (fun _ _ _ h => h) (Or.inl ⟨by rfl, ?_⟩) ?_ ?_
          rotate_left
          ·intro w'
           go_simp
           with_reducible rfl
          rotate_left
          ·simp only [Act.put, List.setIfInBounds_toArray, List.set_cons_zero, List.set_cons_succ, cO, b_]
           rfl
          refine eG (i := 2) (N := some 34) (v := ?_) (a' := ?_) #[true, true, true, false, false, false, false, false, false, false, false] rfl rfl (dO aW.out (by kernel_rfl)) (fun _ _ _ h => h) (Or.inl ⟨by rfl, ?_⟩) ?_ ?_
          rotate_left
          ·intro w'
           go_simp
           with_reducible rfl
          rotate_left
          ·simp only [Act.put, List.setIfInBounds_toArray, List.set_cons_zero, List.set_cons_succ, cO, b_]
           rfl
          refine eG (i := 4) (N := some 36) (v := ?_) (a' := ?_) #[true, true, true, false, true, false, false, false, false, false, false] rfl rfl (dO aW.out (by kernel_rfl)) (fun _ _ _ h => h) (Or.inl ⟨by rfl, ?_⟩) ?_ ?_
          rotate_left
          ·intro w'
           go_simp
           with_reducible rfl
          rotate_left
          ·simp only [Act.put, List.setIfInBounds_toArray, List.set_cons_zero, List.set_cons_succ, cO, b_]
           rfl
          refine eG (i := 6) (N := some 38) (v := ?_) (a' := ?_) #[true, true, true, false, true, false, true, false, false, false, false] rfl rfl (dO aW.out (by kernel_rfl)) (fun _ _ _ h => h) (Or.inl ⟨by rfl, ?_⟩) ?_ ?_
          rotate_left
          ·intro w'
           go_simp
           with_reducible rfl
          rotate_left
          ·simp only [Act.put, List.setIfInBounds_toArray, List.set_cons_zero, List.set_cons_succ, cO, b_]
           rfl
          refine mF (i := 3) (N := some 35) (v := ?_) (a' := ?_) #[true, true, true, true, true, false, true, false, false, false, false] rfl rfl (jd aW.out gX.out (by kernel_rfl)) (fun _ _ _ h => h) (Or.inl ⟨by rfl, ?_⟩) hHeld ?_ ?_
          rotate_left
          ·rintro w' ⟨s0, s1, s2, s3, s4, s5, s6, s7, s8, s9, s10, s11, s12, s13, s14, s15, s16, s17⟩
           go_simp
           with_reducible rfl
          rotate_left
          ·simp only [Act.put, List.setIfInBounds_toArray, List.set_cons_zero, List.set_cons_succ, cO, b_]
           rfl
          refine mF (i := 5) (N := some 37) (v := ?_) (a' := ?_) #[true, true, true, true, true, true, true, false, false, false, false] rfl rfl (jd aW.out gX.out (by kernel_rfl)) (fun _ _ _ h => h) (Or.inl ⟨by rfl, ?_⟩) hHeld ?_ ?_
          rotate_left
          ·rintro w' ⟨s0, s1, s2, s3, s4, s5, s6, s7, s8, s9, s10, s11, s12, s13, s14, s15, s16, s17⟩
           go_simp
           with_reducible rfl
          rotate_left
          ·simp only [Act.put, List.setIfInBounds_toArray, List.set_cons_zero, List.set_cons_succ, cO, b_]
           rfl
          refine eG (i := 7) (N := some 39) (v := ?_) (a' := ?_) #[true, true, true, true, true, true, true, true, false, false, false] rfl rfl (dO aW.out (by kernel_rfl)) (fun _ _ _ h => h) (Or.inl ⟨by rfl, ?_⟩) ?_ ?_
          rotate_left
          ·intro w'
           go_simp
           with_reducible rfl
          rotate_left
          ·simp only [Act.put, List.setIfInBounds_toArray, List.set_cons_zero, List.set_cons_succ, cO, b_]
           rfl
          refine eG (i := 8) (N := some 40) (v := ?_) (a' := ?_) #[true, true, true, true, true, true, true, true, true, false, false] rfl rfl (dO aW.out (by kernel_rfl)) (fun _ _ _ h => h) (Or.inl ⟨by rfl, ?_⟩) ?_ ?_
          rotate_left
          ·intro w'
           go_simp
           with_reducible rfl
          rotate_left
          ·simp only [Act.put, List.setIfInBounds_toArray, List.set_cons_zero, List.set_cons_succ, cO, b_]
           rfl
          refine mF (i := 9) (N := some 41) (v := ?_) (a' := ?_) #[true, true, true, true, true, true, true, true, true, true, false] rfl rfl (jd aW.out gX.out (by kernel_rfl)) (fun _ _ _ h => h) (Or.inl ⟨by rfl, ?_⟩) hHeld ?_ ?_
          rotate_left
          ·rintro w' ⟨s0, s1, s2, s3, s4, s5, s6, s7, s8, s9, s10, s11, s12, s13, s14, s15, s16, s17⟩
           go_simp
           with_reducible rfl
          rotate_left
          ·simp only [Act.put, List.setIfInBounds_toArray, List.set_cons_zero, List.set_cons_succ, cO, b_]
           rfl
          refine eG (i := 10) (N := some 42) (v := ?_) (a' := ?_) #[true, true, true, true, true, true, true, true, true, true, true] rfl rfl (dO aW.out (by kernel_rfl)) (fun _ _ _ h => h) (Or.inl ⟨by rfl, ?_⟩) ?_ ?_
          rotate_left
          ·intro w'
           go_simp
           with_reducible rfl
          rotate_left
          ·simp only [Act.put, List.setIfInBounds_toArray, List.set_cons_zero, List.set_cons_succ, cO, b_]
           rfl
          refine oV (lh aW.out (by kernel_rfl)) ?_
          try go_wp2
          go_roundg k1
          case measure => have := jI.out; omega
          case rel => exact ⟨(wrap64 (df + 1)), (by rfl), H', ⟨by have := jI.out; omega⟩, ⟨by exact qX.out⟩, ⟨by exact iy.out⟩, ⟨by exact bK.out⟩, ⟨by repeat ((with_reducible exact HB.out))⟩⟩
        ·rw [if_neg c20] at H
         exact absurd H (by simp)
       ·rw [if_neg c19] at H
        exact absurd H (by simp)
      ·rw [if_neg c18] at H
       exact absurd H (by simp)
     ·rw [if_neg c17] at H
      have RY : decide (df < (mO.length : Int)) = false := decide_eq_false c17
      clear c17
      simp only [Option.some.injEq, Prod.mk.injEq] at H
      obtain ⟨rfl, rfl⟩ := H
      go_wp2
      go_ret2
      exact ⟨_, by rfl, by exact Kd.iT iy.out (fun _ hk => hk.1), by repeat ((with_reducible exact HB.out))⟩
  ·replace c9 := Bool.eq_false_iff.mpr c9
   subst c9
   have H1 : (some (Jz, false)) = some (r1, r2) := by rw [if_neg (show ¬ (false = true) by decide)] at H; exact H
   clear H
   have H := H1
   clear H1
   simp only [Option.some.injEq, Prod.mk.injEq] at H
   obtain ⟨rfl, rfl⟩ := H
   go_enter Try.func178, Try.ntmps178
   try go_wp2_with (((with_reducible refine aQ (N := 1) rfl ?_); refine aX ?hg (N := 1) ?hd (cs := #[.int .u8 az, .int .i64 aC, .int .i64 aA, .int .i64 aG, .int .i64 aT, .int .i64 aU, .slice bT aj.length bJ]) (t := 26) ?hr ?_; (case hd => rfl); (case hg => rfl); (case hr => (go_simp; done)); intro gJ hg BJ hbox hb; have bK := ae.mk (hbox); replace HB := ae.mk (aH (by repeat ((with_reducible exact HB.out))) hb); clear hb hbox hg; have apZ : BJ.cell? ⟨gJ, 0, none⟩ = some (.int .u8 az) := (af bK.out 0).trans rfl; have ap0 : BJ.cell? ⟨gJ, 1, none⟩ = some (.int .i64 aC) := (af bK.out 1).trans rfl; have ap1 : BJ.cell? ⟨gJ, 2, none⟩ = some (.int .i64 aA) := (af bK.out 2).trans rfl; have ap2 : BJ.cell? ⟨gJ, 3, none⟩ = some (.int .i64 aG) := (af bK.out 3).trans rfl; have ap3 : BJ.cell? ⟨gJ, 4, none⟩ = some (.int .i64 aT) := (af bK.out 4).trans rfl; have ap4 : BJ.cell? ⟨gJ, 5, none⟩ = some (.int .i64 aU) := (af bK.out 5).trans rfl; have ap5 : BJ.cell? ⟨gJ, 6, none⟩ = some (.slice bT aj.length bJ) := (af bK.out 6).trans rfl; have ara := ag bK.out 0; have arb := ag bK.out 1; have arc := ag bK.out 2; have ard := ag bK.out 3; have arf := ag bK.out 4; have arh := ag bK.out 5; have ari := ag bK.out 6))
   replace bK := ae.mk (tZ bK.out); replace HB := ae.mk (qP HB.out)
   refine m_ (n := 15) (S := fun w' => w'.cell? ⟨gJ, 0, none⟩ = some (.int .u8 az) ∧ w'.cell? ⟨gJ, 1, none⟩ = some (.int .i64 aC) ∧ w'.cell? ⟨gJ, 2, none⟩ = some (.int .i64 aA) ∧ w'.cell? ⟨gJ, 3, none⟩ = some (.int .i64 aG) ∧ w'.cell? ⟨gJ, 4, none⟩ = some (.int .i64 aT) ∧ w'.cell? ⟨gJ, 5, none⟩ = some (.int .i64 aU) ∧ w'.cell? ⟨gJ, 6, none⟩ = some (.slice bT aj.length bJ)) (ds := []) #[false, false, false, false, false, false, false, false, false, false, false, false, false, false, false] (by kernel_rfl) rfl rfl ⟨(af bK.out 0).trans rfl, (af bK.out 1).trans rfl, (af bK.out 2).trans rfl, (af bK.out 3).trans rfl, (af bK.out 4).trans rfl, (af bK.out 5).trans rfl, (af bK.out 6).trans rfl⟩ (fun hHeld => ?_); refine jr bP.JC bP.Eu (fun aW gX => ?_)
   generalize BJ.drew = w28 at bK HB hHeld ⊢
   refine eG (i := 0) (N := some 13) (v := ?_) (a' := ?_) #[true, false, false, false, false, false, false, false, false, false, false, false, false, false, false] rfl rfl (dO aW.out (by kernel_rfl)) (fun _ _ _ h => h) (Or.inl ⟨by rfl, ?_⟩) ?_ ?_
   rotate_left
   ·intro w'
    go_simp
    with_reducible rfl
   rotate_left
   ·simp only [Act.put, List.setIfInBounds_toArray, List.set_cons_zero, List.set_cons_succ, cO, b_]
    rfl
   refine eG (i := 2) (N := some 15) (v := ?_) (a' := ?_) #[true, false, true, false, false, false, false, false, false, false, false, false, false, false, false] rfl rfl (dO aW.out (by kernel_rfl)) (fun _ _ _ h => h) (Or.inl ⟨by rfl, ?_⟩) ?_ ?_
   rotate_left
   ·intro w'
    go_simp
    with_reducible rfl
   rotate_left
   ·simp only [Act.put, List.setIfInBounds_toArray, List.set_cons_zero, List.set_cons_succ, cO, b_]
    rfl
   refine mF (i := 1) (N := some 14) (v := ?_) (a' := ?_) #[true, true, true, false, false, false, false, false, false, false, false, false, false, false, false] rfl rfl (jd aW.out gX.out (by kernel_rfl)) (fun _ _ _ h => h) (Or.inl ⟨by rfl, ?_⟩) hHeld ?_ ?_
   rotate_left
   ·rintro w' ⟨s0, s1, s2, s3, s4, s5, s6⟩
    go_simp
    with_reducible rfl
   rotate_left
   ·simp only [Act.put, List.setIfInBounds_toArray, List.set_cons_zero, List.set_cons_succ, cO, b_]
    rfl
   refine mF (i := 3) (N := some 16) (v := ?_) (a' := ?_) #[true, true, true, true, false, false, false, false, false, false, false, false, false, false, false] rfl rfl (jd aW.out gX.out (by kernel_rfl)) (fun _ _ _ h => h) (Or.inl ⟨by rfl, ?_⟩) hHeld ?_ ?_
   rotate_left
   ·rintro w' ⟨s0, s1, s2, s3, s4, s5, s6⟩
    go_simp
    with_reducible rfl
   rotate_left
   ·simp only [Act.put, List.setIfInBounds_toArray, List.set_cons_zero, List.set_cons_succ, cO, b_]
    rfl
   refine eG (i := 4) (N := some 17) (v := ?_) (a' := ?_) #[true, true, true, true, true, false, false, false, false, false, false, false, false, false, false] rfl rfl (dO aW.out (by kernel_rfl)) (fun _ _ _ h => h) (Or.inl ⟨by rfl, ?_⟩) ?_ ?_
   rotate_left
   ·intro w'
    go_simp
    with_reducible rfl
   rotate_left
   ·simp only [Act.put, List.setIfInBounds_toArray, List.set_cons_zero, List.set_cons_succ, cO, b_]
    rfl
   refine mF (i := 5) (N := some 18) (v := ?_) (a' := ?_) #[true, true, true, true, true, true, false, false, false, false, false, false, false, false, false] rfl rfl (jd aW.out gX.out (by kernel_rfl)) (fun _ _ _ h => h) (Or.inl ⟨by rfl, ?_⟩) hHeld ?_ ?_
   rotate_left
   ·rintro w' ⟨s0, s1, s2, s3, s4, s5, s6⟩
    go_simp
    with_reducible rfl
   rotate_left
   ·simp only [Act.put, List.setIfInBounds_toArray, List.set_cons_zero, List.set_cons_succ, cO, b_]
    rfl
   refine jY (i := 6) (N := some 19) #[true, true, true, true, true, true, true, false, false, false, false, false, false, false, false] rfl rfl (eX aW.out (by kernel_rfl)) (by decide) (fun K hK => ?_)
   refine jc Try.func194 (by kernel_rfl) rfl #[.agg #[.int .u8 az, .int .i64 aC, .int .i64 aA, .int .i64 aG, .int .i64 aT, .int .i64 aU, .slice bT aj.length bJ]] (by rfl) rfl rfl (by (try simp only [List.map_toArray, List.map_cons, List.map_nil]); rfl) ?_
   with_reducible refine (fC.calls k az aC aA aG aT aU _ _ aj yD _ ?fO ?gG A7.out).mono ?_
   (case fO => repeat (exact (Kd.iP lF.out HB.out)))
   (case gG => exact rM.out)
   rintro e zO ⟨apE, rfl, ho0, hb⟩
   refine ⟨_, rfl, ?_⟩
   have uX := ae.mk (Kd.iQ (Kd.CX (M := fun k_ => (w.heap.size ≤ k_)) ho0 (aY (by repeat ((with_reducible exact HB.out)))) (fun k_ h_ => h_)) (aY (by repeat ((with_reducible exact HB.out))))); replace bK := ae.mk (aK bK.out hb); replace HB := ae.mk (aH (by repeat ((with_reducible exact HB.out))) hb)
   (try clear hb)
   (skip)
   (skip)
   (skip)
   (try clear ho0)
   obtain ⟨X3, YF, acK⟩ := Kd.iJ uX.out
   (subst acK)
   refine hK.out _ _ ⟨(af bK.out 0).trans rfl, (af bK.out 1).trans rfl, (af bK.out 2).trans rfl, (af bK.out 3).trans rfl, (af bK.out 4).trans rfl, (af bK.out 5).trans rfl, (af bK.out 6).trans rfl⟩ (fun hHeld => ?_)
   clear hK K
   refine qi (a' := ?_) ?_ ?_
   rotate_left
   ·show Act.put _ (some 19) _ = _
    simp only [Act.put, List.setIfInBounds_toArray, List.set_cons_zero, List.set_cons_succ, cO, b_]
    rfl
   refine jY (i := 7) (N := some 20) #[true, true, true, true, true, true, true, true, false, false, false, false, false, false, false] rfl rfl (eX aW.out (by kernel_rfl)) (by decide) (fun K hK => ?_)
   refine jc Try.func46 (by kernel_rfl) rfl #[.agg #[.int .i64 aC, .int .i64 aA, .int .i64 aG, .int .i64 aT], .int .u8 ((az - 1) % 256), .slice X3 yD.length YF] (by rfl) rfl rfl (by (try simp only [List.map_toArray, List.map_cons, List.map_nil]); rfl) ?_
   with_reducible refine (aJ.calls k aC aA aG aT ((az - 1) % 256) _ _ yD mO Jz false _ ?fO ?gG A8.out).mono ?_
   (case fO => repeat (exact (Kd.dH uX.out).2.2))
   (case gG => exact (Kd.dH uX.out).2.1)
   rintro e w31 ⟨apF, alq, rfl, ho0, ho1, hb⟩
   refine ⟨_, rfl, ?_⟩
   have Yb := ae.mk (Kd.CE (Kd.iT (ok' := fun k_ => (w.heap.size ≤ k_) ∧ some k_ ≠ (.slice X3 yD.length YF : Value).ownBlock ∧ k_ ≠ gJ) ho0 (fun k_ qh => ⟨(Nat.le_trans (aY (by repeat ((with_reducible exact HB.out)))) qh), (Kd.fresh' (Kd.lX uX.out) k_ qh), (Kd.jM bK.out k_ qh)⟩)) (aY (by repeat ((with_reducible exact HB.out))))); have Yc := ae.mk (Kd.CE (Kd.iT (ok' := fun k_ => (w.heap.size ≤ k_) ∧ some k_ ≠ (.slice X3 yD.length YF : Value).ownBlock ∧ k_ ≠ gJ) ho1 (fun k_ qh => ⟨(Nat.le_trans (aY (by repeat ((with_reducible exact HB.out)))) qh), (Kd.fresh' (Kd.lX uX.out) k_ qh), (Kd.jM bK.out k_ qh)⟩)) (aY (by repeat ((with_reducible exact HB.out))))); replace uX := ae.mk (Kd.fJ uX.out hb); replace bK := ae.mk (aK bK.out hb); replace HB := ae.mk (aH (by repeat ((with_reducible exact HB.out))) hb)
   (try clear hb)
   (skip)
   (skip)
   (skip)
   (try clear ho0)
   (try clear ho1)
   refine hK.out _ _ ⟨(af bK.out 0).trans rfl, (af bK.out 1).trans rfl, (af bK.out 2).trans rfl, (af bK.out 3).trans rfl, (af bK.out 4).trans rfl, (af bK.out 5).trans rfl, (af bK.out 6).trans rfl⟩ (fun hHeld => ?_)
   clear hK K
   refine qi (a' := ?_) ?_ ?_
   rotate_left
   ·show Act.put _ (some 20) _ = _
    simp only [Act.put, List.setIfInBounds_toArray, List.set_cons_zero, List.set_cons_succ, cO, b_]
    rfl
   refine eG (i := 8) (N := some 12) (v := ?_) (a' := ?_) #[true, true, true, true, true, true, true, true, true, false, false, false, false, false, false] rfl rfl (dO aW.out (by kernel_rfl)) (fun _ _ _ h => h) (Or.inl ⟨by rfl, ?_⟩) ?_ ?_
   rotate_left
   ·intro w'
    go_simp
    with_reducible rfl
   rotate_left
   ·simp only [Act.put, List.setIfInBounds_toArray, List.set_cons_zero, List.set_cons_succ, cO, b_]
    rfl
   refine eG (i := 9) (N := some 21) (v := ?_) (a' := ?_) #[true, true, true, true, true, true, true, true, true, true, false, false, false, false, false] rfl rfl (dO aW.out (by kernel_rfl)) (fun _ _ _ h => h) (Or.inl ⟨by rfl, ?_⟩) ?_ ?_
   rotate_left
   ·intro w'
    go_simp
    with_reducible rfl
   rotate_left
   ·simp only [Act.put, List.setIfInBounds_toArray, List.set_cons_zero, List.set_cons_succ, cO, b_]
    rfl
   refine eG (i := 10) (N := some 22) (v := ?_) (a' := ?_) #[true, true, true, true, true, true, true, true, true, true, true, false, false, false, false] rfl rfl (dO aW.out (by kernel_rfl)) (fun _ _ _ h => h) (Or.inl ⟨by rfl, ?_⟩) ?_ ?_
   rotate_left
   ·intro w'
    go_simp
    with_reducible rfl
   rotate_left
   ·simp only [Act.put, List.setIfInBounds_toArray, List.set_cons_zero, List.set_cons_succ, cO, b_]
    rfl
   refine eG (i := 11) (N := some 23) (v := ?_) (a' := ?_) #[true, true, true, true, true, true, true, true, true, true, true, true, false, false, false] rfl rfl (dO aW.out (by kernel_rfl)) (fun _ _ _ h => h) (Or.inl ⟨by rfl, ?_⟩) ?_ ?_
   rotate_left
   ·intro w'
    go_simp
    with_reducible rfl
   rotate_left
   ·simp only [Act.put, List.setIfInBounds_toArray, List.set_cons_zero, List.set_cons_succ, cO, b_]
    rfl
   refine eG (i := 12) (N := some 4) (v := ?_) (a' := ?_) #[true, true, true, true, true, true, true, true, true, true, true, true, true, false, false] rfl rfl (dO aW.out (by kernel_rfl)) (fun _ _ _ h => h) (Or.inl ⟨by rfl, ?_⟩) ?_ ?_
   rotate_left
   ·intro w'
    go_simp
    with_reducible rfl
   rotate_left
   ·simp only [Act.put, List.setIfInBounds_toArray, List.set_cons_zero, List.set_cons_succ, cO, b_]
    rfl
   refine eG (i := 13) (N := some 5) (v := ?_) (a' := ?_) #[true, true, true, true, true, true, true, true, true, true, true, true, true, true, false] rfl rfl (dO aW.out (by kernel_rfl)) (fun _ _ _ h => h) (Or.inl ⟨by rfl, ?_⟩) ?_ ?_
   rotate_left
   ·intro w'
    go_simp
    with_reducible rfl
   rotate_left
   ·simp only [Act.put, List.setIfInBounds_toArray, List.set_cons_zero, List.set_cons_succ, cO, b_]
    rfl
   refine eG (i := 14) (N := some 6) (v := ?_) (a' := ?_) #[true, true, true, true, true, true, true, true, true, true, true, true, true, true, true] rfl rfl (dO aW.out (by kernel_rfl)) (fun _ _ _ h => h) (Or.inl ⟨by rfl, ?_⟩) ?_ ?_
   rotate_left
   ·intro w'
    go_simp
    with_reducible rfl
   rotate_left
   ·simp only [Act.put, List.setIfInBounds_toArray, List.set_cons_zero, List.set_cons_succ, cO, b_]
    rfl
   refine oV (lh aW.out (by kernel_rfl)) ?_
   try go_wp2
   go_ret2
   exact ⟨_, by rfl, by exact Kd.iT Yc.out (fun _ hk => hk.1), by repeat ((with_reducible exact HB.out))⟩
end Go.Proofs.Ytfdmfgaiblfbhaa.P
namespace Go.Proofs.Ytfdmfgaiblfbhaa.P
open Go.RowKit Go.Proofs.ai.bg Go.Proofs.ai.di Go.Proofs.ai.dG
attribute [local go_sem] kD kF lN lQ jF jG kE kG
def dI.l0 : Nat → List (bC) → List (aI) → List (bC) → Int → Int → Option ((List (bC)) × Int × Int)
 | 0, _, _, _, _, _ => none
 | k + 1, x5, x6, x7, x20, zN => if zN < x20 then (if 0 ≤ zN then (if zN < (x6.length : Int) then ((bP.f k ((au x6 zN).f0) ((au x6 zN).f1.f0) ((au x6 zN).f1.f1) ((au x6 zN).f1.f2) ((au x6 zN).f1.f3) ((au x6 zN).f2) ((au x6 zN).f3)).bind fun Yq => (if Yq.2 = true then (if x7.length + Yq.1.length < 4398046511104 then (dI.l0 k x5 x6 (x7 ++ Yq.1) x20 (wrap64 (zN + 1))) else (none)) else (some (x5, 5, zN)))) else (none)) else (none)) else (some (x7, 0, 0))
def dI.f (k : Nat) (az : Int) (aC : Int) (aA : Int) (aG : Int) (aT : Int) (aU : Int) (aj : List (aI)) : Option ((List (bC)) × Int × Int) := (some (([] : List (bC)) : List (bC))).bind fun uh => ((lJ.f k az aC aA aG aT aU aj).bind fun JA => (if JA = true then ((dM.f k az aC aA aG aT aU aj).bind fun iE => (dI.l0 k uh iE (([] : List (bC))) (iE.length : Int) 0)) else (some (uh, 1, 0))))
theorem dI.calls (k : Nat) (az : Int) (aC : Int) (aA : Int) (aG : Int) (aT : Int) (aU : Int) (bT : Option Addr) (bJ : Nat) (aj : List (aI)) (r1 : List (bC)) (r2 : Int) (r3 : Int) (w : World) (kJ : Kd.C k26 w bT aj.length aj) (lq : aj.length ≤ bJ) (h : dI.f k az aC aA aG aT aU aj = some (r1, r2, r3)) :
  Calls Try.prog 146 #[.agg #[.int .u8 az, .int .i64 aC, .int .i64 aA, .int .i64 aG, .int .i64 aT, .int .i64 aU, .slice bT aj.length bJ]] w fun e w' => ∃ ng : Value, e = .returned (.tuple #[ng, .int .i64 r2, .int .i64 r3]) ∧ Kd.R k23 23 w' w.heap.size (fun _ => True) ng r1 ∧ Below w.heap.size w w' := by
 have Ae := Try.underlying26
 have lF := ae.mk kJ
 have rM := ae.mk lq
 clear kJ lq
 have HB := ae.mk (Below.refl w.heap.size w)
 have H : ((some (([] : List (bC)) : List (bC))).bind fun uh => ((lJ.f k az aC aA aG aT aU aj).bind fun JA => (if JA = true then ((dM.f k az aC aA aG aT aU aj).bind fun iE => (dI.l0 k uh iE (([] : List (bC))) (iE.length : Int) 0)) else (some (uh, 1, 0))))) = some (r1, r2, r3) := h
 clear h
 obtain ⟨uh, Zi⟩ : ∃ y_ : List (bC), y_ = (([] : List (bC))) := ⟨_, rfl⟩
 replace H : ((lJ.f k az aC aA aG aT aU aj).bind fun JA => (if JA = true then ((dM.f k az aC aA aG aT aU aj).bind fun iE => (dI.l0 k uh iE (([] : List (bC))) (iE.length : Int) 0)) else (some (uh, 1, 0)))) = some (r1, r2, r3) := by (have Z4 := (Option.bind_some _ _).symm.trans H; rw [Zi]; with_reducible exact Z4)
 have aeE := ae.mk Zi
 clear Zi
 replace H := Option.bind_eq_some_iff.mp H
 obtain ⟨JA, BU, H⟩ := H
 replace H : (if JA = true then ((dM.f k az aC aA aG aT aU aj).bind fun iE => (dI.l0 k uh iE (([] : List (bC))) (iE.length : Int) 0)) else (some (uh, 1, 0))) = some (r1, r2, r3) := H
 have A2 := ae.mk BU
 clear BU
 by_cases c3 : JA = true
 ·subst c3
  have H1 : ((dM.f k az aC aA aG aT aU aj).bind fun iE => (dI.l0 k uh iE (([] : List (bC))) (iE.length : Int) 0)) = some (r1, r2, r3) := by rw [if_pos rfl] at H; exact H
  clear H
  have H := H1
  clear H1
  replace H := Option.bind_eq_some_iff.mp H
  obtain ⟨iE, ZU, H⟩ := H
  replace H : (dI.l0 k uh iE (([] : List (bC))) (iE.length : Int) 0) = some (r1, r2, r3) := H
  have A4 := ae.mk ZU
  clear ZU
  obtain ⟨alO, Zj⟩ : ∃ y_ : List (bC), y_ = (([] : List (bC))) := ⟨_, rfl⟩
  replace H : (dI.l0 k uh iE alO (iE.length : Int) 0) = some (r1, r2, r3) := by (rw [Zj]; with_reducible exact H)
  have amR := ae.mk Zj
  clear Zj
  have H' := ae.mk H
  clear H
  go_enter Try.func146, Try.ntmps146
  go_wp2_with (first | ((with_reducible refine aQ (N := 1) rfl ?_); refine aX ?hg (N := 1) ?hd (cs := #[.int .u8 az, .int .i64 aC, .int .i64 aA, .int .i64 aG, .int .i64 aT, .int .i64 aU, .slice bT aj.length bJ]) (t := 26) ?hr ?_; (case hd => rfl); (case hg => rfl); (case hr => (go_simp; done)); intro l_ hg w5 hbox hb; have fH := ae.mk (hbox); have aet := ae.mk ((by rw [hg]; exact (aY (by repeat ((with_reducible exact HB.out)))) : w.heap.size ≤ l_)); replace HB := ae.mk (aH (by repeat ((with_reducible exact HB.out))) hb); clear hb hbox hg) | ((with_reducible refine aQ (N := 11) rfl ?_); refine Kd.o8 k23 _ 23 ?hg (N := 11) ?hd (xs := ([] : List (bC))) (inner := []) (ok := fun _ => True) (iO := fun _ => True) ?hr ?hp (fun _ hk => hk) trivial (Below.refl _ _) (Nat.le_refl _) (by simp) ?_; (case hd => rfl); (case hg => rfl); (case hr => (go_simp; done)); (case hp => exact (dB.none _ _)); intro E8 w6 UH hb kW gK; clear kW gK; (rw [← aeE.out] at UH); have wC := ae.mk (Kd.iQ UH (aY (by repeat ((with_reducible exact HB.out))))); replace fH := ae.mk (aK fH.out hb); replace HB := ae.mk (aH (by repeat ((with_reducible exact HB.out))) hb); clear hb UH; have NU : w6.cell? ⟨l_, 0, none⟩ = some (.int .u8 az) := (af fH.out 0).trans rfl; have NV : w6.cell? ⟨l_, 1, none⟩ = some (.int .i64 aC) := (af fH.out 1).trans rfl; have NW : w6.cell? ⟨l_, 2, none⟩ = some (.int .i64 aA) := (af fH.out 2).trans rfl; have NY : w6.cell? ⟨l_, 3, none⟩ = some (.int .i64 aG) := (af fH.out 3).trans rfl; have aku : w6.cell? ⟨l_, 4, none⟩ = some (.int .i64 aT) := (af fH.out 4).trans rfl; have akv : w6.cell? ⟨l_, 5, none⟩ = some (.int .i64 aU) := (af fH.out 5).trans rfl; have akw : w6.cell? ⟨l_, 6, none⟩ = some (.slice bT aj.length bJ) := (af fH.out 6).trans rfl; have N9 := ag fH.out 0; have N_ := ag fH.out 1; have Oa := ag fH.out 2; have Ob := ag fH.out 3; have aky := ag fH.out 4; have akz := ag fH.out 5; have akA := ag fH.out 6) | ((with_reducible refine dn (f := 38) rfl ?_); refine gu (some 13) rfl rfl Try.func38 (by kernel_rfl) rfl #[.agg #[.int .u8 az, .int .i64 aC, .int .i64 aA, .int .i64 aG, .int .i64 aT, .int .i64 aU, .slice bT aj.length bJ]] rfl (by (try simp only [List.map_toArray, List.map_cons, List.map_nil]); rfl) ?_; (with_reducible refine (lJ.calls k az aC aA aG aT aU _ _ aj true _ ?fO ?gG A2.out).mono ?_); (case fO => repeat (exact (Kd.iP lF.out HB.out))); (case gG => exact rM.out); rintro e w9 ⟨rfl, hb⟩; refine ⟨_, rfl, ?_⟩; replace wC := ae.mk (Kd.fJ wC.out hb); replace fH := ae.mk (aK fH.out hb); replace HB := ae.mk (aH (by repeat ((with_reducible exact HB.out))) hb); (try clear hb); have JU : w9.cell? ⟨l_, 0, none⟩ = some (.int .u8 az) := (af fH.out 0).trans rfl; have JV : w9.cell? ⟨l_, 1, none⟩ = some (.int .i64 aC) := (af fH.out 1).trans rfl; have JW : w9.cell? ⟨l_, 2, none⟩ = some (.int .i64 aA) := (af fH.out 2).trans rfl; have JX : w9.cell? ⟨l_, 3, none⟩ = some (.int .i64 aG) := (af fH.out 3).trans rfl; have V9 : w9.cell? ⟨l_, 4, none⟩ = some (.int .i64 aT) := (af fH.out 4).trans rfl; have V_ : w9.cell? ⟨l_, 5, none⟩ = some (.int .i64 aU) := (af fH.out 5).trans rfl; have We : w9.cell? ⟨l_, 6, none⟩ = some (.slice bT aj.length bJ) := (af fH.out 6).trans rfl; have J5 := ag fH.out 0; have J6 := ag fH.out 1; have J7 := ag fH.out 2; have J8 := ag fH.out 3; have WN := ag fH.out 4; have WO := ag fH.out 5; have WQ := ag fH.out 6) | ((with_reducible refine dn (f := 79) rfl ?_); refine gu (some 17) rfl rfl Try.func79 (by kernel_rfl) rfl #[.agg #[.int .u8 az, .int .i64 aC, .int .i64 aA, .int .i64 aG, .int .i64 aT, .int .i64 aU, .slice bT aj.length bJ]] rfl (by (try simp only [List.map_toArray, List.map_cons, List.map_nil]); rfl) ?_; (with_reducible refine (dM.calls k az aC aA aG aT aU (fun k_ => k_ < w.heap.size) _ _ aj iE _ ?fO A4.out).mono ?_); (case fO => exact Kd.C9 rM.out (Kd.OD (Kd.QV wX lF.out) (by repeat ((with_reducible exact HB.out))))); rintro e D8 ⟨aw1, rfl, ho0, hb⟩; refine ⟨_, rfl, ?_⟩; have RG := ae.mk (Kd.yG (Kd.kV (ok' := fun k_ => some k_ ≠ (E8 : Value).ownBlock ∧ k_ ≠ l_) ho0 (fun k_ qh => ⟨Or.elim qh (fun hs_ => fun e_ => Nat.not_le.2 hs_ (Kd.nT wC.out k_ e_.symm)) (fun Dw => (Kd.fresh' (Kd.lX wC.out) k_ Dw)), Or.elim qh (fun hs_ => fun e_ => Nat.not_le.2 hs_ (by rw [e_]; exact aet.out)) (fun Dw => (Kd.jM fH.out k_ Dw))⟩)) (aY (by repeat ((with_reducible exact HB.out))))); replace wC := ae.mk (Kd.fJ wC.out hb); replace fH := ae.mk (aK fH.out hb); replace HB := ae.mk (aH (by repeat ((with_reducible exact HB.out))) hb); (try clear hb); (try clear ho0)) | ((with_reducible refine aQ (N := 18) rfl ?_); refine Kd.o8 k23 _ 23 ?hg (N := 18) ?hd (xs := ([] : List (bC))) (inner := []) (ok := fun _ => True) (iO := fun _ => True) ?hr ?hp (fun _ hk => hk) trivial (Below.refl _ _) (Nat.le_refl _) (by simp) ?_; (case hd => rfl); (case hg => rfl); (case hr => (go_simp; done)); (case hp => exact (dB.none _ _)); intro aw2 w12 UC hb kW gK; clear kW gK; (rw [← amR.out] at UC); have ame := ae.mk (Kd.iQ (Kd.qG UC (Kd.lX wC.out)) (aY (by repeat ((with_reducible exact HB.out))))); replace wC := ae.mk (Kd.nY wC.out (Kd.nT UC) hb); replace RG := ae.mk (Kd.Le RG.out (Kd.nT UC) hb); replace fH := ae.mk (aK fH.out hb); replace HB := ae.mk (aH (by repeat ((with_reducible exact HB.out))) hb); clear hb UC; obtain ⟨OC, Hf, TR⟩ := Kd.nH RG.out; subst TR))
  go_loopg [7, 21] k (fun kq v7 v21 w' => ∃ (E_ : List (bC)) (iR : Int), v21 = .int .i64 iR ∧ ae (dI.l0 kq uh iE E_ (iE.length : Int) iR = some (r1, r2, r3)) ∧ ae (kq ≤ k) ∧ ae (Kd.R k23 23 w' w.heap.size (fun k_ => some k_ ≠ (v7 : Value).ownBlock) E8 uh) ∧ ae (Kd.N k26 26 w' w.heap.size (fun k_ => some k_ ≠ (E8 : Value).ownBlock ∧ some k_ ≠ (v7 : Value).ownBlock ∧ k_ ≠ l_) (.slice OC iE.length Hf) iE) ∧ ae (Kd.R k23 23 w' w.heap.size (fun k_ => some k_ ≠ (E8 : Value).ownBlock) v7 E_) ∧ ae (w'.heap[l_]? = some (.cells #[.int .u8 az, .int .i64 aC, .int .i64 aA, .int .i64 aG, .int .i64 aT, .int .i64 aU, (.slice bT aj.length bJ)] 26 (0, 0))) ∧ ae (Below w.heap.size w w'))
  case atStart => exact ⟨(alO), (0), (by rfl), H', ⟨Nat.le_refl _⟩, ⟨by exact Kd.cZ wC.out (fun _ hk => hk.2)⟩, ⟨by exact Kd.kV RG.out (fun _ hk => ⟨hk.1.1, ⟨hk.2, hk.1.2⟩⟩)⟩, ⟨by exact Kd.cZ ame.out (fun _ hk => hk.2)⟩, ⟨by exact fH.out⟩, ⟨by repeat ((with_reducible exact HB.out))⟩⟩
  case round =>
   clear H'
   clear JU JV JW JX V9 V_ We NU NV NW NY aku akv akw J5 J6 J7 J8 WN WO WQ N9 N_ Oa Ob aky akz akA
   obtain ⟨E_, iR, rfl, HA, jI, iy, rP, EP, fH, HB⟩ := hrel
   cases gk with
   | zero => exact absurd HA.out (by simp [dI.l0])
   | succ k1 =>
    have H := HA.out
    clear HA
    simp only [dI.l0] at H
    by_cases c15 : iR < (iE.length : Int)
    ·rw [if_pos c15] at H
     have Yu : decide (iR < (iE.length : Int)) = true := decide_eq_true c15
     clear c15
     by_cases c16 : 0 ≤ iR
     ·rw [if_pos c16] at H
      have RX : decide (0 ≤ iR) = true := decide_eq_true c16
      clear c16
      by_cases c17 : iR < (iE.length : Int)
      ·rw [if_pos c17] at H
       have RY : decide (iR < (iE.length : Int)) = true := decide_eq_true c17
       clear c17
       replace H := Option.bind_eq_some_iff.mp H
       obtain ⟨⟨Ia, alm⟩, aiZ, H⟩ := H
       replace H : (if alm = true then (if E_.length + Ia.length < 4398046511104 then (dI.l0 k1 uh iE (E_ ++ Ia) (iE.length : Int) (wrap64 (iR + 1))) else (none)) else (some (uh, 5, iR))) = some (r1, r2, r3) := H
       have A18 := ae.mk aiZ
       clear aiZ
       by_cases c19 : alm = true
       ·subst c19
        have H1 : (if E_.length + Ia.length < 4398046511104 then (dI.l0 k1 uh iE (E_ ++ Ia) (iE.length : Int) (wrap64 (iR + 1))) else (none)) = some (r1, r2, r3) := by rw [if_pos rfl] at H; exact H
        clear H
        have H := H1
        clear H1
        by_cases c20 : E_.length + Ia.length < 4398046511104
        ·rw [if_pos c20] at H
         have amj := ae.mk c20
         clear c20
         obtain ⟨alP, Zk⟩ : ∃ y_ : List (bC), y_ = (E_ ++ Ia) := ⟨_, rfl⟩
         replace H : (dI.l0 k1 uh iE alP (iE.length : Int) (wrap64 (iR + 1))) = some (r1, r2, r3) := by (rw [Zk]; with_reducible exact H)
         have amS := ae.mk Zk
         clear Zk
         have H' := ae.mk H
         clear H
         have HY : 0 ≤ (iR : Int) := of_decide_eq_true (by (with_reducible assumption))
         have H7 : iR < (iE.length : Int) := of_decide_eq_true (by (with_reducible assumption))
         obtain ⟨RI, SH, TJ, acD, ahT, ahU, ahV, ahW, ahX, ahY, Qi, F9, F8⟩ := nV (Kd.kY rP.out).2.2 iR HY H7
         cases acD
         obtain ⟨anB, TW, TT, IG⟩ := Kd.M_ rP.out z26 iR HY H7
         obtain ⟨ait, aiv, rfl, GK, FI⟩ := qQ TT
         have xA := IG 6 _ rfl
         rw [mJ _ _ 6 (by omega)] at xA
         replace xA := Option.some.inj (xA.symm.trans Qi)
         injection xA with wV Dx wW
         rw [wV] at FI
         rw [wW] at GK
         clear wV Dx wW FI GK
         clear IG TW
         have zT := ae.mk F8
         have OG := ae.mk F9
         clear F8 F9
         replace HY := eq_true HY
         replace H7 := eq_true H7
         go_wp2_with (first | ((with_reducible refine dn (f := 178) rfl ?_); refine gu (some 29) rfl rfl Try.func178 (by kernel_rfl) rfl #[.agg #[.int .u8 ((au iE iR).f0), .int .i64 ((au iE iR).f1.f0), .int .i64 ((au iE iR).f1.f1), .int .i64 ((au iE iR).f1.f2), .int .i64 ((au iE iR).f1.f3), .int .i64 ((au iE iR).f2), .slice SH ((au iE iR).f3).length TJ]] rfl (by (try simp only [List.map_toArray, List.map_cons, List.map_nil]); rfl) ?_; (with_reducible refine (bP.calls k1 ((au iE iR).f0) ((au iE iR).f1.f0) ((au iE iR).f1.f1) ((au iE iR).f1.f2) ((au iE iR).f1.f3) ((au iE iR).f2) _ _ ((au iE iR).f3) Ia true _ ?fO ?gG A18.out).mono ?_); (case fO => repeat (exact (by repeat ((with_reducible exact zT.out))))); (case gG => exact OG.out); rintro e KX ⟨apG, rfl, ho0, hb⟩; refine ⟨_, rfl, ?_⟩; have MS := ae.mk (Kd.CE (Kd.iT (ok' := fun k_ => some k_ ≠ (E8 : Value).ownBlock ∧ some k_ ≠ (.slice (some RI) iE.length Hf : Value).ownBlock ∧ some k_ ≠ (u7 : Value).ownBlock ∧ k_ ≠ l_) ho0 (fun k_ qh => ⟨(Kd.fresh' (Kd.lX iy.out) k_ qh), (Kd.fresh' (Kd.GR rP.out) k_ qh), (Kd.fresh' (Kd.lX EP.out) k_ qh), (Kd.jM fH.out k_ qh)⟩)) (aY (by repeat ((with_reducible exact HB.out))))); replace iy := ae.mk (Kd.fJ iy.out hb); replace rP := ae.mk (Kd.vO rP.out hb); replace EP := ae.mk (Kd.fJ EP.out hb); replace fH := ae.mk (aK fH.out hb); replace zT := ae.mk (Kd.iP (by repeat ((with_reducible exact zT.out))) hb); replace HB := ae.mk (aH (by repeat ((with_reducible exact HB.out))) hb); (try clear hb); (try clear ho0); obtain ⟨aoD, aoR, acJ⟩ := Kd.VP MS.out; subst acJ) | ((with_reducible refine ji (b := .append) (xs := #[.tmp 36, .tmp 37]) rfl ?_); at_builtin; refine Kd.BL k23 (w0 := w) w.heap.size rfl (.tmp 36) (.tmp 37) 42 23 (.agg #[(.int .i64 0), (.int .i64 0), (.int .i64 0), (.int .i64 0)]) 32 rfl Try.underlying42 info23 rfl (by decide) (by omega) u7 E_ Ia _ _ _ (fun k_ => some k_ ≠ (E8 : Value).ownBlock) (fun _ => False) rfl rfl ?aO ?aR (fun _ _ h => h) (fun _ h => h.elim) ?aF ?aB ?aS ?aL ?_; (case aR => repeat (exact (Kd.oH MS.out).2.2)); (case aB => exact (by repeat ((with_reducible exact HB.out)))); (case aF => exact (fun k_ hk => Kd.fresh' (Kd.lX iy.out) k_ hk)); (case aO => exact EP.out); (case aS => exact (aY (by repeat ((with_reducible exact HB.out))))); (case aL => have := amj.out; omega); intro aw3 w22 ho hb hg hat; rw [← amS.out] at ho; have amf := ae.mk (ho); replace iy := ae.mk (Kd.qy (ok := (fun _ => True)) (by exact Kd.cZ iy.out (fun _ hk => ⟨trivial, hk⟩)) hg hat); replace rP := ae.mk (Kd.Ld (ok := (fun k_ => some k_ ≠ (E8 : Value).ownBlock ∧ k_ ≠ l_)) (by exact Kd.kV rP.out (fun _ hk => ⟨⟨hk.1, hk.2.2⟩, hk.2.1⟩)) hg hat); replace fH := ae.mk (bZ fH.out hg (Kd.zq EP.out fH.out (by decide))); replace MS := ae.mk (Kd.CZ (ok := (fun k_ => some k_ ≠ (E8 : Value).ownBlock ∧ some k_ ≠ (.slice (some RI) iE.length Hf : Value).ownBlock ∧ k_ ≠ l_)) (by exact Kd.iT MS.out (fun _ hk => ⟨⟨hk.1, ⟨hk.2.1, hk.2.2.2⟩⟩, hk.2.2.1⟩)) hg hat); replace HB := ae.mk (hb); clear EP; clear ho hb hg hat))
         go_roundg k1
         case measure => have := jI.out; omega
         case rel => exact ⟨(alP), (wrap64 (iR + 1)), (by rfl), H', ⟨by have := jI.out; omega⟩, ⟨by exact Kd.cZ iy.out (fun _ hk => hk.2)⟩, ⟨by exact Kd.kV rP.out (fun _ hk => ⟨hk.1.1, ⟨hk.2, hk.1.2⟩⟩)⟩, ⟨by exact amf.out⟩, ⟨by exact fH.out⟩, ⟨by repeat ((with_reducible exact HB.out))⟩⟩
        ·rw [if_neg c20] at H
         exact absurd H (by simp)
       ·replace c19 := Bool.eq_false_iff.mpr c19
        subst c19
        have H1 : (some (uh, 5, iR)) = some (r1, r2, r3) := by rw [if_neg (show ¬ (false = true) by decide)] at H; exact H
        clear H
        have H := H1
        clear H1
        simp only [Option.some.injEq, Prod.mk.injEq] at H
        obtain ⟨rfl, rfl, rfl⟩ := H
        have HY : 0 ≤ (iR : Int) := of_decide_eq_true (by (with_reducible assumption))
        have H7 : iR < (iE.length : Int) := of_decide_eq_true (by (with_reducible assumption))
        obtain ⟨RI, SH, TJ, acD, ahT, ahU, ahV, ahW, ahX, ahY, Qi, F9, F8⟩ := nV (Kd.kY rP.out).2.2 iR HY H7
        cases acD
        obtain ⟨anB, TW, TT, IG⟩ := Kd.M_ rP.out z26 iR HY H7
        obtain ⟨ait, aiv, rfl, GK, FI⟩ := qQ TT
        have xA := IG 6 _ rfl
        rw [mJ _ _ 6 (by omega)] at xA
        replace xA := Option.some.inj (xA.symm.trans Qi)
        injection xA with wV Dx wW
        rw [wV] at FI
        rw [wW] at GK
        clear wV Dx wW FI GK
        clear IG TW
        have zT := ae.mk F8
        have OG := ae.mk F9
        clear F8 F9
        replace HY := eq_true HY
        replace H7 := eq_true H7
        go_wp2_with (((with_reducible refine dn (f := 178) rfl ?_); refine gu (some 29) rfl rfl Try.func178 (by kernel_rfl) rfl #[.agg #[.int .u8 ((au iE iR).f0), .int .i64 ((au iE iR).f1.f0), .int .i64 ((au iE iR).f1.f1), .int .i64 ((au iE iR).f1.f2), .int .i64 ((au iE iR).f1.f3), .int .i64 ((au iE iR).f2), .slice SH ((au iE iR).f3).length TJ]] rfl (by (try simp only [List.map_toArray, List.map_cons, List.map_nil]); rfl) ?_; (with_reducible refine (bP.calls k1 ((au iE iR).f0) ((au iE iR).f1.f0) ((au iE iR).f1.f1) ((au iE iR).f1.f2) ((au iE iR).f1.f3) ((au iE iR).f2) _ _ ((au iE iR).f3) Ia false _ ?fO ?gG A18.out).mono ?_); (case fO => repeat (exact (by repeat ((with_reducible exact zT.out))))); (case gG => exact OG.out); rintro e w24 ⟨apG, rfl, ho0, hb⟩; refine ⟨_, rfl, ?_⟩; have MS := ae.mk (Kd.CE (Kd.iT (ok' := fun k_ => some k_ ≠ (E8 : Value).ownBlock ∧ some k_ ≠ (.slice (some RI) iE.length Hf : Value).ownBlock ∧ some k_ ≠ (u7 : Value).ownBlock ∧ k_ ≠ l_) ho0 (fun k_ qh => ⟨(Kd.fresh' (Kd.lX iy.out) k_ qh), (Kd.fresh' (Kd.GR rP.out) k_ qh), (Kd.fresh' (Kd.lX EP.out) k_ qh), (Kd.jM fH.out k_ qh)⟩)) (aY (by repeat ((with_reducible exact HB.out))))); replace iy := ae.mk (Kd.fJ iy.out hb); replace rP := ae.mk (Kd.vO rP.out hb); replace EP := ae.mk (Kd.fJ EP.out hb); replace fH := ae.mk (aK fH.out hb); replace zT := ae.mk (Kd.iP (by repeat ((with_reducible exact zT.out))) hb); replace HB := ae.mk (aH (by repeat ((with_reducible exact HB.out))) hb); (try clear hb); (try clear ho0)))
        go_ret3
        exact ⟨_, by rfl, by exact Kd.cZ iy.out (fun _ hk => trivial), by repeat ((with_reducible exact HB.out))⟩
      ·rw [if_neg c17] at H
       exact absurd H (by simp)
     ·rw [if_neg c16] at H
      exact absurd H (by simp)
    ·rw [if_neg c15] at H
     have Yu : decide (iR < (iE.length : Int)) = false := decide_eq_false c15
     clear c15
     simp only [Option.some.injEq, Prod.mk.injEq] at H
     obtain ⟨rfl, rfl, rfl⟩ := H
     go_wp2
     go_ret3
     exact ⟨_, by rfl, by exact Kd.cZ EP.out (fun _ hk => trivial), by repeat ((with_reducible exact HB.out))⟩
 ·replace c3 := Bool.eq_false_iff.mpr c3
  subst c3
  have H1 : (some (uh, 1, 0)) = some (r1, r2, r3) := by rw [if_neg (show ¬ (false = true) by decide)] at H; exact H
  clear H
  have H := H1
  clear H1
  simp only [Option.some.injEq, Prod.mk.injEq] at H
  obtain ⟨rfl, rfl, rfl⟩ := H
  go_enter Try.func146, Try.ntmps146
  go_wp2_with (first | ((with_reducible refine aQ (N := 1) rfl ?_); refine aX ?hg (N := 1) ?hd (cs := #[.int .u8 az, .int .i64 aC, .int .i64 aA, .int .i64 aG, .int .i64 aT, .int .i64 aU, .slice bT aj.length bJ]) (t := 26) ?hr ?_; (case hd => rfl); (case hg => rfl); (case hr => (go_simp; done)); intro l_ hg BV hbox hb; have fH := ae.mk (hbox); have aet := ae.mk ((by rw [hg]; exact (aY (by repeat ((with_reducible exact HB.out)))) : w.heap.size ≤ l_)); replace HB := ae.mk (aH (by repeat ((with_reducible exact HB.out))) hb); clear hb hbox hg) | ((with_reducible refine aQ (N := 11) rfl ?_); refine Kd.o8 k23 _ 23 ?hg (N := 11) ?hd (xs := ([] : List (bC))) (inner := []) (ok := fun _ => True) (iO := fun _ => True) ?hr ?hp (fun _ hk => hk) trivial (Below.refl _ _) (Nat.le_refl _) (by simp) ?_; (case hd => rfl); (case hg => rfl); (case hr => (go_simp; done)); (case hp => exact (dB.none _ _)); intro E8 BJ acW hb kW gK; clear kW gK; (rw [← aeE.out] at acW); have wC := ae.mk (Kd.iQ acW (aY (by repeat ((with_reducible exact HB.out))))); replace fH := ae.mk (aK fH.out hb); replace HB := ae.mk (aH (by repeat ((with_reducible exact HB.out))) hb); clear hb acW; have WI : BJ.cell? ⟨l_, 0, none⟩ = some (.int .u8 az) := (af fH.out 0).trans rfl; have WJ : BJ.cell? ⟨l_, 1, none⟩ = some (.int .i64 aC) := (af fH.out 1).trans rfl; have WL : BJ.cell? ⟨l_, 2, none⟩ = some (.int .i64 aA) := (af fH.out 2).trans rfl; have WM : BJ.cell? ⟨l_, 3, none⟩ = some (.int .i64 aG) := (af fH.out 3).trans rfl; have agC : BJ.cell? ⟨l_, 4, none⟩ = some (.int .i64 aT) := (af fH.out 4).trans rfl; have agD : BJ.cell? ⟨l_, 5, none⟩ = some (.int .i64 aU) := (af fH.out 5).trans rfl; have agE : BJ.cell? ⟨l_, 6, none⟩ = some (.slice bT aj.length bJ) := (af fH.out 6).trans rfl; have Xh := ag fH.out 0; have Xi := ag fH.out 1; have Xj := ag fH.out 2; have Xk := ag fH.out 3; have ahp := ag fH.out 4; have ahq := ag fH.out 5; have ahr := ag fH.out 6) | ((with_reducible refine dn (f := 38) rfl ?_); refine gu (some 13) rfl rfl Try.func38 (by kernel_rfl) rfl #[.agg #[.int .u8 az, .int .i64 aC, .int .i64 aA, .int .i64 aG, .int .i64 aT, .int .i64 aU, .slice bT aj.length bJ]] rfl (by (try simp only [List.map_toArray, List.map_cons, List.map_nil]); rfl) ?_; (with_reducible refine (lJ.calls k az aC aA aG aT aU _ _ aj false _ ?fO ?gG A2.out).mono ?_); (case fO => repeat (exact (Kd.iP lF.out HB.out))); (case gG => exact rM.out); rintro e zO ⟨rfl, hb⟩; refine ⟨_, rfl, ?_⟩; replace wC := ae.mk (Kd.fJ wC.out hb); replace fH := ae.mk (aK fH.out hb); replace HB := ae.mk (aH (by repeat ((with_reducible exact HB.out))) hb); (try clear hb)))
  go_ret3
  exact ⟨_, by rfl, by exact wC.out, by repeat ((with_reducible exact HB.out))⟩
def tH.f (k : Nat) (az : Int) (aC : Int) (aA : Int) (aG : Int) (aT : Int) (aU : Int) (aj : List (aI)) : Option (Bool) := (dI.f k az aC aA aG aT aU aj).bind fun Yr => (some (Yr.2.1 == 0))
theorem tH.calls (k : Nat) (az : Int) (aC : Int) (aA : Int) (aG : Int) (aT : Int) (aU : Int) (bT : Option Addr) (bJ : Nat) (aj : List (aI)) (r : Bool) (w : World) (kJ : Kd.C k26 w bT aj.length aj) (lq : aj.length ≤ bJ) (h : tH.f k az aC aA aG aT aU aj = some r) :
  Calls Try.prog 84 #[.agg #[.int .u8 az, .int .i64 aC, .int .i64 aA, .int .i64 aG, .int .i64 aT, .int .i64 aU, .slice bT aj.length bJ]] w fun e w' => e = .returned (.bool r) ∧ Below w.heap.size w w' := by
 have Ae := Try.underlying26
 have lF := ae.mk kJ
 have rM := ae.mk lq
 clear kJ lq
 have HB := ae.mk (Below.refl w.heap.size w)
 have H : ((dI.f k az aC aA aG aT aU aj).bind fun Yr => (some (Yr.2.1 == 0))) = some r := h
 clear h
 replace H := Option.bind_eq_some_iff.mp H
 obtain ⟨⟨apw, aln, apx⟩, BU, H⟩ := H
 replace H : (some (aln == 0)) = some r := H
 have A2 := ae.mk BU
 clear BU
 obtain rfl := Option.some.inj H
 go_enter Try.func84, Try.ntmps84
 go_wp2_with (first | ((with_reducible refine aQ (N := 1) rfl ?_); refine aX ?hg (N := 1) ?hd (cs := #[.int .u8 az, .int .i64 aC, .int .i64 aA, .int .i64 aG, .int .i64 aT, .int .i64 aU, .slice bT aj.length bJ]) (t := 26) ?hr ?_; (case hd => rfl); (case hg => rfl); (case hr => (go_simp; done)); intro Ho hg w3 hbox hb; have uk := ae.mk (hbox); replace HB := ae.mk (aH (by repeat ((with_reducible exact HB.out))) hb); clear hb hbox hg; have II : w3.cell? ⟨Ho, 0, none⟩ = some (.int .u8 az) := (af uk.out 0).trans rfl; have IJ : w3.cell? ⟨Ho, 1, none⟩ = some (.int .i64 aC) := (af uk.out 1).trans rfl; have IK : w3.cell? ⟨Ho, 2, none⟩ = some (.int .i64 aA) := (af uk.out 2).trans rfl; have IL : w3.cell? ⟨Ho, 3, none⟩ = some (.int .i64 aG) := (af uk.out 3).trans rfl; have NQ : w3.cell? ⟨Ho, 4, none⟩ = some (.int .i64 aT) := (af uk.out 4).trans rfl; have NR : w3.cell? ⟨Ho, 5, none⟩ = some (.int .i64 aU) := (af uk.out 5).trans rfl; have NT : w3.cell? ⟨Ho, 6, none⟩ = some (.slice bT aj.length bJ) := (af uk.out 6).trans rfl; have I7 := ag uk.out 0; have I8 := ag uk.out 1; have I9 := ag uk.out 2; have I_ := ag uk.out 3; have NZ := ag uk.out 4; have N7 := ag uk.out 5; have N8 := ag uk.out 6) | ((with_reducible refine dn (f := 146) rfl ?_); refine gu (some 8) rfl rfl Try.func146 (by kernel_rfl) rfl #[.agg #[.int .u8 az, .int .i64 aC, .int .i64 aA, .int .i64 aG, .int .i64 aT, .int .i64 aU, .slice bT aj.length bJ]] rfl (by (try simp only [List.map_toArray, List.map_cons, List.map_nil]); rfl) ?_; (with_reducible refine (dI.calls k az aC aA aG aT aU _ _ aj apw aln apx _ ?fO ?gG A2.out).mono ?_); (case fO => repeat (exact (Kd.iP lF.out HB.out))); (case gG => exact rM.out); rintro e w5 ⟨aw4, rfl, ho0, hb⟩; refine ⟨_, rfl, ?_⟩; replace uk := ae.mk (aK uk.out hb); replace HB := ae.mk (aH (by repeat ((with_reducible exact HB.out))) hb); (try clear hb); (try clear ho0)))
 go_ret
 exact ⟨by rfl, by repeat ((with_reducible exact HB.out))⟩
end Go.Proofs.Ytfdmfgaiblfbhaa.P
namespace Go.Proofs.Ytfdmfgaiblfbhaa.P
open Go.RowKit Go.Proofs.ai.bg Go.Proofs.ai.di Go.Proofs.ai.dG
theorem ajL : ∀ (N : Nat), (∀ c : aI, sz c ≤ N → ∀ d, d ∈ jh c → sz d ≤ sz c) ∧ (∀ l : List aI, jw l ≤ N → ∀ d, d ∈ allL l → sz d ≤ jw l) := by
 intro N
 induction N with
 | zero =>
  refine ⟨fun c h => ?_, fun l h => ?_⟩
  ·rw [gm] at h; omega
  ·cases l with
   | nil => intro d hd; rw [uZ] at hd; cases hd
   | cons z zs => rw [gz, gm] at h; omega
 | succ N ih =>
  have hC : ∀ c : aI, sz c ≤ N + 1 → ∀ d, d ∈ jh c → sz d ≤ sz c := by
   intro c h d hd
   have hs := gm c
   rw [yH] at hd
   rcases List.mem_cons.1 hd with rfl | hd
   ·exact Nat.le_refl _
   ·have := ih.2 c.f3 (by omega) d hd
    omega
  refine ⟨hC, fun l => ?_⟩
  induction l with
  | nil => intro _ d hd; rw [uZ] at hd; cases hd
  | cons x xs ihl =>
   intro h d hd
   rw [gz] at h ⊢
   rw [sO] at hd
   rcases List.mem_append.1 hd with hd | hd
   ·have := hC x (by omega) d hd
    omega
   ·have := ihl (by omega) d hd
    omega
theorem acs (ax X Y W H : Int) : ∀ (ns : List Int) (off : Int), (Df ax X Y W H off ns).length = ns.length := by
 intro ns
 induction ns with
 | nil => intro off; rfl
 | cons n ns ih => intro off; simp [Df, ih]
theorem adT (c : aI) (h : c.f3.length ≤ 1048576) : Ev (fun k => fC.f k c.f0 c.f1.f0 c.f1.f1 c.f1.f2 c.f1.f3 c.f2 c.f3) (l7 c) := by
 have key : ∀ (rest pre : List aI), pre ++ rest = c.f3 → Ev (fun k => fC.l0 k (pre.map (EM c)) (c.f3.length : Int) (pre.length : Int) c.f0 c.f1.f0 c.f1.f1 c.f1.f2 c.f1.f3 c.f2 c.f3) (l7 c) := by
  intro rest
  induction rest with
  | nil =>
   intro pre hp
   rw [List.append_nil] at hp
   subst hp
   refine Ev.step (f := fun _ => some (l7 c)) (fun k => ?_) (Ev.now _)
   simp only [fC.l0]
   rw [if_neg (by omega)]
   rfl
  | cons x xs ih =>
   intro pre hp
   have hl : (pre.length : Int) < (c.f3.length : Int) := by rw [← hp, List.length_append, List.length_cons]; omega
   have hr : au c.f3 (pre.length : Int) = x := by rw [← hp]; exact lS pre x xs
   have hu : wrap64 ((pre.length : Int) + 1) = ((pre ++ [x]).length : Int) := Cm pre x xs (by rw [hp]; omega)
   have e2 := ih (pre ++ [x]) (by rw [List.append_assoc]; exact hp)
   have hm : (pre ++ [x]).map (EM c) = pre.map (EM c) ++ [EM c x] := by simp
   rw [hm] at e2
   refine Ev.step (fun k => ?_) e2
   simp only [fC.l0]
   rw [if_pos hl, hr, hu, List.length_map]
   by_cases h2 : c.f0 = 2
   ·rw [if_pos h2, if_pos (by omega), if_pos hl, if_pos (by omega), show EM c x = x.f1.f2 from if_pos h2]
   ·rw [if_neg h2, if_pos (by omega), if_pos hl, if_pos (by omega), show EM c x = x.f1.f3 from if_neg h2]
 unfold fC.f
 exact key c.f3 [] rfl
theorem akZ (c : aI) (h : c.f3.length ≤ 20000) : ∃ ls : List bC, ls.length ≤ c.f3.length ∧ Ev (fun k => bP.f k c.f0 c.f1.f0 c.f1.f1 c.f1.f2 c.f1.f3 c.f2 c.f3) (ls, EY c) := by
 unfold EY UX
 by_cases h1 : c.f0 = 1
 ·refine ⟨[], by simp, Ev.congr (f := fun _ => some ([], true)) (fun k => ?_) ?_⟩
  ·unfold bP.f
   rw [if_pos h1]
  ·rw [show (c.f0 == 1) = true from by simp [h1], Bool.true_or]
   exact Ev.now _
 ·rw [show (c.f0 == 1) = false from by simp [h1], Bool.false_or]
  obtain ⟨⟨l1, l2⟩, hg, _, t2⟩ := Ez c h
  have hax : (c.f0 - 1) % 256 = yI c.f0 := by unfold yI; omega
  generalize z_ c = t at l1 l2 hg t2
  have main : ∀ ls : List bC, ∀ b : Bool, Ev (fun k => if t.2.2 = true then (bP.l0 k t.1 t.2.1 (t.1.length : Int) 0 c.f0 c.f1.f0 c.f1.f1 c.f1.f2 c.f1.f3 c.f2 c.f3) else (some (t.2.1, false))) (ls, b) → Ev (fun k => bP.f k c.f0 c.f1.f0 c.f1.f1 c.f1.f2 c.f1.f3 c.f2 c.f3) (ls, b) := by
   intro ls b he
   refine Ev.congr (f := fun k => (fC.f k c.f0 c.f1.f0 c.f1.f1 c.f1.f2 c.f1.f3 c.f2 c.f3).bind fun s => (aJ.f k c.f1.f0 c.f1.f1 c.f1.f2 c.f1.f3 (yI c.f0) s).bind fun bt => (if bt.2.2 = true then (bP.l0 k bt.1 bt.2.1 (bt.1.length : Int) 0 c.f0 c.f1.f0 c.f1.f1 c.f1.f2 c.f1.f3 c.f2 c.f3) else (some (bt.2.1, false)))) (fun k => ?_) (Ev.bind (adT c (by omega)) (Ev.bind t2 he))
   unfold bP.f
   rw [if_neg h1, hax]
  cases ht : t.2.2 with
  | false =>
   rw [Bool.false_and]
   exact ⟨t.2.1, l2, main _ _ (qZ (by rw [ht]; simp) (Ev.now _))⟩
  | true =>
   obtain ⟨_, gp, _, _⟩ := hg ht
   have hlen : t.1.length = c.f3.length := by rw [gp, acs]; simp [l7]
   rw [show (c.f3.length == t.1.length) = true from by simp [hlen], Bool.true_and, Bool.true_and]
   have key : ∀ (rest pre : List bC) (rb pb : List aI), pre ++ rest = t.1 → pb ++ rb = c.f3 → pre.length = pb.length → ∃ ls : List bC, ls.length ≤ c.f3.length ∧ Ev (fun k => bP.l0 k t.1 t.2.1 (t.1.length : Int) (pre.length : Int) c.f0 c.f1.f0 c.f1.f1 c.f1.f2 c.f1.f3 c.f2 c.f3) (ls, Dh (fun k r => tC k.f1 r) rb rest) := by
    intro rest
    induction rest with
    | nil =>
     intro pre rb pb hp hb he
     rw [List.append_nil] at hp
     have hr : rb = [] := by
      apply List.eq_nil_of_length_eq_zero
      have h2 := congrArg List.length hb
      rw [List.length_append] at h2
      rw [← hp] at hlen
      omega
     subst hr
     refine ⟨t.2.1, l2, Ev.step (f := fun _ => some (t.2.1, true)) (fun k => ?_) (Ev.now _)⟩
     simp only [bP.l0]
     rw [if_neg (by rw [hp]; omega)]
    | cons r rs ih =>
     intro pre rb pb hp hb he
     have h4 : t.1.length = pre.length + (rs.length + 1) := by rw [← hp, List.length_append, List.length_cons]
     cases rb with
     | nil => rw [List.append_nil] at hb; rw [← hb] at hlen; omega
     | cons x xs =>
      have hl : (pre.length : Int) < (t.1.length : Int) := by omega
      have hr : au c.f3 (pre.length : Int) = x := by rw [he, ← hb]; exact lS pb x xs
      have hr2 : fQ t.1 (pre.length : Int) = r := by rw [← hp]; simp [fQ, List.getD_eq_getElem?_getD]
      have hu : wrap64 ((pre.length : Int) + 1) = ((pre ++ [r]).length : Int) := Cm pre r rs (by rw [hp]; omega)
      have hq : (!(r.f0 == x.f1.f0) || (!(r.f1 == x.f1.f1) || (!(r.f2 == x.f1.f2) || (!(r.f3 == x.f1.f3))))) = !(tC x.f1 r) := by
       unfold tC
       rw [Bool.not_and, Bool.not_and, Bool.not_and, Bool.beq_comm (a := r.f0), Bool.beq_comm (a := r.f1), Bool.beq_comm (a := r.f2), Bool.beq_comm (a := r.f3)]
      simp only [Dh]
      cases hx : tC x.f1 r with
      | false =>
       refine ⟨[], by simp, Ev.step (f := fun _ => some ([], false)) (fun k => ?_) (Ev.now _)⟩
       simp only [bP.l0]
       rw [if_pos hl, if_pos (by omega), if_pos hl, if_pos (by omega), hr, hr2, hq, hx, if_pos (by rfl)]
      | true =>
       obtain ⟨ls, a1, a2⟩ := ih (pre ++ [r]) xs (pb ++ [x]) (by rw [List.append_assoc]; exact hp) (by rw [List.append_assoc]; exact hb) (by rw [List.length_append, List.length_append, he]; rfl)
       refine ⟨ls, a1, Ev.step (fun k => ?_) a2⟩
       simp only [bP.l0]
       rw [if_pos hl, if_pos (by omega), if_pos hl, if_pos (by omega), hr, hr2, hq, hx, if_neg (by simp), hu]
   obtain ⟨ls, a1, a2⟩ := key t.1 [] c.f3 [] rfl rfl rfl
   exact ⟨ls, a1, main _ _ (pM ht a2)⟩
theorem U5 (c : aI) (hz : sz c ≤ 1048576) : Ev (fun k => tH.f k c.f0 c.f1.f0 c.f1.f1 c.f1.f2 c.f1.f3 c.f2 c.f3) (jy c) := by
 unfold jy
 cases hm : o6 c with
 | false =>
  rw [Bool.false_and]
  refine Ev.congr (fun k => ?_) (Ev.bind (a := (([], 1, 0) : List bC × Int × Int)) (g := fun k => dI.f k c.f0 c.f1.f0 c.f1.f1 c.f1.f2 c.f1.f3 c.f2 c.f3) (f := fun _ bt => some (bt.2.1 == 0)) ?_ (Ev.now _))
  ·rfl
  ·unfold dI.f
   have e := abe c hz
   rw [hm] at e
   exact Ev.bind (Ev.now ([] : List bC)) (Ev.bind e (qZ (by simp) (Ev.now _)))
 | true =>
  rw [Bool.true_and]
  have hs := uP hm
  have hlen : ∀ d, d ∈ jh c → d.f3.length ≤ 20000 := fun d hd => by
   have h1 := (ajL (sz c)).1 c (Nat.le_refl _) d hd
   have h2 := gm d
   have h3 := nN d.f3
   omega
  have key : ∀ (rest pre : List aI), pre ++ rest = jh c → ∀ out : List bC, out.length ≤ 20001 * pre.length → ∃ r : List bC × Int × Int, Ev (fun k => dI.l0 k ([] : List bC) (jh c) out ((jh c).length : Int) (pre.length : Int)) r ∧ (r.2.1 == 0) = rest.all EY := by
   intro rest
   induction rest with
   | nil =>
    intro pre hp out ho
    rw [List.append_nil] at hp
    refine ⟨(out, 0, 0), Ev.step (f := fun _ => some (out, 0, 0)) (fun k => ?_) (Ev.now _), rfl⟩
    simp only [dI.l0]
    rw [if_neg (by rw [hp]; omega)]
   | cons x xs ih =>
    intro pre hp out ho
    have hl : (pre.length : Int) < ((jh c).length : Int) := by rw [← hp, List.length_append, List.length_cons]; omega
    have hl2 : (jh c).length = sz c := rfl
    have hr : au (jh c) (pre.length : Int) = x := by rw [← hp]; exact lS pre x xs
    have hu : wrap64 ((pre.length : Int) + 1) = ((pre ++ [x]).length : Int) := Cm pre x xs (by rw [hp]; omega)
    have hx := hlen x (by rw [← hp]; simp)
    obtain ⟨ls, b1, b2⟩ := akZ x hx
    rw [List.all_cons]
    cases ho1 : EY x with
    | false =>
     rw [ho1] at b2
     refine ⟨([], 5, (pre.length : Int)), Ev.step (f := fun k => (bP.f k x.f0 x.f1.f0 x.f1.f1 x.f1.f2 x.f1.f3 x.f2 x.f3).bind fun bt => (if bt.2 = true then (if out.length + bt.1.length < 4398046511104 then (dI.l0 k ([] : List bC) (jh c) (out ++ bt.1) ((jh c).length : Int) (wrap64 ((pre.length : Int) + 1))) else (none)) else (some (([] : List bC), 5, (pre.length : Int))))) (fun k => ?_) (Ev.bind b2 (qZ (by simp) (Ev.now _))), by rfl⟩
     simp only [dI.l0]
     rw [if_pos hl, if_pos (by omega), if_pos hl, hr]
    | true =>
     rw [ho1] at b2
     obtain ⟨r, c1, c2⟩ := ih (pre ++ [x]) (by rw [List.append_assoc]; exact hp) (out ++ ls) (by rw [List.length_append, List.length_append, List.length_singleton]; omega)
     refine ⟨r, Ev.step (f := fun k => (bP.f k x.f0 x.f1.f0 x.f1.f1 x.f1.f2 x.f1.f3 x.f2 x.f3).bind fun bt => (if bt.2 = true then (if out.length + bt.1.length < 4398046511104 then (dI.l0 k ([] : List bC) (jh c) (out ++ bt.1) ((jh c).length : Int) (wrap64 ((pre.length : Int) + 1))) else (none)) else (some (([] : List bC), 5, (pre.length : Int))))) (fun k => ?_) (Ev.bind b2 (pM rfl (pM ?_ ?_))), by rw [c2, Bool.true_and]⟩
     ·simp only [dI.l0]
      rw [if_pos hl, if_pos (by omega), if_pos hl, hr]
     ·have : pre.length ≤ 20000 := by omega
      show out.length + ls.length < 4398046511104
      omega
     ·rw [hu]
      exact c1
  obtain ⟨r, e1, e2⟩ := key (jh c) [] rfl [] (by simp)
  have e3 : Ev (fun k => dI.f k c.f0 c.f1.f0 c.f1.f1 c.f1.f2 c.f1.f3 c.f2 c.f3) r := by
   unfold dI.f
   have e := abe c hz
   rw [hm] at e
   exact Ev.bind (Ev.now ([] : List bC)) (Ev.bind e (pM rfl (Ev.bind (Et _ c hz (Nat.le_refl _)) e1)))
  have e4 := Ev.bind (f := fun _ bt => some (bt.2.1 == 0)) e3 (Ev.now (r.2.1 == 0))
  rw [e2] at e4
  exact e4
end Go.Proofs.Ytfdmfgaiblfbhaa.P
namespace Go.Proofs.Ytfdmfgaiblfbhaa.P
open Go.RowKit Go.Proofs.ai.bg Go.Proofs.ai.di Go.Proofs.ai.dG
attribute [local go_sem] kD kF lN lQ jF jG kE kG
def qR.f (az : Int) (aC : Int) (aA : Int) (aG : Int) (aT : Int) (aU : Int) (aj : List (aI)) (a1 : Int) : Option (Bool) := if az = 2 then (if a1 = 1 then (some true) else (if az = 3 then (some (a1 == 2)) else (some false))) else (if az = 3 then (some (a1 == 2)) else (some false))
theorem qR.calls (az : Int) (aC : Int) (aA : Int) (aG : Int) (aT : Int) (aU : Int) (bT : Option Addr) (bJ : Nat) (aj : List (aI)) (a1 : Int) (r : Bool) (w : World) (kJ : Kd.C k26 w bT aj.length aj) (lq : aj.length ≤ bJ) (h : qR.f az aC aA aG aT aU aj a1 = some r) :
  Calls Try.prog 99 #[.agg #[.int .u8 az, .int .i64 aC, .int .i64 aA, .int .i64 aG, .int .i64 aT, .int .i64 aU, .slice bT aj.length bJ], .int .u8 a1] w fun e w' => e = .returned (.bool r) ∧ Below w.heap.size w w' := by
 have Ae := Try.underlying26
 clear kJ lq
 have HB := ae.mk (Below.refl w.heap.size w)
 have H : (if az = 2 then (if a1 = 1 then (some true) else (if az = 3 then (some (a1 == 2)) else (some false))) else (if az = 3 then (some (a1 == 2)) else (some false))) = some r := h
 clear h
 by_cases c3 : az = 2
 ·rw [if_pos c3] at H
  have pY : (az == 2) = true := beq_iff_eq.mpr c3
  have uq : (az != 2) = false := bne_eq_false_iff_eq.mpr c3
  clear c3
  by_cases c4 : a1 = 1
  ·rw [if_pos c4] at H
   have zy : (a1 == 1) = true := beq_iff_eq.mpr c4
   have TE : (a1 != 1) = false := bne_eq_false_iff_eq.mpr c4
   clear c4
   obtain rfl := Option.some.inj H
   go_enter Try.func99, Try.ntmps99
   go_wp2_with (((with_reducible refine aQ (N := 2) rfl ?_); refine aX ?hg (N := 2) ?hd (cs := #[.int .u8 az, .int .i64 aC, .int .i64 aA, .int .i64 aG, .int .i64 aT, .int .i64 aU, .slice bT aj.length bJ]) (t := 26) ?hr ?_; (case hd => rfl); (case hg => rfl); (case hr => (go_simp; done)); intro jV hg w5 hbox hb; have d_ := ae.mk (hbox); replace HB := ae.mk (aH (by repeat ((with_reducible exact HB.out))) hb); clear hb hbox hg; have IV : w5.cell? ⟨jV, 0, none⟩ = some (.int .u8 az) := (af d_.out 0).trans rfl; have IW : w5.cell? ⟨jV, 1, none⟩ = some (.int .i64 aC) := (af d_.out 1).trans rfl; have IX : w5.cell? ⟨jV, 2, none⟩ = some (.int .i64 aA) := (af d_.out 2).trans rfl; have IY : w5.cell? ⟨jV, 3, none⟩ = some (.int .i64 aG) := (af d_.out 3).trans rfl; have IZ : w5.cell? ⟨jV, 4, none⟩ = some (.int .i64 aT) := (af d_.out 4).trans rfl; have I4 : w5.cell? ⟨jV, 5, none⟩ = some (.int .i64 aU) := (af d_.out 5).trans rfl; have I5 : w5.cell? ⟨jV, 6, none⟩ = some (.slice bT aj.length bJ) := (af d_.out 6).trans rfl; have Je := ag d_.out 0; have Jf := ag d_.out 1; have Jg := ag d_.out 2; have Jh := ag d_.out 3; have Ji := ag d_.out 4; have Jj := ag d_.out 5; have Jk := ag d_.out 6))
   go_ret
   exact ⟨by rfl, by repeat ((with_reducible exact HB.out))⟩
  ·rw [if_neg c4] at H
   have zy : (a1 == 1) = false := beq_eq_false_iff_ne.mpr c4
   have TE : (a1 != 1) = true := bne_iff_ne.mpr c4
   by_cases c7 : az = 3
   ·rw [if_pos c7] at H
    have t_ : (az == 3) = true := beq_iff_eq.mpr c7
    have Iz : (az != 3) = false := bne_eq_false_iff_eq.mpr c7
    clear c7
    obtain rfl := Option.some.inj H
    go_enter Try.func99, Try.ntmps99
    go_wp2_with (((with_reducible refine aQ (N := 2) rfl ?_); refine aX ?hg (N := 2) ?hd (cs := #[.int .u8 az, .int .i64 aC, .int .i64 aA, .int .i64 aG, .int .i64 aT, .int .i64 aU, .slice bT aj.length bJ]) (t := 26) ?hr ?_; (case hd => rfl); (case hg => rfl); (case hr => (go_simp; done)); intro jV hg w8 hbox hb; have d_ := ae.mk (hbox); replace HB := ae.mk (aH (by repeat ((with_reducible exact HB.out))) hb); clear hb hbox hg; have aaK : w8.cell? ⟨jV, 0, none⟩ = some (.int .u8 az) := (af d_.out 0).trans rfl; have aaL : w8.cell? ⟨jV, 1, none⟩ = some (.int .i64 aC) := (af d_.out 1).trans rfl; have aaM : w8.cell? ⟨jV, 2, none⟩ = some (.int .i64 aA) := (af d_.out 2).trans rfl; have aaN : w8.cell? ⟨jV, 3, none⟩ = some (.int .i64 aG) := (af d_.out 3).trans rfl; have aaO : w8.cell? ⟨jV, 4, none⟩ = some (.int .i64 aT) := (af d_.out 4).trans rfl; have aaP : w8.cell? ⟨jV, 5, none⟩ = some (.int .i64 aU) := (af d_.out 5).trans rfl; have aaQ : w8.cell? ⟨jV, 6, none⟩ = some (.slice bT aj.length bJ) := (af d_.out 6).trans rfl; have aaV := ag d_.out 0; have aaW := ag d_.out 1; have aaX := ag d_.out 2; have aaY := ag d_.out 3; have aaZ := ag d_.out 4; have aa0 := ag d_.out 5; have aa1 := ag d_.out 6))
    go_ret
    exact ⟨by rfl, by repeat ((with_reducible exact HB.out))⟩
   ·rw [if_neg c7] at H
    have t_ : (az == 3) = false := beq_eq_false_iff_ne.mpr c7
    have Iz : (az != 3) = true := bne_iff_ne.mpr c7
    obtain rfl := Option.some.inj H
    go_enter Try.func99, Try.ntmps99
    go_wp2_with (((with_reducible refine aQ (N := 2) rfl ?_); refine aX ?hg (N := 2) ?hd (cs := #[.int .u8 az, .int .i64 aC, .int .i64 aA, .int .i64 aG, .int .i64 aT, .int .i64 aU, .slice bT aj.length bJ]) (t := 26) ?hr ?_; (case hd => rfl); (case hg => rfl); (case hr => (go_simp; done)); intro jV hg w10 hbox hb; have d_ := ae.mk (hbox); replace HB := ae.mk (aH (by repeat ((with_reducible exact HB.out))) hb); clear hb hbox hg; have yJ : w10.cell? ⟨jV, 0, none⟩ = some (.int .u8 az) := (af d_.out 0).trans rfl; have yK : w10.cell? ⟨jV, 1, none⟩ = some (.int .i64 aC) := (af d_.out 1).trans rfl; have yL : w10.cell? ⟨jV, 2, none⟩ = some (.int .i64 aA) := (af d_.out 2).trans rfl; have yM : w10.cell? ⟨jV, 3, none⟩ = some (.int .i64 aG) := (af d_.out 3).trans rfl; have FM : w10.cell? ⟨jV, 4, none⟩ = some (.int .i64 aT) := (af d_.out 4).trans rfl; have FN : w10.cell? ⟨jV, 5, none⟩ = some (.int .i64 aU) := (af d_.out 5).trans rfl; have FO : w10.cell? ⟨jV, 6, none⟩ = some (.slice bT aj.length bJ) := (af d_.out 6).trans rfl; have yO := ag d_.out 0; have yP := ag d_.out 1; have yQ := ag d_.out 2; have yR := ag d_.out 3; have FV := ag d_.out 4; have FW := ag d_.out 5; have FX := ag d_.out 6))
    go_ret
    exact ⟨by rfl, by repeat ((with_reducible exact HB.out))⟩
 ·rw [if_neg c3] at H
  have pY : (az == 2) = false := beq_eq_false_iff_ne.mpr c3
  have uq : (az != 2) = true := bne_iff_ne.mpr c3
  by_cases c12 : az = 3
  ·rw [if_pos c12] at H
   have Cc : (az == 3) = true := beq_iff_eq.mpr c12
   have Nu : (az != 3) = false := bne_eq_false_iff_eq.mpr c12
   clear c12
   obtain rfl := Option.some.inj H
   go_enter Try.func99, Try.ntmps99
   go_wp2_with (((with_reducible refine aQ (N := 2) rfl ?_); refine aX ?hg (N := 2) ?hd (cs := #[.int .u8 az, .int .i64 aC, .int .i64 aA, .int .i64 aG, .int .i64 aT, .int .i64 aU, .slice bT aj.length bJ]) (t := 26) ?hr ?_; (case hd => rfl); (case hg => rfl); (case hr => (go_simp; done)); intro jV hg qI hbox hb; have d_ := ae.mk (hbox); replace HB := ae.mk (aH (by repeat ((with_reducible exact HB.out))) hb); clear hb hbox hg; have JY : qI.cell? ⟨jV, 0, none⟩ = some (.int .u8 az) := (af d_.out 0).trans rfl; have JZ : qI.cell? ⟨jV, 1, none⟩ = some (.int .i64 aC) := (af d_.out 1).trans rfl; have J3 : qI.cell? ⟨jV, 2, none⟩ = some (.int .i64 aA) := (af d_.out 2).trans rfl; have J4 : qI.cell? ⟨jV, 3, none⟩ = some (.int .i64 aG) := (af d_.out 3).trans rfl; have af6 : qI.cell? ⟨jV, 4, none⟩ = some (.int .i64 aT) := (af d_.out 4).trans rfl; have af7 : qI.cell? ⟨jV, 5, none⟩ = some (.int .i64 aU) := (af d_.out 5).trans rfl; have af8 : qI.cell? ⟨jV, 6, none⟩ = some (.slice bT aj.length bJ) := (af d_.out 6).trans rfl; have J9 := ag d_.out 0; have J_ := ag d_.out 1; have Ko := ag d_.out 2; have Kq := ag d_.out 3; have agV := ag d_.out 4; have agW := ag d_.out 5; have agX := ag d_.out 6))
   go_ret
   exact ⟨by rfl, by repeat ((with_reducible exact HB.out))⟩
  ·rw [if_neg c12] at H
   have Cc : (az == 3) = false := beq_eq_false_iff_ne.mpr c12
   have Nu : (az != 3) = true := bne_iff_ne.mpr c12
   obtain rfl := Option.some.inj H
   go_enter Try.func99, Try.ntmps99
   go_wp2_with (((with_reducible refine aQ (N := 2) rfl ?_); refine aX ?hg (N := 2) ?hd (cs := #[.int .u8 az, .int .i64 aC, .int .i64 aA, .int .i64 aG, .int .i64 aT, .int .i64 aU, .slice bT aj.length bJ]) (t := 26) ?hr ?_; (case hd => rfl); (case hg => rfl); (case hr => (go_simp; done)); intro jV hg pz hbox hb; have d_ := ae.mk (hbox); replace HB := ae.mk (aH (by repeat ((with_reducible exact HB.out))) hb); clear hb hbox hg; have FP : pz.cell? ⟨jV, 0, none⟩ = some (.int .u8 az) := (af d_.out 0).trans rfl; have FQ : pz.cell? ⟨jV, 1, none⟩ = some (.int .i64 aC) := (af d_.out 1).trans rfl; have FT : pz.cell? ⟨jV, 2, none⟩ = some (.int .i64 aA) := (af d_.out 2).trans rfl; have FU : pz.cell? ⟨jV, 3, none⟩ = some (.int .i64 aG) := (af d_.out 3).trans rfl; have Wn : pz.cell? ⟨jV, 4, none⟩ = some (.int .i64 aT) := (af d_.out 4).trans rfl; have Wp : pz.cell? ⟨jV, 5, none⟩ = some (.int .i64 aU) := (af d_.out 5).trans rfl; have Wq : pz.cell? ⟨jV, 6, none⟩ = some (.slice bT aj.length bJ) := (af d_.out 6).trans rfl; have FY := ag d_.out 0; have FZ := ag d_.out 1; have F5 := ag d_.out 2; have F6 := ag d_.out 3; have WV := ag d_.out 4; have WW := ag d_.out 5; have WX := ag d_.out 6))
   go_ret
   exact ⟨by rfl, by repeat ((with_reducible exact HB.out))⟩
mutual
def fK.l0 : Nat → Int → Int → Int → List (aI) → Int → Int → Int → Int → Int → Int → Int → Int → List (aI) → Option (Int)
 | 0, _, _, _, _, _, _, _, _, _, _, _, _, _ => none
 | k + 1, x1, x5, x6, x18, x19, x20, XN, XO, XP, XQ, XR, XT, XU => if x20 < x19 then (if 0 ≤ x20 then (if x20 < (x18.length : Int) then ((fK.f k ((au x18 x20).f0) ((au x18 x20).f1.f0) ((au x18 x20).f1.f1) ((au x18 x20).f1.f2) ((au x18 x20).f1.f3) ((au x18 x20).f2) ((au x18 x20).f3) x1).bind fun D6 => (fK.l0 k x1 (wrap64 (x5 + D6)) (mx x6 D6) x18 x19 (wrap64 (x20 + 1)) XN XO XP XQ XR XT XU)) else (none)) else (none)) else ((qR.f XN XO XP XQ XR XT XU x1).bind fun ZF => (if ZF = true then (some x5) else (some x6)))
def fK.f : Nat → Int → Int → Int → Int → Int → Int → List (aI) → Int → Option (Int)
 | 0, _, _, _, _, _, _, _, _ => none
 | k + 1, az, aC, aA, aG, aT, aU, aj, a1 => if az = 1 then (some 1) else (fK.l0 k a1 (wrap64 ((aj.length : Int) - 1)) 0 aj (aj.length : Int) 0 az aC aA aG aT aU aj)
end
theorem fK.calls (k : Nat) : ∀ (az : Int) (aC : Int) (aA : Int) (aG : Int) (aT : Int) (aU : Int) (bT : Option Addr) (bJ : Nat) (aj : List (aI)) (a1 : Int) (r : Int) (w : World) (kJ : Kd.C k26 w bT aj.length aj) (lq : aj.length ≤ bJ) (h : fK.f k az aC aA aG aT aU aj a1 = some r),
  Calls Try.prog 149 #[.agg #[.int .u8 az, .int .i64 aC, .int .i64 aA, .int .i64 aG, .int .i64 aT, .int .i64 aU, .slice bT aj.length bJ], .int .u8 a1] w fun e w' => e = .returned (.int .i64 r) ∧ Below w.heap.size w w' := by
 induction k using Nat.strongRecOn with
 | _ k ih =>
 intro az aC aA aG aT aU bT bJ aj a1 r w kJ lq h
 cases k with
 | zero => exact absurd h (by simp [fK.f])
 | succ k =>
 simp only [fK.f] at h
 have Ae := Try.underlying26
 have lF := ae.mk kJ
 have rM := ae.mk lq
 clear kJ lq
 have HB := ae.mk (Below.refl w.heap.size w)
 have H : (if az = 1 then (some 1) else (fK.l0 k a1 (wrap64 ((aj.length : Int) - 1)) 0 aj (aj.length : Int) 0 az aC aA aG aT aU aj)) = some r := h
 clear h
 by_cases c3 : az = 1
 ·rw [if_pos c3] at H
  have pY : (az == 1) = true := beq_iff_eq.mpr c3
  have uq : (az != 1) = false := bne_eq_false_iff_eq.mpr c3
  clear c3
  obtain rfl := Option.some.inj H
  go_enter Try.func149, Try.ntmps149
  go_wp2_with (((with_reducible refine aQ (N := 2) rfl ?_); refine aX ?hg (N := 2) ?hd (cs := #[.int .u8 az, .int .i64 aC, .int .i64 aA, .int .i64 aG, .int .i64 aT, .int .i64 aU, .slice bT aj.length bJ]) (t := 26) ?hr ?_; (case hd => rfl); (case hg => rfl); (case hr => (go_simp; done)); intro lH hg w4 hbox hb; have fD := ae.mk (hbox); replace HB := ae.mk (aH (by repeat ((with_reducible exact HB.out))) hb); clear hb hbox hg; have IM : w4.cell? ⟨lH, 0, none⟩ = some (.int .u8 az) := (af fD.out 0).trans rfl; have IP : w4.cell? ⟨lH, 1, none⟩ = some (.int .i64 aC) := (af fD.out 1).trans rfl; have IQ : w4.cell? ⟨lH, 2, none⟩ = some (.int .i64 aA) := (af fD.out 2).trans rfl; have IU : w4.cell? ⟨lH, 3, none⟩ = some (.int .i64 aG) := (af fD.out 3).trans rfl; have Ue : w4.cell? ⟨lH, 4, none⟩ = some (.int .i64 aT) := (af fD.out 4).trans rfl; have Uf : w4.cell? ⟨lH, 5, none⟩ = some (.int .i64 aU) := (af fD.out 5).trans rfl; have Ug : w4.cell? ⟨lH, 6, none⟩ = some (.slice bT aj.length bJ) := (af fD.out 6).trans rfl; have Ja := ag fD.out 0; have Jb := ag fD.out 1; have Jc := ag fD.out 2; have Jd := ag fD.out 3; have Uw := ag fD.out 4; have Ux := ag fD.out 5; have Uy := ag fD.out 6))
  go_ret
  exact ⟨by rfl, by repeat ((with_reducible exact HB.out))⟩
 ·rw [if_neg c3] at H
  have pY : (az == 1) = false := beq_eq_false_iff_ne.mpr c3
  have uq : (az != 1) = true := bne_iff_ne.mpr c3
  have H' := ae.mk H
  clear H
  go_enter Try.func149, Try.ntmps149
  go_wp2_with (((with_reducible refine aQ (N := 2) rfl ?_); refine aX ?hg (N := 2) ?hd (cs := #[.int .u8 az, .int .i64 aC, .int .i64 aA, .int .i64 aG, .int .i64 aT, .int .i64 aU, .slice bT aj.length bJ]) (t := 26) ?hr ?_; (case hd => rfl); (case hg => rfl); (case hr => (go_simp; done)); intro lH hg w6 hbox hb; have fD := ae.mk (hbox); replace HB := ae.mk (aH (by repeat ((with_reducible exact HB.out))) hb); clear hb hbox hg; have Dj : w6.cell? ⟨lH, 0, none⟩ = some (.int .u8 az) := (af fD.out 0).trans rfl; have Dk : w6.cell? ⟨lH, 1, none⟩ = some (.int .i64 aC) := (af fD.out 1).trans rfl; have Dl : w6.cell? ⟨lH, 2, none⟩ = some (.int .i64 aA) := (af fD.out 2).trans rfl; have Dn : w6.cell? ⟨lH, 3, none⟩ = some (.int .i64 aG) := (af fD.out 3).trans rfl; have Uh : w6.cell? ⟨lH, 4, none⟩ = some (.int .i64 aT) := (af fD.out 4).trans rfl; have Ui : w6.cell? ⟨lH, 5, none⟩ = some (.int .i64 aU) := (af fD.out 5).trans rfl; have Uj : w6.cell? ⟨lH, 6, none⟩ = some (.slice bT aj.length bJ) := (af fD.out 6).trans rfl; have Dq := ag fD.out 0; have Dt := ag fD.out 1; have Du := ag fD.out 2; have Dv := ag fD.out 3; have Uz := ag fD.out 4; have UA := ag fD.out 5; have UB := ag fD.out 6))
  go_loopg [5, 6, 20] k (fun kq v5 v6 v20 w' => ∃ (gV : Int) (vJ : Int) (gQ : Int), v5 = .int .i64 gV ∧ v6 = .int .i64 vJ ∧ v20 = .int .i64 gQ ∧ ae (fK.l0 kq a1 gV vJ aj (aj.length : Int) gQ az aC aA aG aT aU aj = some r) ∧ ae (kq ≤ k) ∧ ae (w'.heap[lH]? = some (.cells #[.int .u8 az, .int .i64 aC, .int .i64 aA, .int .i64 aG, .int .i64 aT, .int .i64 aU, (.slice bT aj.length bJ)] 26 (0, 0))) ∧ ae (Below w.heap.size w w'))
  case atStart => exact ⟨(wrap64 ((aj.length : Int) - 1)), (0), (0), (by rfl), (by rfl), (by rfl), H', ⟨Nat.le_refl _⟩, ⟨by exact fD.out⟩, ⟨by repeat ((with_reducible exact HB.out))⟩⟩
  case round =>
   clear H'
   clear c3 pY uq Dj Dk Dl Dn Uh Ui Uj Dq Dt Du Dv Uz UA UB
   obtain ⟨gV, vJ, gQ, rfl, rfl, rfl, HA, jI, fD, HB⟩ := hrel
   cases gk with
   | zero => exact absurd HA.out (by simp [fK.l0])
   | succ k1 =>
    have H := HA.out
    clear HA
    simp only [fK.l0] at H
    by_cases c8 : gQ < (aj.length : Int)
    ·rw [if_pos c8] at H
     have vZ : decide (gQ < (aj.length : Int)) = true := decide_eq_true c8
     clear c8
     by_cases c9 : 0 ≤ gQ
     ·rw [if_pos c9] at H
      have IA : decide (0 ≤ gQ) = true := decide_eq_true c9
      clear c9
      by_cases c10 : gQ < (aj.length : Int)
      ·rw [if_pos c10] at H
       have Cb : decide (gQ < (aj.length : Int)) = true := decide_eq_true c10
       clear c10
       replace H := Option.bind_eq_some_iff.mp H
       obtain ⟨D6, SB, H⟩ := H
       replace H : (fK.l0 k1 a1 (wrap64 (gV + D6)) (mx vJ D6) aj (aj.length : Int) (wrap64 (gQ + 1)) az aC aA aG aT aU aj) = some r := H
       have VI := ae.mk SB
       clear SB
       obtain ⟨acY, ae4⟩ : ∃ j_ : Int, (mx vJ D6) = j_ := ⟨_, rfl⟩
       replace H : (fK.l0 k1 a1 (wrap64 (gV + D6)) acY aj (aj.length : Int) (wrap64 (gQ + 1)) az aC aA aG aT aU aj) = some r := by (rw [ae4] at H; exact H)
       (skip)
       have aue : (if vJ < D6 then D6 else vJ) = acY := ae4
       have H' := ae.mk H
       clear H
       have adv : 0 ≤ (gQ : Int) := of_decide_eq_true (by (with_reducible assumption))
       have adH : gQ < (aj.length : Int) := of_decide_eq_true (by (with_reducible assumption))
       obtain ⟨am9, ZY, aau, ao1, Qj, Qk, Ql, Qm, Qn, Qo, Qp, Xo, Xm⟩ := nV lF.out gQ adv adH
       cases ao1
       replace Qj := (HB.out.cell (World.block_lt_of_cell? w _ Qj)).trans Qj
       replace Qk := (HB.out.cell (World.block_lt_of_cell? w _ Qk)).trans Qk
       replace Ql := (HB.out.cell (World.block_lt_of_cell? w _ Ql)).trans Ql
       replace Qm := (HB.out.cell (World.block_lt_of_cell? w _ Qm)).trans Qm
       replace Qn := (HB.out.cell (World.block_lt_of_cell? w _ Qn)).trans Qn
       replace Qo := (HB.out.cell (World.block_lt_of_cell? w _ Qo)).trans Qo
       replace Qp := (HB.out.cell (World.block_lt_of_cell? w _ Qp)).trans Qp
       have afG := ae.mk Xm
       have afE := ae.mk Xo
       clear Xm Xo
       replace adv := eq_true adv
       replace adH := eq_true adH
       go_wp2_with (first | ((with_reducible refine aQ (N := 8) rfl ?_); refine aX ?hg (N := 8) ?hd (cs := #[.int .u8 0, .int .i64 0, .int .i64 0, .int .i64 0, .int .i64 0, .int .i64 0, .slice none 0 0]) (t := 26) ?hr ?_; (case hd => rfl); (case hg => rfl); (case hr => (go_simp; done)); intro zB hg qI hbox hb; have um := ae.mk (hbox); have aes := ae.mk ((by rw [hg]; exact (aY (by repeat ((with_reducible exact HB.out)))) : w.heap.size ≤ zB)); have uN := ae.mk ((by rw [hg]; exact Nat.ne_of_lt (eP fD.out) : lH ≠ zB)); have aai := ae.mk ((by rw [hg]; exact Nat.ne_of_gt (eP fD.out) : zB ≠ lH)); replace fD := ae.mk (aK fD.out hb); replace HB := ae.mk (aH (by repeat ((with_reducible exact HB.out))) hb); clear hb hbox hg; have avb := aai.out; have avA := uN.out; have af9 : qI.cell? ⟨zB, 0, none⟩ = some (.int .u8 0) := (af um.out 0).trans rfl; have af_ : qI.cell? ⟨zB, 1, none⟩ = some (.int .i64 0) := (af um.out 1).trans rfl; have af' : qI.cell? ⟨zB, 2, none⟩ = some (.int .i64 0) := (af um.out 2).trans rfl; have aga : qI.cell? ⟨zB, 3, none⟩ = some (.int .i64 0) := (af um.out 3).trans rfl; have agb : qI.cell? ⟨zB, 4, none⟩ = some (.int .i64 0) := (af um.out 4).trans rfl; have agc : qI.cell? ⟨zB, 5, none⟩ = some (.int .i64 0) := (af um.out 5).trans rfl; have agd : qI.cell? ⟨zB, 6, none⟩ = some (.slice none 0 0) := (af um.out 6).trans rfl; have agY := ag um.out 0; have agZ := ag um.out 1; have ag0 := ag um.out 2; have ag1 := ag um.out 3; have ag2 := ag um.out 4; have ag3 := ag um.out 5; have ag4 := ag um.out 6) | ((with_reducible refine dn (f := 149) rfl ?_); refine gu (some 26) rfl rfl Try.func149 (by kernel_rfl) rfl #[.agg #[.int .u8 ((au aj gQ).f0), .int .i64 ((au aj gQ).f1.f0), .int .i64 ((au aj gQ).f1.f1), .int .i64 ((au aj gQ).f1.f2), .int .i64 ((au aj gQ).f1.f3), .int .i64 ((au aj gQ).f2), .slice ZY ((au aj gQ).f3).length aau], .int .u8 a1] rfl (by (try simp only [List.map_toArray, List.map_cons, List.map_nil]); rfl) ?_; (with_reducible refine (ih k1 (by have := jI.out; omega) ((au aj gQ).f0) ((au aj gQ).f1.f0) ((au aj gQ).f1.f1) ((au aj gQ).f1.f2) ((au aj gQ).f1.f3) ((au aj gQ).f2) _ _ ((au aj gQ).f3) a1 D6 _ ?fO ?gG VI.out).mono ?_); (case fO => exact Kd.iP afG.out (by repeat ((with_reducible first | exact HB.out | refine iw ?_ aes.out)))); (case gG => exact afE.out); rintro e w16 ⟨rfl, hb⟩; refine ⟨_, rfl, ?_⟩; replace fD := ae.mk (aK (g := lH) (o := .cells #[.int .u8 az, .int .i64 aC, .int .i64 aA, .int .i64 aG, .int .i64 aT, .int .i64 aU, .slice (some am9) aj.length bJ] 26 (0, 0)) (by refine bz ?_ uN.out _; refine bz ?_ uN.out _; refine bz ?_ uN.out _; refine bz ?_ uN.out _; refine bz ?_ uN.out _; refine bz ?_ uN.out _; refine bz ?_ uN.out _; exact fD.out) hb); replace um := ae.mk (aK (g := zB) (o := .cells #[.int .u8 ((au aj gQ).f0), .int .i64 ((au aj gQ).f1.f0), .int .i64 ((au aj gQ).f1.f1), .int .i64 ((au aj gQ).f1.f2), .int .i64 ((au aj gQ).f1.f3), .int .i64 ((au aj gQ).f2), .slice ZY ((au aj gQ).f3).length aau] 26 (0, 0)) (by refine bM (cs := #[.int .u8 ((au aj gQ).f0), .int .i64 ((au aj gQ).f1.f0), .int .i64 ((au aj gQ).f1.f1), .int .i64 ((au aj gQ).f1.f2), .int .i64 ((au aj gQ).f1.f3), .int .i64 ((au aj gQ).f2), .slice none 0 0]) ?_ 6 _ rfl; refine bM (cs := #[.int .u8 ((au aj gQ).f0), .int .i64 ((au aj gQ).f1.f0), .int .i64 ((au aj gQ).f1.f1), .int .i64 ((au aj gQ).f1.f2), .int .i64 ((au aj gQ).f1.f3), .int .i64 0, .slice none 0 0]) ?_ 5 _ rfl; refine bM (cs := #[.int .u8 ((au aj gQ).f0), .int .i64 ((au aj gQ).f1.f0), .int .i64 ((au aj gQ).f1.f1), .int .i64 ((au aj gQ).f1.f2), .int .i64 0, .int .i64 0, .slice none 0 0]) ?_ 4 _ rfl; refine bM (cs := #[.int .u8 ((au aj gQ).f0), .int .i64 ((au aj gQ).f1.f0), .int .i64 ((au aj gQ).f1.f1), .int .i64 0, .int .i64 0, .int .i64 0, .slice none 0 0]) ?_ 3 _ rfl; refine bM (cs := #[.int .u8 ((au aj gQ).f0), .int .i64 ((au aj gQ).f1.f0), .int .i64 0, .int .i64 0, .int .i64 0, .int .i64 0, .slice none 0 0]) ?_ 2 _ rfl; refine bM (cs := #[.int .u8 ((au aj gQ).f0), .int .i64 0, .int .i64 0, .int .i64 0, .int .i64 0, .int .i64 0, .slice none 0 0]) ?_ 1 _ rfl; refine bM (cs := #[.int .u8 0, .int .i64 0, .int .i64 0, .int .i64 0, .int .i64 0, .int .i64 0, .slice none 0 0]) ?_ 0 _ rfl; exact um.out) hb); replace HB := ae.mk (aH (by repeat ((with_reducible first | exact HB.out | refine iw ?_ aes.out))) hb); (try clear hb)))
       go_roundg k1
       case measure => have := jI.out; omega
       case rel => exact ⟨(wrap64 (gV + D6)), (acY), (wrap64 (gQ + 1)), (by rfl), (by rfl), (by rfl), H', ⟨by have := jI.out; omega⟩, ⟨by exact fD.out⟩, ⟨by repeat ((with_reducible exact HB.out))⟩⟩
      ·rw [if_neg c10] at H
       exact absurd H (by simp)
     ·rw [if_neg c9] at H
      exact absurd H (by simp)
    ·rw [if_neg c8] at H
     have vZ : decide (gQ < (aj.length : Int)) = false := decide_eq_false c8
     clear c8
     replace H := Option.bind_eq_some_iff.mp H
     obtain ⟨ZF, SE, H⟩ := H
     replace H : (if ZF = true then (some gV) else (some vJ)) = some r := H
     have MN := ae.mk SE
     clear SE
     by_cases c18 : ZF = true
     ·subst c18
      have H1 : (some gV) = some r := by rw [if_pos rfl] at H; exact H
      clear H
      have H := H1
      clear H1
      obtain rfl := Option.some.inj H
      have Ws : wr.cell? ⟨lH, 0, none⟩ = some (.int .u8 az) := (af fD.out 0).trans rfl
      have Wu : wr.cell? ⟨lH, 1, none⟩ = some (.int .i64 aC) := (af fD.out 1).trans rfl
      have Wv : wr.cell? ⟨lH, 2, none⟩ = some (.int .i64 aA) := (af fD.out 2).trans rfl
      have Wx : wr.cell? ⟨lH, 3, none⟩ = some (.int .i64 aG) := (af fD.out 3).trans rfl
      have agm : wr.cell? ⟨lH, 4, none⟩ = some (.int .i64 aT) := (af fD.out 4).trans rfl
      have agn : wr.cell? ⟨lH, 5, none⟩ = some (.int .i64 aU) := (af fD.out 5).trans rfl
      have agp : wr.cell? ⟨lH, 6, none⟩ = some (.slice bT aj.length bJ) := (af fD.out 6).trans rfl
      have WY := ag fD.out 0
      have WZ := ag fD.out 1
      have W9 := ag fD.out 2
      have W_ := ag fD.out 3
      have aha := ag fD.out 4
      have ahb := ag fD.out 5
      have ahc := ag fD.out 6
      go_wp2_with (((with_reducible refine dn (f := 99) rfl ?_); refine gu (some 36) rfl rfl Try.func99 (by kernel_rfl) rfl #[.agg #[.int .u8 az, .int .i64 aC, .int .i64 aA, .int .i64 aG, .int .i64 aT, .int .i64 aU, .slice bT aj.length bJ], .int .u8 a1] rfl (by (try simp only [List.map_toArray, List.map_cons, List.map_nil]); rfl) ?_; (with_reducible refine (qR.calls az aC aA aG aT aU _ _ aj a1 true _ ?fO ?gG MN.out).mono ?_); (case fO => repeat (exact (Kd.iP lF.out HB.out))); (case gG => exact rM.out); rintro e JF ⟨rfl, hb⟩; refine ⟨_, rfl, ?_⟩; replace fD := ae.mk (aK fD.out hb); replace HB := ae.mk (aH (by repeat ((with_reducible exact HB.out))) hb); (try clear hb)))
      go_ret
      exact ⟨by rfl, by repeat ((with_reducible exact HB.out))⟩
     ·replace c18 := Bool.eq_false_iff.mpr c18
      subst c18
      have H1 : (some vJ) = some r := by rw [if_neg (show ¬ (false = true) by decide)] at H; exact H
      clear H
      have H := H1
      clear H1
      obtain rfl := Option.some.inj H
      have Wy : wr.cell? ⟨lH, 0, none⟩ = some (.int .u8 az) := (af fD.out 0).trans rfl
      have WA : wr.cell? ⟨lH, 1, none⟩ = some (.int .i64 aC) := (af fD.out 1).trans rfl
      have WB : wr.cell? ⟨lH, 2, none⟩ = some (.int .i64 aA) := (af fD.out 2).trans rfl
      have WC : wr.cell? ⟨lH, 3, none⟩ = some (.int .i64 aG) := (af fD.out 3).trans rfl
      have WE : wr.cell? ⟨lH, 4, none⟩ = some (.int .i64 aT) := (af fD.out 4).trans rfl
      have WG : wr.cell? ⟨lH, 5, none⟩ = some (.int .i64 aU) := (af fD.out 5).trans rfl
      have WH : wr.cell? ⟨lH, 6, none⟩ = some (.slice bT aj.length bJ) := (af fD.out 6).trans rfl
      have Xa := ag fD.out 0
      have Xb := ag fD.out 1
      have Xc := ag fD.out 2
      have Xd := ag fD.out 3
      have Xe := ag fD.out 4
      have Xf := ag fD.out 5
      have Xg := ag fD.out 6
      go_wp2_with (((with_reducible refine dn (f := 99) rfl ?_); refine gu (some 36) rfl rfl Try.func99 (by kernel_rfl) rfl #[.agg #[.int .u8 az, .int .i64 aC, .int .i64 aA, .int .i64 aG, .int .i64 aT, .int .i64 aU, .slice bT aj.length bJ], .int .u8 a1] rfl (by (try simp only [List.map_toArray, List.map_cons, List.map_nil]); rfl) ?_; (with_reducible refine (qR.calls az aC aA aG aT aU _ _ aj a1 false _ ?fO ?gG MN.out).mono ?_); (case fO => repeat (exact (Kd.iP lF.out HB.out))); (case gG => exact rM.out); rintro e w22 ⟨rfl, hb⟩; refine ⟨_, rfl, ?_⟩; replace fD := ae.mk (aK fD.out hb); replace HB := ae.mk (aH (by repeat ((with_reducible exact HB.out))) hb); (try clear hb)))
      go_ret
      exact ⟨by rfl, by repeat ((with_reducible exact HB.out))⟩
def lW.f (az : Int) (aC : Int) (aA : Int) (aG : Int) (aT : Int) (aU : Int) (aj : List (aI)) (a1 : Int) : Option (Bool) := if az = 2 then (if a1 = 1 then (some true) else (if az = 3 then (some (a1 == 2)) else (some false))) else (if az = 3 then (some (a1 == 2)) else (some false))
theorem lW.calls (az : Int) (aC : Int) (aA : Int) (aG : Int) (aT : Int) (aU : Int) (bT : Option Addr) (bJ : Nat) (aj : List (aI)) (a1 : Int) (r : Bool) (w : World) (kJ : Kd.C k26 w bT aj.length aj) (lq : aj.length ≤ bJ) (h : lW.f az aC aA aG aT aU aj a1 = some r) :
  Calls Try.prog 88 #[.agg #[.int .u8 az, .int .i64 aC, .int .i64 aA, .int .i64 aG, .int .i64 aT, .int .i64 aU, .slice bT aj.length bJ], .int .u8 a1] w fun e w' => e = .returned (.bool r) ∧ Below w.heap.size w w' := by
 have Ae := Try.underlying26
 clear kJ lq
 have HB := ae.mk (Below.refl w.heap.size w)
 have H : (if az = 2 then (if a1 = 1 then (some true) else (if az = 3 then (some (a1 == 2)) else (some false))) else (if az = 3 then (some (a1 == 2)) else (some false))) = some r := h
 clear h
 by_cases c3 : az = 2
 ·rw [if_pos c3] at H
  have pY : (az == 2) = true := beq_iff_eq.mpr c3
  have uq : (az != 2) = false := bne_eq_false_iff_eq.mpr c3
  clear c3
  by_cases c4 : a1 = 1
  ·rw [if_pos c4] at H
   have zy : (a1 == 1) = true := beq_iff_eq.mpr c4
   have TE : (a1 != 1) = false := bne_eq_false_iff_eq.mpr c4
   clear c4
   obtain rfl := Option.some.inj H
   go_enter Try.func88, Try.ntmps88
   go_wp2_with (((with_reducible refine aQ (N := 2) rfl ?_); refine aX ?hg (N := 2) ?hd (cs := #[.int .u8 az, .int .i64 aC, .int .i64 aA, .int .i64 aG, .int .i64 aT, .int .i64 aU, .slice bT aj.length bJ]) (t := 26) ?hr ?_; (case hd => rfl); (case hg => rfl); (case hr => (go_simp; done)); intro jW hg w5 hbox hb; have ed := ae.mk (hbox); replace HB := ae.mk (aH (by repeat ((with_reducible exact HB.out))) hb); clear hb hbox hg; have IV : w5.cell? ⟨jW, 0, none⟩ = some (.int .u8 az) := (af ed.out 0).trans rfl; have IW : w5.cell? ⟨jW, 1, none⟩ = some (.int .i64 aC) := (af ed.out 1).trans rfl; have IX : w5.cell? ⟨jW, 2, none⟩ = some (.int .i64 aA) := (af ed.out 2).trans rfl; have IY : w5.cell? ⟨jW, 3, none⟩ = some (.int .i64 aG) := (af ed.out 3).trans rfl; have IZ : w5.cell? ⟨jW, 4, none⟩ = some (.int .i64 aT) := (af ed.out 4).trans rfl; have I4 : w5.cell? ⟨jW, 5, none⟩ = some (.int .i64 aU) := (af ed.out 5).trans rfl; have I5 : w5.cell? ⟨jW, 6, none⟩ = some (.slice bT aj.length bJ) := (af ed.out 6).trans rfl; have Je := ag ed.out 0; have Jf := ag ed.out 1; have Jg := ag ed.out 2; have Jh := ag ed.out 3; have Ji := ag ed.out 4; have Jj := ag ed.out 5; have Jk := ag ed.out 6))
   go_ret
   exact ⟨by rfl, by repeat ((with_reducible exact HB.out))⟩
  ·rw [if_neg c4] at H
   have zy : (a1 == 1) = false := beq_eq_false_iff_ne.mpr c4
   have TE : (a1 != 1) = true := bne_iff_ne.mpr c4
   by_cases c7 : az = 3
   ·rw [if_pos c7] at H
    have t_ : (az == 3) = true := beq_iff_eq.mpr c7
    have Iz : (az != 3) = false := bne_eq_false_iff_eq.mpr c7
    clear c7
    obtain rfl := Option.some.inj H
    go_enter Try.func88, Try.ntmps88
    go_wp2_with (((with_reducible refine aQ (N := 2) rfl ?_); refine aX ?hg (N := 2) ?hd (cs := #[.int .u8 az, .int .i64 aC, .int .i64 aA, .int .i64 aG, .int .i64 aT, .int .i64 aU, .slice bT aj.length bJ]) (t := 26) ?hr ?_; (case hd => rfl); (case hg => rfl); (case hr => (go_simp; done)); intro jW hg w8 hbox hb; have ed := ae.mk (hbox); replace HB := ae.mk (aH (by repeat ((with_reducible exact HB.out))) hb); clear hb hbox hg; have aaK : w8.cell? ⟨jW, 0, none⟩ = some (.int .u8 az) := (af ed.out 0).trans rfl; have aaL : w8.cell? ⟨jW, 1, none⟩ = some (.int .i64 aC) := (af ed.out 1).trans rfl; have aaM : w8.cell? ⟨jW, 2, none⟩ = some (.int .i64 aA) := (af ed.out 2).trans rfl; have aaN : w8.cell? ⟨jW, 3, none⟩ = some (.int .i64 aG) := (af ed.out 3).trans rfl; have aaO : w8.cell? ⟨jW, 4, none⟩ = some (.int .i64 aT) := (af ed.out 4).trans rfl; have aaP : w8.cell? ⟨jW, 5, none⟩ = some (.int .i64 aU) := (af ed.out 5).trans rfl; have aaQ : w8.cell? ⟨jW, 6, none⟩ = some (.slice bT aj.length bJ) := (af ed.out 6).trans rfl; have aaV := ag ed.out 0; have aaW := ag ed.out 1; have aaX := ag ed.out 2; have aaY := ag ed.out 3; have aaZ := ag ed.out 4; have aa0 := ag ed.out 5; have aa1 := ag ed.out 6))
    go_ret
    exact ⟨by rfl, by repeat ((with_reducible exact HB.out))⟩
   ·rw [if_neg c7] at H
    have t_ : (az == 3) = false := beq_eq_false_iff_ne.mpr c7
    have Iz : (az != 3) = true := bne_iff_ne.mpr c7
    obtain rfl := Option.some.inj H
    go_enter Try.func88, Try.ntmps88
    go_wp2_with (((with_reducible refine aQ (N := 2) rfl ?_); refine aX ?hg (N := 2) ?hd (cs := #[.int .u8 az, .int .i64 aC, .int .i64 aA, .int .i64 aG, .int .i64 aT, .int .i64 aU, .slice bT aj.length bJ]) (t := 26) ?hr ?_; (case hd => rfl); (case hg => rfl); (case hr => (go_simp; done)); intro jW hg w10 hbox hb; have ed := ae.mk (hbox); replace HB := ae.mk (aH (by repeat ((with_reducible exact HB.out))) hb); clear hb hbox hg; have yJ : w10.cell? ⟨jW, 0, none⟩ = some (.int .u8 az) := (af ed.out 0).trans rfl; have yK : w10.cell? ⟨jW, 1, none⟩ = some (.int .i64 aC) := (af ed.out 1).trans rfl; have yL : w10.cell? ⟨jW, 2, none⟩ = some (.int .i64 aA) := (af ed.out 2).trans rfl; have yM : w10.cell? ⟨jW, 3, none⟩ = some (.int .i64 aG) := (af ed.out 3).trans rfl; have FM : w10.cell? ⟨jW, 4, none⟩ = some (.int .i64 aT) := (af ed.out 4).trans rfl; have FN : w10.cell? ⟨jW, 5, none⟩ = some (.int .i64 aU) := (af ed.out 5).trans rfl; have FO : w10.cell? ⟨jW, 6, none⟩ = some (.slice bT aj.length bJ) := (af ed.out 6).trans rfl; have yO := ag ed.out 0; have yP := ag ed.out 1; have yQ := ag ed.out 2; have yR := ag ed.out 3; have FV := ag ed.out 4; have FW := ag ed.out 5; have FX := ag ed.out 6))
    go_ret
    exact ⟨by rfl, by repeat ((with_reducible exact HB.out))⟩
 ·rw [if_neg c3] at H
  have pY : (az == 2) = false := beq_eq_false_iff_ne.mpr c3
  have uq : (az != 2) = true := bne_iff_ne.mpr c3
  by_cases c12 : az = 3
  ·rw [if_pos c12] at H
   have Cc : (az == 3) = true := beq_iff_eq.mpr c12
   have Nu : (az != 3) = false := bne_eq_false_iff_eq.mpr c12
   clear c12
   obtain rfl := Option.some.inj H
   go_enter Try.func88, Try.ntmps88
   go_wp2_with (((with_reducible refine aQ (N := 2) rfl ?_); refine aX ?hg (N := 2) ?hd (cs := #[.int .u8 az, .int .i64 aC, .int .i64 aA, .int .i64 aG, .int .i64 aT, .int .i64 aU, .slice bT aj.length bJ]) (t := 26) ?hr ?_; (case hd => rfl); (case hg => rfl); (case hr => (go_simp; done)); intro jW hg qI hbox hb; have ed := ae.mk (hbox); replace HB := ae.mk (aH (by repeat ((with_reducible exact HB.out))) hb); clear hb hbox hg; have JY : qI.cell? ⟨jW, 0, none⟩ = some (.int .u8 az) := (af ed.out 0).trans rfl; have JZ : qI.cell? ⟨jW, 1, none⟩ = some (.int .i64 aC) := (af ed.out 1).trans rfl; have J3 : qI.cell? ⟨jW, 2, none⟩ = some (.int .i64 aA) := (af ed.out 2).trans rfl; have J4 : qI.cell? ⟨jW, 3, none⟩ = some (.int .i64 aG) := (af ed.out 3).trans rfl; have af6 : qI.cell? ⟨jW, 4, none⟩ = some (.int .i64 aT) := (af ed.out 4).trans rfl; have af7 : qI.cell? ⟨jW, 5, none⟩ = some (.int .i64 aU) := (af ed.out 5).trans rfl; have af8 : qI.cell? ⟨jW, 6, none⟩ = some (.slice bT aj.length bJ) := (af ed.out 6).trans rfl; have J9 := ag ed.out 0; have J_ := ag ed.out 1; have Ko := ag ed.out 2; have Kq := ag ed.out 3; have agV := ag ed.out 4; have agW := ag ed.out 5; have agX := ag ed.out 6))
   go_ret
   exact ⟨by rfl, by repeat ((with_reducible exact HB.out))⟩
  ·rw [if_neg c12] at H
   have Cc : (az == 3) = false := beq_eq_false_iff_ne.mpr c12
   have Nu : (az != 3) = true := bne_iff_ne.mpr c12
   obtain rfl := Option.some.inj H
   go_enter Try.func88, Try.ntmps88
   go_wp2_with (((with_reducible refine aQ (N := 2) rfl ?_); refine aX ?hg (N := 2) ?hd (cs := #[.int .u8 az, .int .i64 aC, .int .i64 aA, .int .i64 aG, .int .i64 aT, .int .i64 aU, .slice bT aj.length bJ]) (t := 26) ?hr ?_; (case hd => rfl); (case hg => rfl); (case hr => (go_simp; done)); intro jW hg pz hbox hb; have ed := ae.mk (hbox); replace HB := ae.mk (aH (by repeat ((with_reducible exact HB.out))) hb); clear hb hbox hg; have FP : pz.cell? ⟨jW, 0, none⟩ = some (.int .u8 az) := (af ed.out 0).trans rfl; have FQ : pz.cell? ⟨jW, 1, none⟩ = some (.int .i64 aC) := (af ed.out 1).trans rfl; have FT : pz.cell? ⟨jW, 2, none⟩ = some (.int .i64 aA) := (af ed.out 2).trans rfl; have FU : pz.cell? ⟨jW, 3, none⟩ = some (.int .i64 aG) := (af ed.out 3).trans rfl; have Wn : pz.cell? ⟨jW, 4, none⟩ = some (.int .i64 aT) := (af ed.out 4).trans rfl; have Wp : pz.cell? ⟨jW, 5, none⟩ = some (.int .i64 aU) := (af ed.out 5).trans rfl; have Wq : pz.cell? ⟨jW, 6, none⟩ = some (.slice bT aj.length bJ) := (af ed.out 6).trans rfl; have FY := ag ed.out 0; have FZ := ag ed.out 1; have F5 := ag ed.out 2; have F6 := ag ed.out 3; have WV := ag ed.out 4; have WW := ag ed.out 5; have WX := ag ed.out 6))
   go_ret
   exact ⟨by rfl, by repeat ((with_reducible exact HB.out))⟩
mutual
def dE.l0 : Nat → Int → Int → Int → Int → Int → Int → Int → Int → Int → Int → List (aI) → Option (Int)
 | 0, _, _, _, _, _, _, _, _, _, _, _ => none
 | k + 1, x1, x5, x14, x15, D_, Ea, Eb, Ec, Ed, Ee, qg => if x15 < x14 then (if 0 ≤ x15 then (if x15 < (qg.length : Int) then ((dE.f k ((au qg x15).f0) ((au qg x15).f1.f0) ((au qg x15).f1.f1) ((au qg x15).f1.f2) ((au qg x15).f1.f3) ((au qg x15).f2) ((au qg x15).f3) x1).bind fun nO => ((lW.f D_ Ea Eb Ec Ed Ee qg x1).bind fun Ky => (if Ky = true then (if x15 > 0 then (dE.l0 k x1 (wrap64 ((wrap64 (x5 + nO)) + 1)) x14 (wrap64 (x15 + 1)) D_ Ea Eb Ec Ed Ee qg) else (dE.l0 k x1 (wrap64 (x5 + nO)) x14 (wrap64 (x15 + 1)) D_ Ea Eb Ec Ed Ee qg)) else (if nO > x5 then (dE.l0 k x1 nO x14 (wrap64 (x15 + 1)) D_ Ea Eb Ec Ed Ee qg) else (dE.l0 k x1 x5 x14 (wrap64 (x15 + 1)) D_ Ea Eb Ec Ed Ee qg))))) else (none)) else (none)) else (some x5)
def dE.f : Nat → Int → Int → Int → Int → Int → Int → List (aI) → Int → Option (Int)
 | 0, _, _, _, _, _, _, _, _ => none
 | k + 1, az, aC, aA, aG, aT, aU, aj, a1 => if (aj.length : Int) = 0 then (some 1) else (dE.l0 k a1 0 (aj.length : Int) 0 az aC aA aG aT aU aj)
end
theorem dE.calls (k : Nat) : ∀ (az : Int) (aC : Int) (aA : Int) (aG : Int) (aT : Int) (aU : Int) (bT : Option Addr) (bJ : Nat) (aj : List (aI)) (a1 : Int) (r : Int) (w : World) (kJ : Kd.C k26 w bT aj.length aj) (lq : aj.length ≤ bJ) (h : dE.f k az aC aA aG aT aU aj a1 = some r),
  Calls Try.prog 152 #[.agg #[.int .u8 az, .int .i64 aC, .int .i64 aA, .int .i64 aG, .int .i64 aT, .int .i64 aU, .slice bT aj.length bJ], .int .u8 a1] w fun e w' => e = .returned (.int .i64 r) ∧ Below w.heap.size w w' := by
 induction k using Nat.strongRecOn with
 | _ k ih =>
 intro az aC aA aG aT aU bT bJ aj a1 r w kJ lq h
 cases k with
 | zero => exact absurd h (by simp [dE.f])
 | succ k =>
 simp only [dE.f] at h
 have Ae := Try.underlying26
 have lF := ae.mk kJ
 have rM := ae.mk lq
 clear kJ lq
 have HB := ae.mk (Below.refl w.heap.size w)
 have H : (if (aj.length : Int) = 0 then (some 1) else (dE.l0 k a1 0 (aj.length : Int) 0 az aC aA aG aT aU aj)) = some r := h
 clear h
 by_cases c3 : (aj.length : Int) = 0
 ·rw [if_pos c3] at H
  have pY : ((aj.length : Int) == 0) = true := beq_iff_eq.mpr c3
  have uq : ((aj.length : Int) != 0) = false := bne_eq_false_iff_eq.mpr c3
  clear c3
  obtain rfl := Option.some.inj H
  go_enter Try.func152, Try.ntmps152
  go_wp2_with (((with_reducible refine aQ (N := 2) rfl ?_); refine aX ?hg (N := 2) ?hd (cs := #[.int .u8 az, .int .i64 aC, .int .i64 aA, .int .i64 aG, .int .i64 aT, .int .i64 aU, .slice bT aj.length bJ]) (t := 26) ?hr ?_; (case hd => rfl); (case hg => rfl); (case hr => (go_simp; done)); intro dQ hg w4 hbox hb; have a_ := ae.mk (hbox); replace HB := ae.mk (aH (by repeat ((with_reducible exact HB.out))) hb); clear hb hbox hg; have IM : w4.cell? ⟨dQ, 0, none⟩ = some (.int .u8 az) := (af a_.out 0).trans rfl; have IP : w4.cell? ⟨dQ, 1, none⟩ = some (.int .i64 aC) := (af a_.out 1).trans rfl; have IQ : w4.cell? ⟨dQ, 2, none⟩ = some (.int .i64 aA) := (af a_.out 2).trans rfl; have IU : w4.cell? ⟨dQ, 3, none⟩ = some (.int .i64 aG) := (af a_.out 3).trans rfl; have Ue : w4.cell? ⟨dQ, 4, none⟩ = some (.int .i64 aT) := (af a_.out 4).trans rfl; have Uf : w4.cell? ⟨dQ, 5, none⟩ = some (.int .i64 aU) := (af a_.out 5).trans rfl; have Ug : w4.cell? ⟨dQ, 6, none⟩ = some (.slice bT aj.length bJ) := (af a_.out 6).trans rfl; have Ja := ag a_.out 0; have Jb := ag a_.out 1; have Jc := ag a_.out 2; have Jd := ag a_.out 3; have Uw := ag a_.out 4; have Ux := ag a_.out 5; have Uy := ag a_.out 6))
  go_ret
  exact ⟨by rfl, by repeat ((with_reducible exact HB.out))⟩
 ·rw [if_neg c3] at H
  have pY : ((aj.length : Int) == 0) = false := beq_eq_false_iff_ne.mpr c3
  have uq : ((aj.length : Int) != 0) = true := bne_iff_ne.mpr c3
  have Yy : ¬ (aj = []) := fun h_ => c3 (by rw [h_]; rfl)
  have H' := ae.mk H
  clear H
  go_enter Try.func152, Try.ntmps152
  go_wp2_with (((with_reducible refine aQ (N := 2) rfl ?_); refine aX ?hg (N := 2) ?hd (cs := #[.int .u8 az, .int .i64 aC, .int .i64 aA, .int .i64 aG, .int .i64 aT, .int .i64 aU, .slice bT aj.length bJ]) (t := 26) ?hr ?_; (case hd => rfl); (case hg => rfl); (case hr => (go_simp; done)); intro dQ hg w6 hbox hb; have a_ := ae.mk (hbox); replace HB := ae.mk (aH (by repeat ((with_reducible exact HB.out))) hb); clear hb hbox hg; have Dj : w6.cell? ⟨dQ, 0, none⟩ = some (.int .u8 az) := (af a_.out 0).trans rfl; have Dk : w6.cell? ⟨dQ, 1, none⟩ = some (.int .i64 aC) := (af a_.out 1).trans rfl; have Dl : w6.cell? ⟨dQ, 2, none⟩ = some (.int .i64 aA) := (af a_.out 2).trans rfl; have Dn : w6.cell? ⟨dQ, 3, none⟩ = some (.int .i64 aG) := (af a_.out 3).trans rfl; have Uh : w6.cell? ⟨dQ, 4, none⟩ = some (.int .i64 aT) := (af a_.out 4).trans rfl; have Ui : w6.cell? ⟨dQ, 5, none⟩ = some (.int .i64 aU) := (af a_.out 5).trans rfl; have Uj : w6.cell? ⟨dQ, 6, none⟩ = some (.slice bT aj.length bJ) := (af a_.out 6).trans rfl; have Dq := ag a_.out 0; have Dt := ag a_.out 1; have Du := ag a_.out 2; have Dv := ag a_.out 3; have Uz := ag a_.out 4; have UA := ag a_.out 5; have UB := ag a_.out 6))
  go_loopg [5, 15] k (fun kq v5 v15 w' => ∃ (gV : Int) (dC : Int), v5 = .int .i64 gV ∧ v15 = .int .i64 dC ∧ ae (dE.l0 kq a1 gV (aj.length : Int) dC az aC aA aG aT aU aj = some r) ∧ ae (kq ≤ k) ∧ ae (w'.heap[dQ]? = some (.cells #[.int .u8 az, .int .i64 aC, .int .i64 aA, .int .i64 aG, .int .i64 aT, .int .i64 aU, (.slice bT aj.length bJ)] 26 (0, 0))) ∧ ae (Below w.heap.size w w'))
  case atStart => exact ⟨(0), (0), (by rfl), (by rfl), H', ⟨Nat.le_refl _⟩, ⟨by exact a_.out⟩, ⟨by repeat ((with_reducible exact HB.out))⟩⟩
  case round =>
   clear H'
   clear c3 pY uq Yy Dj Dk Dl Dn Uh Ui Uj Dq Dt Du Dv Uz UA UB
   obtain ⟨gV, dC, rfl, rfl, HA, jI, a_, HB⟩ := hrel
   cases gk with
   | zero => exact absurd HA.out (by simp [dE.l0])
   | succ k1 =>
    have H := HA.out
    clear HA
    simp only [dE.l0] at H
    by_cases c8 : dC < (aj.length : Int)
    ·rw [if_pos c8] at H
     have vZ : decide (dC < (aj.length : Int)) = true := decide_eq_true c8
     clear c8
     by_cases c9 : 0 ≤ dC
     ·rw [if_pos c9] at H
      have IA : decide (0 ≤ dC) = true := decide_eq_true c9
      clear c9
      by_cases c10 : dC < (aj.length : Int)
      ·rw [if_pos c10] at H
       have Cb : decide (dC < (aj.length : Int)) = true := decide_eq_true c10
       clear c10
       replace H := Option.bind_eq_some_iff.mp H
       obtain ⟨nO, SB, H⟩ := H
       replace H : ((lW.f az aC aA aG aT aU aj a1).bind fun Ky => (if Ky = true then (if dC > 0 then (dE.l0 k1 a1 (wrap64 ((wrap64 (gV + nO)) + 1)) (aj.length : Int) (wrap64 (dC + 1)) az aC aA aG aT aU aj) else (dE.l0 k1 a1 (wrap64 (gV + nO)) (aj.length : Int) (wrap64 (dC + 1)) az aC aA aG aT aU aj)) else (if nO > gV then (dE.l0 k1 a1 nO (aj.length : Int) (wrap64 (dC + 1)) az aC aA aG aT aU aj) else (dE.l0 k1 a1 gV (aj.length : Int) (wrap64 (dC + 1)) az aC aA aG aT aU aj)))) = some r := H
       have VI := ae.mk SB
       clear SB
       replace H := Option.bind_eq_some_iff.mp H
       obtain ⟨Ky, aiV, H⟩ := H
       replace H : (if Ky = true then (if dC > 0 then (dE.l0 k1 a1 (wrap64 ((wrap64 (gV + nO)) + 1)) (aj.length : Int) (wrap64 (dC + 1)) az aC aA aG aT aU aj) else (dE.l0 k1 a1 (wrap64 (gV + nO)) (aj.length : Int) (wrap64 (dC + 1)) az aC aA aG aT aU aj)) else (if nO > gV then (dE.l0 k1 a1 nO (aj.length : Int) (wrap64 (dC + 1)) az aC aA aG aT aU aj) else (dE.l0 k1 a1 gV (aj.length : Int) (wrap64 (dC + 1)) az aC aA aG aT aU aj))) = some r := H
       have A12 := ae.mk aiV
       clear aiV
       by_cases c13 : Ky = true
       ·subst c13
        have H1 : (if dC > 0 then (dE.l0 k1 a1 (wrap64 ((wrap64 (gV + nO)) + 1)) (aj.length : Int) (wrap64 (dC + 1)) az aC aA aG aT aU aj) else (dE.l0 k1 a1 (wrap64 (gV + nO)) (aj.length : Int) (wrap64 (dC + 1)) az aC aA aG aT aU aj)) = some r := by rw [if_pos rfl] at H; exact H
        clear H
        have H := H1
        clear H1
        by_cases c14 : dC > 0
        ·rw [if_pos c14] at H
         have RU : decide (0 < dC) = true := decide_eq_true c14
         clear c14
         have H' := ae.mk H
         clear H
         have af9 : wr.cell? ⟨dQ, 0, none⟩ = some (.int .u8 az) := (af a_.out 0).trans rfl
         have af_ : wr.cell? ⟨dQ, 1, none⟩ = some (.int .i64 aC) := (af a_.out 1).trans rfl
         have af' : wr.cell? ⟨dQ, 2, none⟩ = some (.int .i64 aA) := (af a_.out 2).trans rfl
         have aga : wr.cell? ⟨dQ, 3, none⟩ = some (.int .i64 aG) := (af a_.out 3).trans rfl
         have agb : wr.cell? ⟨dQ, 4, none⟩ = some (.int .i64 aT) := (af a_.out 4).trans rfl
         have agc : wr.cell? ⟨dQ, 5, none⟩ = some (.int .i64 aU) := (af a_.out 5).trans rfl
         have agd : wr.cell? ⟨dQ, 6, none⟩ = some (.slice bT aj.length bJ) := (af a_.out 6).trans rfl
         have agY := ag a_.out 0
         have agZ := ag a_.out 1
         have ag0 := ag a_.out 2
         have ag1 := ag a_.out 3
         have ag2 := ag a_.out 4
         have ag3 := ag a_.out 5
         have ag4 := ag a_.out 6
         have vC : 0 ≤ (dC : Int) := of_decide_eq_true (by (with_reducible assumption))
         have vF : dC < (aj.length : Int) := of_decide_eq_true (by (with_reducible assumption))
         obtain ⟨wP, zQ, zY, Hg, oI, oJ, oK, oL, oM, oN, oO, rq, rf⟩ := nV lF.out dC vC vF
         cases Hg
         replace oI := (HB.out.cell (World.block_lt_of_cell? w _ oI)).trans oI
         replace oJ := (HB.out.cell (World.block_lt_of_cell? w _ oJ)).trans oJ
         replace oK := (HB.out.cell (World.block_lt_of_cell? w _ oK)).trans oK
         replace oL := (HB.out.cell (World.block_lt_of_cell? w _ oL)).trans oL
         replace oM := (HB.out.cell (World.block_lt_of_cell? w _ oM)).trans oM
         replace oN := (HB.out.cell (World.block_lt_of_cell? w _ oN)).trans oN
         replace oO := (HB.out.cell (World.block_lt_of_cell? w _ oO)).trans oO
         have yh := ae.mk rf
         have yg := ae.mk rq
         clear rf rq
         replace vC := eq_true vC
         replace vF := eq_true vF
         go_wp2_with (first | ((with_reducible refine dn (f := 152) rfl ?_); refine gu (some 24) rfl rfl Try.func152 (by kernel_rfl) rfl #[.agg #[.int .u8 ((au aj dC).f0), .int .i64 ((au aj dC).f1.f0), .int .i64 ((au aj dC).f1.f1), .int .i64 ((au aj dC).f1.f2), .int .i64 ((au aj dC).f1.f3), .int .i64 ((au aj dC).f2), .slice zQ ((au aj dC).f3).length zY], .int .u8 a1] rfl (by (try simp only [List.map_toArray, List.map_cons, List.map_nil]); rfl) ?_; (with_reducible refine (ih k1 (by have := jI.out; omega) ((au aj dC).f0) ((au aj dC).f1.f0) ((au aj dC).f1.f1) ((au aj dC).f1.f2) ((au aj dC).f1.f3) ((au aj dC).f2) _ _ ((au aj dC).f3) a1 nO _ ?fO ?gG VI.out).mono ?_); (case fO => repeat (exact (Kd.iP yh.out HB.out))); (case gG => exact yg.out); rintro e w16 ⟨rfl, hb⟩; refine ⟨_, rfl, ?_⟩; replace a_ := ae.mk (aK a_.out hb); replace HB := ae.mk (aH (by repeat ((with_reducible exact HB.out))) hb); (try clear hb); have age : w16.cell? ⟨dQ, 0, none⟩ = some (.int .u8 az) := (af a_.out 0).trans rfl; have agf : w16.cell? ⟨dQ, 1, none⟩ = some (.int .i64 aC) := (af a_.out 1).trans rfl; have agh : w16.cell? ⟨dQ, 2, none⟩ = some (.int .i64 aA) := (af a_.out 2).trans rfl; have agi : w16.cell? ⟨dQ, 3, none⟩ = some (.int .i64 aG) := (af a_.out 3).trans rfl; have agj : w16.cell? ⟨dQ, 4, none⟩ = some (.int .i64 aT) := (af a_.out 4).trans rfl; have agk : w16.cell? ⟨dQ, 5, none⟩ = some (.int .i64 aU) := (af a_.out 5).trans rfl; have agl : w16.cell? ⟨dQ, 6, none⟩ = some (.slice (some wP) aj.length bJ) := (af a_.out 6).trans rfl; have ag5 := ag a_.out 0; have ag6 := ag a_.out 1; have ag7 := ag a_.out 2; have ag8 := ag a_.out 3; have ag9 := ag a_.out 4; have ag_ := ag a_.out 5; have ag' := ag a_.out 6) | ((with_reducible refine dn (f := 88) rfl ?_); refine gu (some 27) rfl rfl Try.func88 (by kernel_rfl) rfl #[.agg #[.int .u8 az, .int .i64 aC, .int .i64 aA, .int .i64 aG, .int .i64 aT, .int .i64 aU, .slice (some wP) aj.length bJ], .int .u8 a1] rfl (by (try simp only [List.map_toArray, List.map_cons, List.map_nil]); rfl) ?_; (with_reducible refine (lW.calls az aC aA aG aT aU _ _ aj a1 true _ ?fO ?gG A12.out).mono ?_); (case fO => repeat (exact (Kd.iP lF.out HB.out))); (case gG => exact rM.out); rintro e w18 ⟨rfl, hb⟩; refine ⟨_, rfl, ?_⟩; replace a_ := ae.mk (aK a_.out hb); replace HB := ae.mk (aH (by repeat ((with_reducible exact HB.out))) hb); (try clear hb)))
         go_roundg k1
         case measure => have := jI.out; omega
         case rel => exact ⟨(wrap64 ((wrap64 (gV + nO)) + 1)), (wrap64 (dC + 1)), (by rfl), (by rfl), H', ⟨by have := jI.out; omega⟩, ⟨by exact a_.out⟩, ⟨by repeat ((with_reducible exact HB.out))⟩⟩
        ·rw [if_neg c14] at H
         have RU : decide (0 < dC) = false := decide_eq_false c14
         clear c14
         have H' := ae.mk H
         clear H
         have Ws : wr.cell? ⟨dQ, 0, none⟩ = some (.int .u8 az) := (af a_.out 0).trans rfl
         have Wu : wr.cell? ⟨dQ, 1, none⟩ = some (.int .i64 aC) := (af a_.out 1).trans rfl
         have Wv : wr.cell? ⟨dQ, 2, none⟩ = some (.int .i64 aA) := (af a_.out 2).trans rfl
         have Wx : wr.cell? ⟨dQ, 3, none⟩ = some (.int .i64 aG) := (af a_.out 3).trans rfl
         have agm : wr.cell? ⟨dQ, 4, none⟩ = some (.int .i64 aT) := (af a_.out 4).trans rfl
         have agn : wr.cell? ⟨dQ, 5, none⟩ = some (.int .i64 aU) := (af a_.out 5).trans rfl
         have agp : wr.cell? ⟨dQ, 6, none⟩ = some (.slice bT aj.length bJ) := (af a_.out 6).trans rfl
         have WY := ag a_.out 0
         have WZ := ag a_.out 1
         have W9 := ag a_.out 2
         have W_ := ag a_.out 3
         have aha := ag a_.out 4
         have ahb := ag a_.out 5
         have ahc := ag a_.out 6
         have vC : 0 ≤ (dC : Int) := of_decide_eq_true (by (with_reducible assumption))
         have vF : dC < (aj.length : Int) := of_decide_eq_true (by (with_reducible assumption))
         obtain ⟨wP, zQ, zY, Hg, oI, oJ, oK, oL, oM, oN, oO, rq, rf⟩ := nV lF.out dC vC vF
         cases Hg
         replace oI := (HB.out.cell (World.block_lt_of_cell? w _ oI)).trans oI
         replace oJ := (HB.out.cell (World.block_lt_of_cell? w _ oJ)).trans oJ
         replace oK := (HB.out.cell (World.block_lt_of_cell? w _ oK)).trans oK
         replace oL := (HB.out.cell (World.block_lt_of_cell? w _ oL)).trans oL
         replace oM := (HB.out.cell (World.block_lt_of_cell? w _ oM)).trans oM
         replace oN := (HB.out.cell (World.block_lt_of_cell? w _ oN)).trans oN
         replace oO := (HB.out.cell (World.block_lt_of_cell? w _ oO)).trans oO
         have yh := ae.mk rf
         have yg := ae.mk rq
         clear rf rq
         replace vC := eq_true vC
         replace vF := eq_true vF
         go_wp2_with (first | ((with_reducible refine dn (f := 152) rfl ?_); refine gu (some 24) rfl rfl Try.func152 (by kernel_rfl) rfl #[.agg #[.int .u8 ((au aj dC).f0), .int .i64 ((au aj dC).f1.f0), .int .i64 ((au aj dC).f1.f1), .int .i64 ((au aj dC).f1.f2), .int .i64 ((au aj dC).f1.f3), .int .i64 ((au aj dC).f2), .slice zQ ((au aj dC).f3).length zY], .int .u8 a1] rfl (by (try simp only [List.map_toArray, List.map_cons, List.map_nil]); rfl) ?_; (with_reducible refine (ih k1 (by have := jI.out; omega) ((au aj dC).f0) ((au aj dC).f1.f0) ((au aj dC).f1.f1) ((au aj dC).f1.f2) ((au aj dC).f1.f3) ((au aj dC).f2) _ _ ((au aj dC).f3) a1 nO _ ?fO ?gG VI.out).mono ?_); (case fO => repeat (exact (Kd.iP yh.out HB.out))); (case gG => exact yg.out); rintro e JF ⟨rfl, hb⟩; refine ⟨_, rfl, ?_⟩; replace a_ := ae.mk (aK a_.out hb); replace HB := ae.mk (aH (by repeat ((with_reducible exact HB.out))) hb); (try clear hb); have Wy : JF.cell? ⟨dQ, 0, none⟩ = some (.int .u8 az) := (af a_.out 0).trans rfl; have WA : JF.cell? ⟨dQ, 1, none⟩ = some (.int .i64 aC) := (af a_.out 1).trans rfl; have WB : JF.cell? ⟨dQ, 2, none⟩ = some (.int .i64 aA) := (af a_.out 2).trans rfl; have WC : JF.cell? ⟨dQ, 3, none⟩ = some (.int .i64 aG) := (af a_.out 3).trans rfl; have WE : JF.cell? ⟨dQ, 4, none⟩ = some (.int .i64 aT) := (af a_.out 4).trans rfl; have WG : JF.cell? ⟨dQ, 5, none⟩ = some (.int .i64 aU) := (af a_.out 5).trans rfl; have WH : JF.cell? ⟨dQ, 6, none⟩ = some (.slice (some wP) aj.length bJ) := (af a_.out 6).trans rfl; have Xa := ag a_.out 0; have Xb := ag a_.out 1; have Xc := ag a_.out 2; have Xd := ag a_.out 3; have Xe := ag a_.out 4; have Xf := ag a_.out 5; have Xg := ag a_.out 6) | ((with_reducible refine dn (f := 88) rfl ?_); refine gu (some 27) rfl rfl Try.func88 (by kernel_rfl) rfl #[.agg #[.int .u8 az, .int .i64 aC, .int .i64 aA, .int .i64 aG, .int .i64 aT, .int .i64 aU, .slice (some wP) aj.length bJ], .int .u8 a1] rfl (by (try simp only [List.map_toArray, List.map_cons, List.map_nil]); rfl) ?_; (with_reducible refine (lW.calls az aC aA aG aT aU _ _ aj a1 true _ ?fO ?gG A12.out).mono ?_); (case fO => repeat (exact (Kd.iP lF.out HB.out))); (case gG => exact rM.out); rintro e w22 ⟨rfl, hb⟩; refine ⟨_, rfl, ?_⟩; replace a_ := ae.mk (aK a_.out hb); replace HB := ae.mk (aH (by repeat ((with_reducible exact HB.out))) hb); (try clear hb)))
         go_roundg k1
         case measure => have := jI.out; omega
         case rel => exact ⟨(wrap64 (gV + nO)), (wrap64 (dC + 1)), (by rfl), (by rfl), H', ⟨by have := jI.out; omega⟩, ⟨by exact a_.out⟩, ⟨by repeat ((with_reducible exact HB.out))⟩⟩
       ·replace c13 := Bool.eq_false_iff.mpr c13
        subst c13
        have H1 : (if nO > gV then (dE.l0 k1 a1 nO (aj.length : Int) (wrap64 (dC + 1)) az aC aA aG aT aU aj) else (dE.l0 k1 a1 gV (aj.length : Int) (wrap64 (dC + 1)) az aC aA aG aT aU aj)) = some r := by rw [if_neg (show ¬ (false = true) by decide)] at H; exact H
        clear H
        have H := H1
        clear H1
        by_cases c23 : nO > gV
        ·rw [if_pos c23] at H
         have G5 : decide (gV < nO) = true := decide_eq_true c23
         clear c23
         have H' := ae.mk H
         clear H
         have O9 : wr.cell? ⟨dQ, 0, none⟩ = some (.int .u8 az) := (af a_.out 0).trans rfl
         have O_ : wr.cell? ⟨dQ, 1, none⟩ = some (.int .i64 aC) := (af a_.out 1).trans rfl
         have Pg : wr.cell? ⟨dQ, 2, none⟩ = some (.int .i64 aA) := (af a_.out 2).trans rfl
         have Ph : wr.cell? ⟨dQ, 3, none⟩ = some (.int .i64 aG) := (af a_.out 3).trans rfl
         have apT : wr.cell? ⟨dQ, 4, none⟩ = some (.int .i64 aT) := (af a_.out 4).trans rfl
         have apU : wr.cell? ⟨dQ, 5, none⟩ = some (.int .i64 aU) := (af a_.out 5).trans rfl
         have apV : wr.cell? ⟨dQ, 6, none⟩ = some (.slice bT aj.length bJ) := (af a_.out 6).trans rfl
         have Pz := ag a_.out 0
         have PD := ag a_.out 1
         have PE := ag a_.out 2
         have PG := ag a_.out 3
         have aq5 := ag a_.out 4
         have aq6 := ag a_.out 5
         have aq7 := ag a_.out 6
         have vC : 0 ≤ (dC : Int) := of_decide_eq_true (by (with_reducible assumption))
         have vF : dC < (aj.length : Int) := of_decide_eq_true (by (with_reducible assumption))
         obtain ⟨wP, zQ, zY, Hg, oI, oJ, oK, oL, oM, oN, oO, rq, rf⟩ := nV lF.out dC vC vF
         cases Hg
         replace oI := (HB.out.cell (World.block_lt_of_cell? w _ oI)).trans oI
         replace oJ := (HB.out.cell (World.block_lt_of_cell? w _ oJ)).trans oJ
         replace oK := (HB.out.cell (World.block_lt_of_cell? w _ oK)).trans oK
         replace oL := (HB.out.cell (World.block_lt_of_cell? w _ oL)).trans oL
         replace oM := (HB.out.cell (World.block_lt_of_cell? w _ oM)).trans oM
         replace oN := (HB.out.cell (World.block_lt_of_cell? w _ oN)).trans oN
         replace oO := (HB.out.cell (World.block_lt_of_cell? w _ oO)).trans oO
         have yh := ae.mk rf
         have yg := ae.mk rq
         clear rf rq
         replace vC := eq_true vC
         replace vF := eq_true vF
         go_wp2_with (first | ((with_reducible refine dn (f := 152) rfl ?_); refine gu (some 24) rfl rfl Try.func152 (by kernel_rfl) rfl #[.agg #[.int .u8 ((au aj dC).f0), .int .i64 ((au aj dC).f1.f0), .int .i64 ((au aj dC).f1.f1), .int .i64 ((au aj dC).f1.f2), .int .i64 ((au aj dC).f1.f3), .int .i64 ((au aj dC).f2), .slice zQ ((au aj dC).f3).length zY], .int .u8 a1] rfl (by (try simp only [List.map_toArray, List.map_cons, List.map_nil]); rfl) ?_; (with_reducible refine (ih k1 (by have := jI.out; omega) ((au aj dC).f0) ((au aj dC).f1.f0) ((au aj dC).f1.f1) ((au aj dC).f1.f2) ((au aj dC).f1.f3) ((au aj dC).f2) _ _ ((au aj dC).f3) a1 nO _ ?fO ?gG VI.out).mono ?_); (case fO => repeat (exact (Kd.iP yh.out HB.out))); (case gG => exact yg.out); rintro e BV ⟨rfl, hb⟩; refine ⟨_, rfl, ?_⟩; replace a_ := ae.mk (aK a_.out hb); replace HB := ae.mk (aH (by repeat ((with_reducible exact HB.out))) hb); (try clear hb); have agy : BV.cell? ⟨dQ, 0, none⟩ = some (.int .u8 az) := (af a_.out 0).trans rfl; have agz : BV.cell? ⟨dQ, 1, none⟩ = some (.int .i64 aC) := (af a_.out 1).trans rfl; have agA : BV.cell? ⟨dQ, 2, none⟩ = some (.int .i64 aA) := (af a_.out 2).trans rfl; have agB : BV.cell? ⟨dQ, 3, none⟩ = some (.int .i64 aG) := (af a_.out 3).trans rfl; have apW : BV.cell? ⟨dQ, 4, none⟩ = some (.int .i64 aT) := (af a_.out 4).trans rfl; have apX : BV.cell? ⟨dQ, 5, none⟩ = some (.int .i64 aU) := (af a_.out 5).trans rfl; have apY : BV.cell? ⟨dQ, 6, none⟩ = some (.slice (some wP) aj.length bJ) := (af a_.out 6).trans rfl; have ahl := ag a_.out 0; have ahm := ag a_.out 1; have ahn := ag a_.out 2; have aho := ag a_.out 3; have aq8 := ag a_.out 4; have aq9 := ag a_.out 5; have aq_ := ag a_.out 6) | ((with_reducible refine dn (f := 88) rfl ?_); refine gu (some 27) rfl rfl Try.func88 (by kernel_rfl) rfl #[.agg #[.int .u8 az, .int .i64 aC, .int .i64 aA, .int .i64 aG, .int .i64 aT, .int .i64 aU, .slice (some wP) aj.length bJ], .int .u8 a1] rfl (by (try simp only [List.map_toArray, List.map_cons, List.map_nil]); rfl) ?_; (with_reducible refine (lW.calls az aC aA aG aT aU _ _ aj a1 false _ ?fO ?gG A12.out).mono ?_); (case fO => repeat (exact (Kd.iP lF.out HB.out))); (case gG => exact rM.out); rintro e Vl ⟨rfl, hb⟩; refine ⟨_, rfl, ?_⟩; replace a_ := ae.mk (aK a_.out hb); replace HB := ae.mk (aH (by repeat ((with_reducible exact HB.out))) hb); (try clear hb)))
         go_roundg k1
         case measure => have := jI.out; omega
         case rel => exact ⟨(nO), (wrap64 (dC + 1)), (by rfl), (by rfl), H', ⟨by have := jI.out; omega⟩, ⟨by exact a_.out⟩, ⟨by repeat ((with_reducible exact HB.out))⟩⟩
        ·rw [if_neg c23] at H
         have G5 : decide (gV < nO) = false := decide_eq_false c23
         clear c23
         have H' := ae.mk H
         clear H
         have WI : wr.cell? ⟨dQ, 0, none⟩ = some (.int .u8 az) := (af a_.out 0).trans rfl
         have WJ : wr.cell? ⟨dQ, 1, none⟩ = some (.int .i64 aC) := (af a_.out 1).trans rfl
         have WL : wr.cell? ⟨dQ, 2, none⟩ = some (.int .i64 aA) := (af a_.out 2).trans rfl
         have WM : wr.cell? ⟨dQ, 3, none⟩ = some (.int .i64 aG) := (af a_.out 3).trans rfl
         have agC : wr.cell? ⟨dQ, 4, none⟩ = some (.int .i64 aT) := (af a_.out 4).trans rfl
         have agD : wr.cell? ⟨dQ, 5, none⟩ = some (.int .i64 aU) := (af a_.out 5).trans rfl
         have agE : wr.cell? ⟨dQ, 6, none⟩ = some (.slice bT aj.length bJ) := (af a_.out 6).trans rfl
         have Xh := ag a_.out 0
         have Xi := ag a_.out 1
         have Xj := ag a_.out 2
         have Xk := ag a_.out 3
         have ahp := ag a_.out 4
         have ahq := ag a_.out 5
         have ahr := ag a_.out 6
         have vC : 0 ≤ (dC : Int) := of_decide_eq_true (by (with_reducible assumption))
         have vF : dC < (aj.length : Int) := of_decide_eq_true (by (with_reducible assumption))
         obtain ⟨wP, zQ, zY, Hg, oI, oJ, oK, oL, oM, oN, oO, rq, rf⟩ := nV lF.out dC vC vF
         cases Hg
         replace oI := (HB.out.cell (World.block_lt_of_cell? w _ oI)).trans oI
         replace oJ := (HB.out.cell (World.block_lt_of_cell? w _ oJ)).trans oJ
         replace oK := (HB.out.cell (World.block_lt_of_cell? w _ oK)).trans oK
         replace oL := (HB.out.cell (World.block_lt_of_cell? w _ oL)).trans oL
         replace oM := (HB.out.cell (World.block_lt_of_cell? w _ oM)).trans oM
         replace oN := (HB.out.cell (World.block_lt_of_cell? w _ oN)).trans oN
         replace oO := (HB.out.cell (World.block_lt_of_cell? w _ oO)).trans oO
         have yh := ae.mk rf
         have yg := ae.mk rq
         clear rf rq
         replace vC := eq_true vC
         replace vF := eq_true vF
         go_wp2_with (first | ((with_reducible refine dn (f := 152) rfl ?_); refine gu (some 24) rfl rfl Try.func152 (by kernel_rfl) rfl #[.agg #[.int .u8 ((au aj dC).f0), .int .i64 ((au aj dC).f1.f0), .int .i64 ((au aj dC).f1.f1), .int .i64 ((au aj dC).f1.f2), .int .i64 ((au aj dC).f1.f3), .int .i64 ((au aj dC).f2), .slice zQ ((au aj dC).f3).length zY], .int .u8 a1] rfl (by (try simp only [List.map_toArray, List.map_cons, List.map_nil]); rfl) ?_; (with_reducible refine (ih k1 (by have := jI.out; omega) ((au aj dC).f0) ((au aj dC).f1.f0) ((au aj dC).f1.f1) ((au aj dC).f1.f2) ((au aj dC).f1.f3) ((au aj dC).f2) _ _ ((au aj dC).f3) a1 nO _ ?fO ?gG VI.out).mono ?_); (case fO => repeat (exact (Kd.iP yh.out HB.out))); (case gG => exact yg.out); rintro e zO ⟨rfl, hb⟩; refine ⟨_, rfl, ?_⟩; replace a_ := ae.mk (aK a_.out hb); replace HB := ae.mk (aH (by repeat ((with_reducible exact HB.out))) hb); (try clear hb); have agF : zO.cell? ⟨dQ, 0, none⟩ = some (.int .u8 az) := (af a_.out 0).trans rfl; have agG : zO.cell? ⟨dQ, 1, none⟩ = some (.int .i64 aC) := (af a_.out 1).trans rfl; have agH : zO.cell? ⟨dQ, 2, none⟩ = some (.int .i64 aA) := (af a_.out 2).trans rfl; have agI : zO.cell? ⟨dQ, 3, none⟩ = some (.int .i64 aG) := (af a_.out 3).trans rfl; have ap6 : zO.cell? ⟨dQ, 4, none⟩ = some (.int .i64 aT) := (af a_.out 4).trans rfl; have ap7 : zO.cell? ⟨dQ, 5, none⟩ = some (.int .i64 aU) := (af a_.out 5).trans rfl; have ap8 : zO.cell? ⟨dQ, 6, none⟩ = some (.slice (some wP) aj.length bJ) := (af a_.out 6).trans rfl; have ahs := ag a_.out 0; have aht := ag a_.out 1; have ahu := ag a_.out 2; have ahv := ag a_.out 3; have arj := ag a_.out 4; have ark := ag a_.out 5; have arl := ag a_.out 6) | ((with_reducible refine dn (f := 88) rfl ?_); refine gu (some 27) rfl rfl Try.func88 (by kernel_rfl) rfl #[.agg #[.int .u8 az, .int .i64 aC, .int .i64 aA, .int .i64 aG, .int .i64 aT, .int .i64 aU, .slice (some wP) aj.length bJ], .int .u8 a1] rfl (by (try simp only [List.map_toArray, List.map_cons, List.map_nil]); rfl) ?_; (with_reducible refine (lW.calls az aC aA aG aT aU _ _ aj a1 false _ ?fO ?gG A12.out).mono ?_); (case fO => repeat (exact (Kd.iP lF.out HB.out))); (case gG => exact rM.out); rintro e w31 ⟨rfl, hb⟩; refine ⟨_, rfl, ?_⟩; replace a_ := ae.mk (aK a_.out hb); replace HB := ae.mk (aH (by repeat ((with_reducible exact HB.out))) hb); (try clear hb)))
         go_roundg k1
         case measure => have := jI.out; omega
         case rel => exact ⟨(gV), (wrap64 (dC + 1)), (by rfl), (by rfl), H', ⟨by have := jI.out; omega⟩, ⟨by exact a_.out⟩, ⟨by repeat ((with_reducible exact HB.out))⟩⟩
      ·rw [if_neg c10] at H
       exact absurd H (by simp)
     ·rw [if_neg c9] at H
      exact absurd H (by simp)
    ·rw [if_neg c8] at H
     have vZ : decide (dC < (aj.length : Int)) = false := decide_eq_false c8
     clear c8
     obtain rfl := Option.some.inj H
     go_wp2
     go_ret
     exact ⟨by rfl, by repeat ((with_reducible exact HB.out))⟩
end Go.Proofs.Ytfdmfgaiblfbhaa.P
namespace Go.Proofs.Ytfdmfgaiblfbhaa.P
open Go.RowKit Go.Proofs.ai.bg Go.Proofs.ai.di Go.Proofs.ai.dG
def kQ (ax k : Int) : Bool := (k == 2 && ax == 1) || (k == 3 && ax == 2)
theorem GX (c : aI) (ax : Int) : qR.f c.f0 c.f1.f0 c.f1.f1 c.f1.f2 c.f1.f3 c.f2 c.f3 ax = some (kQ ax c.f0) := by
 unfold qR.f kQ
 by_cases h2 : c.f0 = 2
 ·by_cases h1 : ax = 1
  ·rw [if_pos h2, if_pos h1]; simp [h2, h1]
  ·rw [if_pos h2, if_neg h1, if_neg (by omega)]; simp [h2, h1]
 ·rw [if_neg h2]
  by_cases h3 : c.f0 = 3
  ·rw [if_pos h3]; simp [h3]
  ·rw [if_neg h3]; simp [h2, h3]
theorem KN (c : aI) (ax : Int) : lW.f c.f0 c.f1.f0 c.f1.f1 c.f1.f2 c.f1.f3 c.f2 c.f3 ax = some (kQ ax c.f0) := GX c ax
mutual
def gU (ax : Int) : aI → Int
 | ⟨a, _, _, l⟩ => if a = 1 then 1 else if kQ ax a = true then ((l.length : Int) - 1) + oP ax l else wG ax 0 l
def oP (ax : Int) : List aI → Int
 | [] => 0
 | k :: ks => gU ax k + oP ax ks
def wG (ax : Int) : Int → List aI → Int
 | m, [] => m
 | m, k :: ks => wG ax (mx m (gU ax k)) ks
end
theorem EF (ax : Int) (c : aI) : gU ax c = if c.f0 = 1 then 1 else if kQ ax c.f0 = true then ((c.f3.length : Int) - 1) + oP ax c.f3 else wG ax 0 c.f3 := by cases c; simp [gU]
theorem vH (ax : Int) : oP ax [] = 0 := by simp [oP]
theorem xe (ax : Int) (k : aI) (ks : List aI) : oP ax (k :: ks) = gU ax k + oP ax ks := by simp [oP]
theorem Ve (ax : Int) (a b : List aI) : oP ax (a ++ b) = oP ax a + oP ax b := by
 induction a with
 | nil => rw [List.nil_append, vH]; omega
 | cons x xs ih => rw [List.cons_append, xe, xe, ih]; omega
theorem yV (ax m : Int) : wG ax m [] = m := by simp [wG]
theorem xB (ax m : Int) (k : aI) (ks : List aI) : wG ax m (k :: ks) = wG ax (mx m (gU ax k)) ks := by simp [wG]
theorem afa {a b c : Int} (h : a ≤ c) (k : b ≤ c) : mx a b ≤ c := by unfold mx; split <;> omega
theorem aa9 (a b : Int) : a ≤ mx a b := by unfold mx; split <;> omega
theorem akS (a b : Int) : b ≤ mx a b := by unfold mx; split <;> omega
theorem EE (ax : Int) : ∀ (N : Nat), (∀ c : aI, sz c ≤ N → -(sz c : Int) ≤ gU ax c ∧ gU ax c ≤ 2 * (sz c : Int) - 1) ∧
  (∀ l : List aI, jw l ≤ N → -(jw l : Int) ≤ oP ax l ∧ oP ax l ≤ 2 * (jw l : Int) - (l.length : Int)) ∧ (∀ l : List aI, jw l ≤ N → ∀ m : Int, m ≤ wG ax m l ∧ ∀ u, m ≤ u → 2 * (jw l : Int) ≤ u → wG ax m l ≤ u) := by
 intro N
 induction N with
 | zero =>
  refine ⟨fun c h => ?_, fun l h => ?_, fun l h => ?_⟩
  ·rw [gm] at h; omega
  ·cases l with
   | nil => rw [vH, vU]; simp
   | cons z zs => rw [gz, gm] at h; omega
  ·cases l with
   | nil => intro m; rw [yV]; exact ⟨Int.le_refl _, fun u h _ => h⟩
   | cons z zs => rw [gz, gm] at h; omega
 | succ N ih =>
  have hC : ∀ c : aI, sz c ≤ N + 1 → -(sz c : Int) ≤ gU ax c ∧ gU ax c ≤ 2 * (sz c : Int) - 1 := by
   intro c h
   have hs := gm c
   have h1 := ih.2.1 c.f3 (by omega)
   have h2 := ih.2.2 c.f3 (by omega) 0
   have h3 := h2.2 (2 * (jw c.f3 : Int)) (by omega) (Int.le_refl _)
   rw [EF]
   split
   ·omega
   ·split
    ·omega
    ·omega
  refine ⟨hC, fun l => ?_, fun l => ?_⟩
  ·induction l with
   | nil => intro _; rw [vH, vU]; simp
   | cons x xs ihl =>
    intro h
    rw [gz] at h ⊢
    have h1 := hC x (by omega)
    have h2 := ihl (by omega)
    rw [xe, List.length_cons]
    omega
  ·induction l with
   | nil => intro _ m; rw [yV]; exact ⟨Int.le_refl _, fun u h _ => h⟩
   | cons x xs ihl =>
    intro h m
    rw [gz] at h ⊢
    have h1 := hC x (by omega)
    have h2 := ihl (by omega) (mx m (gU ax x))
    rw [xB]
    refine ⟨Int.le_trans (aa9 m (gU ax x)) h2.1, fun u hu hu2 => h2.2 u (afa hu (by omega)) (by omega)⟩
theorem ac5 (ax : Int) : ∀ (N : Nat) (c : aI), sz c ≤ N → N ≤ 1048576 → Ev (fun k => fK.f k c.f0 c.f1.f0 c.f1.f1 c.f1.f2 c.f1.f3 c.f2 c.f3 ax) (gU ax c) := by
 intro N
 induction N with
 | zero => intro c h _; rw [gm] at h; omega
 | succ N ih =>
  intro c hc hN
  have hs := gm c
  have hlen := nN c.f3
  rw [EF]
  by_cases h1 : c.f0 = 1
  ·rw [if_pos h1]
   refine Ev.step (f := fun _ => some 1) (fun k => ?_) (Ev.now _)
   simp only [fK.f]
   rw [if_pos h1]
  ·rw [if_neg h1]
   have key : ∀ (rest pre : List aI), pre ++ rest = c.f3 → ∀ m : Int, Ev (fun k => fK.l0 k ax (((c.f3.length : Int) - 1) + oP ax pre) m c.f3 (c.f3.length : Int) (pre.length : Int) c.f0 c.f1.f0 c.f1.f1 c.f1.f2 c.f1.f3 c.f2 c.f3) (if kQ ax c.f0 = true then ((c.f3.length : Int) - 1) + oP ax c.f3 else wG ax m rest) := by
    intro rest
    induction rest with
    | nil =>
     intro pre hp m
     rw [List.append_nil] at hp
     subst hp
     rw [yV]
     refine Ev.step (f := fun _ => some (if kQ ax c.f0 = true then ((c.f3.length : Int) - 1) + oP ax c.f3 else m)) (fun k => ?_) (Ev.now _)
     simp only [fK.l0]
     rw [if_neg (by omega), GX]
     simp only [Option.bind_some]
     split <;> rfl
    | cons x xs ihr =>
     intro pre hp m
     have hl : (pre.length : Int) < (c.f3.length : Int) := by rw [← hp, List.length_append, List.length_cons]; omega
     have hsum : jw c.f3 = jw pre + (sz x + jw xs) := by rw [← hp, vT, gz]
     have hr : au c.f3 (pre.length : Int) = x := by rw [← hp]; exact lS pre x xs
     have hu : wrap64 ((pre.length : Int) + 1) = ((pre ++ [x]).length : Int) := Cm pre x xs (by rw [hp]; omega)
     have e2 := ihr (pre ++ [x]) (by rw [List.append_assoc]; exact hp) (mx m (gU ax x))
     have b1 := (EE ax (sz x)).1 x (Nat.le_refl _)
     have b2 := (EE ax (jw pre)).2.1 pre (Nat.le_refl _)
     have hw : wrap64 ((((c.f3.length : Int) - 1) + oP ax pre) + gU ax x) = ((c.f3.length : Int) - 1) + oP ax (pre ++ [x]) := by
      rw [wq (by omega) (by omega), Ve, xe, vH]
      omega
     rw [xB]
     refine Ev.step (f := fun k => (fK.f k x.f0 x.f1.f0 x.f1.f1 x.f1.f2 x.f1.f3 x.f2 x.f3 ax).bind fun t => fK.l0 k ax (wrap64 ((((c.f3.length : Int) - 1) + oP ax pre) + t)) (mx m t) c.f3 (c.f3.length : Int) (wrap64 ((pre.length : Int) + 1)) c.f0 c.f1.f0 c.f1.f1 c.f1.f2 c.f1.f3 c.f2 c.f3) (fun k => ?_) (Ev.bind (ih x (by omega) (by omega)) ?_)
     ·simp only [fK.l0]
      rw [if_pos hl, if_pos (by omega), if_pos hl, hr]
     ·rw [hu, hw]
      exact e2
   have e := key c.f3 [] rfl 0
   rw [vH, Int.add_zero] at e
   refine Ev.step (fun k => ?_) e
   simp only [fK.f]
   rw [if_neg h1, wq (by omega) (by omega)]
   rfl
theorem Qr {c x : aI} (h : (jh c).all uQ = true) (hx : x ∈ c.f3) : (jh x).all uQ = true := by
 rw [yH, List.all_cons, Bool.and_eq_true] at h
 obtain ⟨p, q, e⟩ := List.append_of_mem hx
 have h2 := h.2
 rw [e, GV, sO, List.all_append, List.all_append] at h2
 simp only [Bool.and_eq_true] at h2
 exact h2.2.1
theorem Ai {c : aI} (h : (jh c).all uQ = true) : uQ c = true := by
 rw [yH, List.all_cons, Bool.and_eq_true] at h
 exact h.1
theorem UW {c : aI} (h : uQ c = true) : (c.f0 = 1 ∧ c.f3.length = 0) ∨ ((c.f0 = 2 ∨ c.f0 = 3) ∧ 2 ≤ c.f3.length) := by
 unfold uQ at h
 simp only [Bool.and_eq_true, decide_eq_true_eq] at h
 obtain ⟨⟨⟨_, h1⟩, h2⟩, h3⟩ := h
 by_cases e : c.f0 = 1
 ·exact .inl ⟨e, (h2 e).1⟩
 ·exact .inr ⟨by omega, (h3 (by omega)).1⟩
theorem anR (ax : Int) : ∀ (N : Nat) (c : aI), sz c ≤ N → N ≤ 1048576 → (jh c).all uQ = true → Ev (fun k => dE.f k c.f0 c.f1.f0 c.f1.f1 c.f1.f2 c.f1.f3 c.f2 c.f3 ax) (gU ax c) := by
 intro N
 induction N with
 | zero => intro c h _; rw [gm] at h; omega
 | succ N ih =>
  intro c hc hN hok
  have hs := gm c
  have hlen := nN c.f3
  rw [EF]
  rcases UW (Ai hok) with ⟨h1, h2⟩ | ⟨h1, h2⟩
  ·rw [if_pos h1]
   refine Ev.step (f := fun _ => some 1) (fun k => ?_) (Ev.now _)
   simp only [dE.f]
   rw [if_pos (by omega)]
  ·rw [if_neg (by omega)]
   have key : ∀ (rest pre : List aI), pre ++ rest = c.f3 → ∀ m : Int, Ev (fun k => dE.l0 k ax (if kQ ax c.f0 = true then oP ax pre + (if pre.length = 0 then 0 else (pre.length : Int) - 1) else m) (c.f3.length : Int) (pre.length : Int) c.f0 c.f1.f0 c.f1.f1 c.f1.f2 c.f1.f3 c.f2 c.f3) (if kQ ax c.f0 = true then ((c.f3.length : Int) - 1) + oP ax c.f3 else wG ax m rest) := by
    intro rest
    induction rest with
    | nil =>
     intro pre hp m
     rw [List.append_nil] at hp
     subst hp
     rw [yV]
     refine Ev.step (f := fun _ => some (if kQ ax c.f0 = true then ((c.f3.length : Int) - 1) + oP ax c.f3 else m)) (fun k => ?_) (Ev.now _)
     simp only [dE.l0]
     rw [if_neg (by omega)]
     cases ha : kQ ax c.f0 with
     | true =>
      simp only [if_true]
      rw [if_neg (show ¬ c.f3.length = 0 by omega)]
      congr 1
      omega
     | false => simp only [Bool.false_eq_true, if_false]
    | cons x xs ihr =>
     intro pre hp m
     have hl : (pre.length : Int) < (c.f3.length : Int) := by rw [← hp, List.length_append, List.length_cons]; omega
     have hsum : jw c.f3 = jw pre + (sz x + jw xs) := by rw [← hp, vT, gz]
     have hr : au c.f3 (pre.length : Int) = x := by rw [← hp]; exact lS pre x xs
     have hu : wrap64 ((pre.length : Int) + 1) = ((pre ++ [x]).length : Int) := Cm pre x xs (by rw [hp]; omega)
     have e2 := ihr (pre ++ [x]) (by rw [List.append_assoc]; exact hp) (mx m (gU ax x))
     have b1 := (EE ax (sz x)).1 x (Nat.le_refl _)
     have b2 := (EE ax (jw pre)).2.1 pre (Nat.le_refl _)
     have bl := nN pre
     have hx : x ∈ c.f3 := by rw [← hp]; simp
     rw [xB]
     refine Ev.step (f := fun k => (dE.f k x.f0 x.f1.f0 x.f1.f1 x.f1.f2 x.f1.f3 x.f2 x.f3 ax).bind fun t => dE.l0 k ax (if kQ ax c.f0 = true then (if (pre.length : Int) > 0 then wrap64 ((wrap64 ((oP ax pre + (if pre.length = 0 then 0 else (pre.length : Int) - 1)) + t)) + 1) else wrap64 ((oP ax pre + (if pre.length = 0 then 0 else (pre.length : Int) - 1)) + t)) else (mx m t)) (c.f3.length : Int) (wrap64 ((pre.length : Int) + 1)) c.f0 c.f1.f0 c.f1.f1 c.f1.f2 c.f1.f3 c.f2 c.f3) (fun k => ?_) (Ev.bind (ih x (by omega) (by omega) (Qr hok hx)) ?_)
     ·simp only [dE.l0]
      rw [if_pos hl, if_pos (by omega), if_pos hl, hr]
      congr 1
      funext t
      rw [KN]
      simp only [Option.bind_some]
      cases ha : kQ ax c.f0 with
      | true =>
       simp only [if_true]
       split <;> rfl
      | false =>
       simp only [Bool.false_eq_true, if_false]
       unfold mx
       by_cases hm : t > m
       ·rw [if_pos hm, if_pos (by omega)]
       ·rw [if_neg hm, if_neg (by omega)]
     ·rw [hu]
      cases ha : kQ ax c.f0 with
      | false =>
       rw [ha] at e2
       exact e2
      | true =>
       rw [ha] at e2
       simp only [if_true] at e2 ⊢
       rw [if_neg (by simp), Ve, xe, vH, List.length_append, List.length_singleton] at e2
       rw [List.length_append, List.length_singleton]
       by_cases hz : pre.length = 0
       ·rw [if_neg (by omega), if_pos hz, wq (by omega) (by omega)]
        rw [show oP ax pre + (gU ax x + 0) + (((pre.length + 1 : Nat) : Int) - 1) = oP ax pre + 0 + gU ax x from by omega] at e2
        exact e2
       ·rw [if_pos (by omega), if_neg hz, wq (x := oP ax pre + ((pre.length : Int) - 1) + gU ax x) (by omega) (by omega), wq (by omega) (by omega)]
        rw [show oP ax pre + (gU ax x + 0) + (((pre.length + 1 : Nat) : Int) - 1) = oP ax pre + ((pre.length : Int) - 1) + gU ax x + 1 from by omega] at e2
        exact e2
   have e := key c.f3 [] rfl 0
   rw [vH, if_pos List.length_nil] at e
   refine Ev.step (fun k => ?_) e
   simp only [dE.f]
   rw [if_neg (by omega)]
   split <;> rfl
end Go.Proofs.Ytfdmfgaiblfbhaa.P
namespace Go.Proofs.Ytfdmfgaiblfbhaa.P
open Go.RowKit Go.Proofs.ai.bg Go.Proofs.ai.di Go.Proofs.ai.dG
attribute [local go_sem] kD kF lN lQ jF jG kE kG
def sU.f (az : Int) (aC : Int) (aA : Int) (aG : Int) (a1 : Int) : Option (Int) := if a1 = 2 then (some aG) else (if a1 = 1 then (some aA) else (some 0))
theorem sU.calls (az : Int) (aC : Int) (aA : Int) (aG : Int) (a1 : Int) (r : Int) (w : World) (h : sU.f az aC aA aG a1 = some r) :
  Calls Try.prog 98 #[.agg #[.int .i64 az, .int .i64 aC, .int .i64 aA, .int .i64 aG], .int .u8 a1] w fun e w' => e = .returned (.int .i64 r) ∧ Below w.heap.size w w' := by
 have EX := Try.underlying23
 have HB := ae.mk (Below.refl w.heap.size w)
 have H : (if a1 = 2 then (some aG) else (if a1 = 1 then (some aA) else (some 0))) = some r := h
 clear h
 by_cases c3 : a1 = 2
 ·rw [if_pos c3] at H
  have pY : (a1 == 2) = true := beq_iff_eq.mpr c3
  have uq : (a1 != 2) = false := bne_eq_false_iff_eq.mpr c3
  clear c3
  obtain rfl := Option.some.inj H
  go_enter Try.func98, Try.ntmps98
  go_wp2_with (((with_reducible refine aQ (N := 2) rfl ?_); refine aX ?hg (N := 2) ?hd (cs := #[.int .i64 az, .int .i64 aC, .int .i64 aA, .int .i64 aG]) (t := 23) ?hr ?_; (case hd => rfl); (case hg => rfl); (case hr => (go_simp; done)); intro xx hg w4 hbox hb; have rH := ae.mk (hbox); have X8 := ae.mk ((by rw [hg]; exact (aY (by repeat ((with_reducible exact HB.out)))) : w.heap.size ≤ xx)); replace HB := ae.mk (aH (by repeat ((with_reducible exact HB.out))) hb); clear hb hbox hg; have IM : w4.cell? ⟨xx, 0, none⟩ = some (.int .i64 az) := (af rH.out 0).trans rfl; have IP : w4.cell? ⟨xx, 1, none⟩ = some (.int .i64 aC) := (af rH.out 1).trans rfl; have IQ : w4.cell? ⟨xx, 2, none⟩ = some (.int .i64 aA) := (af rH.out 2).trans rfl; have IU : w4.cell? ⟨xx, 3, none⟩ = some (.int .i64 aG) := (af rH.out 3).trans rfl; have Ja := ag rH.out 0; have Jb := ag rH.out 1; have Jc := ag rH.out 2; have Jd := ag rH.out 3))
  go_ret
  exact ⟨by rfl, by repeat ((with_reducible first | exact HB.out | refine iw ?_ X8.out))⟩
 ·rw [if_neg c3] at H
  have pY : (a1 == 2) = false := beq_eq_false_iff_ne.mpr c3
  have uq : (a1 != 2) = true := bne_iff_ne.mpr c3
  by_cases c6 : a1 = 1
  ·rw [if_pos c6] at H
   have wS : (a1 == 1) = true := beq_iff_eq.mpr c6
   have acj : (a1 != 1) = false := bne_eq_false_iff_eq.mpr c6
   clear c6
   obtain rfl := Option.some.inj H
   go_enter Try.func98, Try.ntmps98
   go_wp2_with (((with_reducible refine aQ (N := 2) rfl ?_); refine aX ?hg (N := 2) ?hd (cs := #[.int .i64 az, .int .i64 aC, .int .i64 aA, .int .i64 aG]) (t := 23) ?hr ?_; (case hd => rfl); (case hg => rfl); (case hr => (go_simp; done)); intro xx hg w7 hbox hb; have rH := ae.mk (hbox); have X8 := ae.mk ((by rw [hg]; exact (aY (by repeat ((with_reducible exact HB.out)))) : w.heap.size ≤ xx)); replace HB := ae.mk (aH (by repeat ((with_reducible exact HB.out))) hb); clear hb hbox hg; have NU : w7.cell? ⟨xx, 0, none⟩ = some (.int .i64 az) := (af rH.out 0).trans rfl; have NV : w7.cell? ⟨xx, 1, none⟩ = some (.int .i64 aC) := (af rH.out 1).trans rfl; have NW : w7.cell? ⟨xx, 2, none⟩ = some (.int .i64 aA) := (af rH.out 2).trans rfl; have NY : w7.cell? ⟨xx, 3, none⟩ = some (.int .i64 aG) := (af rH.out 3).trans rfl; have N9 := ag rH.out 0; have N_ := ag rH.out 1; have Oa := ag rH.out 2; have Ob := ag rH.out 3))
   go_ret
   exact ⟨by rfl, by repeat ((with_reducible exact HB.out))⟩
  ·rw [if_neg c6] at H
   have wS : (a1 == 1) = false := beq_eq_false_iff_ne.mpr c6
   have acj : (a1 != 1) = true := bne_iff_ne.mpr c6
   obtain rfl := Option.some.inj H
   go_enter Try.func98, Try.ntmps98
   go_wp2_with (((with_reducible refine aQ (N := 2) rfl ?_); refine aX ?hg (N := 2) ?hd (cs := #[.int .i64 az, .int .i64 aC, .int .i64 aA, .int .i64 aG]) (t := 23) ?hr ?_; (case hd => rfl); (case hg => rfl); (case hr => (go_simp; done)); intro xx hg w9 hbox hb; have rH := ae.mk (hbox); have X8 := ae.mk ((by rw [hg]; exact (aY (by repeat ((with_reducible exact HB.out)))) : w.heap.size ≤ xx)); replace HB := ae.mk (aH (by repeat ((with_reducible exact HB.out))) hb); clear hb hbox hg))
   go_ret
   exact ⟨by rfl, by repeat ((with_reducible exact HB.out))⟩
end Go.Proofs.Ytfdmfgaiblfbhaa.P
namespace Go.Proofs.Ytfdmfgaiblfbhaa.P
open Go.RowKit Go.Proofs.ai.bg Go.Proofs.ai.di Go.Proofs.ai.dG
def dA (ax : Int) (r : bC) : Int := if ax = 1 then r.f2 else if ax = 2 then r.f3 else 0
theorem Ri (r : bC) (ax : Int) : sU.f r.f0 r.f1 r.f2 r.f3 ax = some (dA ax r) := by
 unfold sU.f dA
 by_cases h1 : ax = 1
 ·rw [if_neg (by omega), if_pos h1, if_pos h1]
 ·by_cases h2 : ax = 2
  ·rw [if_pos h2, if_neg h1, if_pos h2]
  ·rw [if_neg h2, if_neg h1, if_neg h1, if_neg h2]
end Go.Proofs.Ytfdmfgaiblfbhaa.P
namespace Go.Proofs.Ytfdmfgaiblfbhaa.P
open Go.RowKit Go.Proofs.ai.bg Go.Proofs.ai.di Go.Proofs.ai.dG
attribute [local go_sem] kD kF lN lQ jF jG kE kG
def nM.f (a0 : Int) : Option (Bool) := if a0 = 1 then (some true) else (some (a0 == 2))
theorem nM.ajV (a0 : Int) (r : Bool) (w : World) (h : nM.f a0 = some r) :
  Calls Try.prog 147 #[.int .u8 a0] w fun e w' => e = .returned (.bool r) ∧ nS w w' := by
 have H : (if a0 = 1 then (some true) else (some (a0 == 2))) = some r := h
 clear h
 by_cases c2 : a0 = 1
 ·rw [if_pos c2] at H
  have Iy : (a0 == 1) = true := beq_iff_eq.mpr c2
  have Yw : (a0 != 1) = false := bne_eq_false_iff_eq.mpr c2
  clear c2
  obtain rfl := Option.some.inj H
  go_enter Try.func147, Try.ntmps147
  go_wp2
  go_ret
  exact ⟨by rfl, by repeat (exact nS.refl _)⟩
 ·rw [if_neg c2] at H
  have Iy : (a0 == 1) = false := beq_eq_false_iff_ne.mpr c2
  have Yw : (a0 != 1) = true := bne_iff_ne.mpr c2
  obtain rfl := Option.some.inj H
  go_enter Try.func147, Try.ntmps147
  go_wp2
  go_ret
  exact ⟨by rfl, by repeat (exact nS.refl _)⟩
theorem nM.calls (a0 : Int) (r : Bool) (w : World) (h : nM.f a0 = some r) :
  Calls Try.prog 147 #[.int .u8 a0] w fun e w' => e = .returned (.bool r) ∧ Below w.heap.size w w' := by
 refine (nM.ajV a0 r w h).mono ?_
 rintro e w' ⟨he, n, rfl⟩
 exact ⟨he, fV (Below.refl _ _) n⟩
end Go.Proofs.Ytfdmfgaiblfbhaa.P
