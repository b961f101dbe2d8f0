/- SpreadAt: part 5 of 7 of this claim's texts, one behind the other, made small by a program: the words of the kit's printer cut down to those that are used, the claim's own names made short. -/
import Derived.Test.YtfdmfgaiblfbhaaMSpreadAtd
import Derived.Test.YtfdmfgaiblfbhaaMSpreadAtc
import Derived.WalkSpells
set_option maxHeartbeats 8000000
set_option maxRecDepth 100000
set_option linter.unusedVariables false
set_option linter.unusedSimpArgs false
namespace Go.Proofs.Ytfdmfgaiblfbhaa.P
open Go.RowKit Go.Proofs.ag.aW Go.Proofs.ag.dA Go.Proofs.ag.dU
theorem Two.lower {α β : Type} {d : Kd α} {e : TypeId} {d' : Kd β} {e' : TypeId} {w W W1 : World} {v v' : Value} {l : List α} {l' : List β} {o o' : Obj} (h : Two d e d' e' W W1 v l v' l' o o') (hs : w.heap.size ≤ W.heap.size) : Two d e d' e' w W1 v l v' l' o o' :=
 ⟨BI h.one hs, BI h.two hs, fun g hg => ⟨Nat.le_trans hs (h.at1 g hg).1, (h.at1 g hg).2⟩, fun g hg => ⟨Nat.le_trans hs (h.at2 g hg).1, (h.at2 g hg).2⟩, h.ne⟩
theorem adf (c : ai) (hl : c.f3.length ≤ 1000000) (b : Nat) (P : Nat → Prop) (A : Option Addr) (cc : Nat) (w : World) (hv : Kd.V k26 26 w b P (.slice A c.f3.length cc) c.f3) :
  Calls Try.prog 210 #[.agg #[.int .u8 c.f0, .int .i64 c.f1.f0, .int .i64 c.f1.f1, .int .i64 c.f1.f2, .int .i64 c.f1.f3, .int .i64 c.f2, .slice A c.f3.length cc]] w (KT w (yZ c)) := by
 have S := ae.mk (St.start (ts := [(.slice A c.f3.length cc, c.f3)]) (b0 := w.heap.size) (w := w) (P := P) (fun t ht => by rw [List.mem_singleton.1 ht]; exact dO hv))
 have gX := ae.mk hl
 clear hl hv
 obtain ⟨ck, ⟨cx, cy, cw, ch⟩, ay, l⟩ := c
 simp only [] at S gX ⊢
 rw [show yZ ⟨ck, ⟨cx, cy, cw, ch⟩, ay, l⟩ = rW cx cy cw ch (((ck - 2) % 256 + 1) % 256) (l.map (qU ck)) from rfl]
 obtain ⟨T, hT⟩ : ∃ T, T = rW cx cy cw ch (((ck - 2) % 256 + 1) % 256) (l.map (qU ck)) := ⟨_, rfl⟩
 rw [← hT]
 have HT := ae.mk hT
 clear hT
 go_enter Try.func210, Try.ntmps210
 go_wp2_with (first
  | ((with_reducible refine aj 1 rfl ?_); refine boxS 1 #[.int .u8 ck, .int .i64 cx, .int .i64 cy, .int .i64 cw, .int .i64 ch, .int .i64 ay, .slice A l.length cc] 26 S ?_; clear S; intro b1 eH S; have iw := (S.out.at (.head _) 6).trans rfl)
  | fail)
 clear iw
 go_loopg [5, 11] l.length (fun gg v3 v9 wr => ∃ (pre rest : List ai) (Ap : Option Addr) (cp : Nat) (op : Obj), v3 = .slice Ap pre.length cp ∧ v9 = .int .i64 (pre.length : Int) ∧ ae (pre ++ rest = l) ∧ rest.length ≤ gg ∧ ae (KR (Kd.int .i64) 3 w.heap.size (.slice Ap pre.length cp) (pre.map (qU ck)) op) ∧ ae (St w P [((Value.slice Ap pre.length cp).ownBlock, op), (some b1, .cells #[.int .u8 ck, .int .i64 cx, .int .i64 cy, .int .i64 cw, .int .i64 ch, .int .i64 ay, .slice A l.length cc] 26 (0, 0))] [] [(.slice A l.length cc, l)] [] wr))
 case atStart => exact ⟨[], l, _, _, _, rfl, rfl, ⟨rfl⟩, Nat.le_refl _, ⟨Lh _ _ _⟩, ⟨S.out.noK⟩⟩
 case round =>
  clear S
  obtain ⟨pre, rest, Ap, cp, op, rfl, rfl, HE, hgg, jf, S⟩ := hrel
  cases rest with
  | nil =>
   have hE := HE.out
   rw [List.append_nil] at hE
   have hE2 := hE.symm
   subst hE2
   clear hE HE hgg
   have hlt : ¬ ((l.length : Int) < (l.length : Int)) := by omega
   have hlm : (l.map (qU ck)).length = l.length := List.length_map _
   have hcut := fun W hi => af7 cx cy cw ch (((ck - 2) % 256 + 1) % 256) (l.map (qU ck)) (by have := gX.out; simpa using this) Ap cp W hi
   rw [hlm, ← HT.out] at hcut
   have Gz := ae.mk hcut
   clear hcut hlm
   have kE := (S.out.at (.tail _ (.head _)) 1).trans rfl
   have kF := (S.out.at (.tail _ (.head _)) 2).trans rfl
   have kG := (S.out.at (.tail _ (.head _)) 3).trans rfl
   have kH := (S.out.at (.tail _ (.head _)) 4).trans rfl
   have fF := (S.out.at (.tail _ (.head _)) 0).trans rfl
   go_wp2_with (first
    | ((with_reducible refine aj 38 rfl ?_); refine kR (some 38) Try.func45 (Gz.out _ (by have h := (Kd.dn (Le jf.out S.out (.head _))).2.2; rw [List.length_map] at h; exact h)) ?_; rintro e fG ⟨A1, c1, A2, c2, o1, o2, rfl, h1, hb⟩; refine ⟨_, rfl, ?_⟩; have HCU := ae.mk (fun h => (h1 h).lower S.out.below.size); replace S := ae.mk (S.out.call hb); clear h1 hb; clear kE kF kG kH fF)
    | fail)
   go_ret3
   exact ⟨_, _, _, _, _, _, rfl, HCU.out, S.out.below⟩
  | cons k rest =>
   have hk : k ∈ l := by rw [← HE.out]; simp
   have hlt : (pre.length : Int) < (l.length : Int) := by rw [← HE.out, List.length_append, List.length_cons]; omega
   have hw1 : wrap64 ((pre.length : Int) + 1) = ((pre ++ [k]).length : Int) := by have := gX.out; rw [List.length_append, List.length_singleton]; unfold wrap64; omega
   have HW1 := ae.mk hw1
   have jh := ae.mk hgg
   have HK := ae.mk hk
   have tH := ae.mk (show pre.length ≤ 1048576 by have := gX.out; omega)
   obtain ⟨dM, ua, uc, ek, S1⟩ := S.out.elem (.head _) (pre.length : Int) (Int.natCast_nonneg _) hlt
   subst ek
   have hrd : aG l (pre.length : Int) = k := by rw [← HE.out]; exact jF pre k rest
   rw [hrd] at S1
   simp only [Int.toNat_natCast] at S1
   replace S := ae.mk S1
   clear S1 hrd hk hgg hw1
   by_cases hk2 : ck = 2
   case pos =>
    have hka : (ck == 2) = true := beq_iff_eq.mpr hk2
    have hkb : decide (ck = 2) = true := decide_eq_true hk2
    have A8 := ae.mk (show (pre ++ [k]).map (qU ck) = pre.map (qU ck) ++ [k.f1.f2] by rw [List.map_append]; exact congrArg (pre.map (qU ck) ++ [·]) (if_pos hk2))
    clear hk2
    obtain ⟨gY, iM, iO, iC, iD, jv, jw⟩ := St.yD S
    go_wp2_with (first
     | ((with_reducible refine aj 7 rfl ?_); refine boxS 7 #[.int .u8 0, .int .i64 0, .int .i64 0, .int .i64 0, .int .i64 0, .int .i64 0, .slice none 0 0] 26 S ?_; clear S; intro b7 gV S; clear gY iM iO iC iD jv jw)
     | ((with_reducible refine dB 26 (.tmp 7) (.tmp 14) rfl ?_); refine gI 26 7 14 #[.int .u8 k.f0, .int .i64 k.f1.f0, .int .i64 k.f1.f1, .int .i64 k.f1.f2, .int .i64 k.f1.f3, .int .i64 k.f2, .slice ua k.f3.length uc] 0 7 S ?_; clear S; intro jB S; have fF := (S.out.at (.tail _ (.tail _ (.head _))) 0).trans rfl; have yJ := (S.out.at (.head _) 3).trans rfl)
     | ((with_reducible refine aj 23 rfl ?_); at_builtin; replace S := ae.mk S.out.uX; refine uV (Kd.int .i64) 3 rfl 18 22 41 (.int .i64 0) 8 Try.underlying41 info3 rfl (by decide) (by decide) (by decide) S jf k.f1.f2 [.int .i64 k.f1.f2] (fun _ _ _ => rfl) (by have := tH.out; simp only [List.length_map]; omega) ?_; clear S jf; intro KO cp2 N7 lQ S jf; clear fF yJ)
     | fail)
    have e2 : ((pre.map (qU ck)) ++ [k.f1.f2]).length = (pre ++ [k]).length := by simp
    rw [e2, ← A8.out] at jf
    rw [e2] at S
    have hw1 := HW1.out
    go_wp2
    go_roundg rest.length
    case measure => exact Nat.lt_of_lt_of_le (Nat.lt_succ_self _) jh.out
    case rel => exact ⟨pre ++ [k], rest, _, _, _, (by rw [List.length_append]; rfl), (by rw [hw1]), ⟨by rw [List.append_assoc]; exact HE.out⟩, Nat.le_refl _, jf, ⟨S.out.uX.eF.uX.uX.bW.aT.aT.aT.aT.aT.aT.aT⟩⟩
   case neg =>
    have hka : (ck == 2) = false := beq_eq_false_iff_ne.mpr hk2
    have hkb : decide (ck = 2) = false := decide_eq_false hk2
    have A8 := ae.mk (show (pre ++ [k]).map (qU ck) = pre.map (qU ck) ++ [k.f1.f3] by rw [List.map_append]; exact congrArg (pre.map (qU ck) ++ [·]) (if_neg hk2))
    clear hk2
    obtain ⟨gY, iM, iO, iC, iD, jv, jw⟩ := St.yD S
    go_wp2_with (first
     | ((with_reducible refine aj 7 rfl ?_); refine boxS 7 #[.int .u8 0, .int .i64 0, .int .i64 0, .int .i64 0, .int .i64 0, .int .i64 0, .slice none 0 0] 26 S ?_; clear S; intro b7 rG S; clear gY iM iO iC iD jv jw)
     | ((with_reducible refine dB 26 (.tmp 7) (.tmp 14) rfl ?_); refine gI 26 7 14 #[.int .u8 k.f0, .int .i64 k.f1.f0, .int .i64 k.f1.f1, .int .i64 k.f1.f2, .int .i64 k.f1.f3, .int .i64 k.f2, .slice ua k.f3.length uc] 0 7 S ?_; clear S; intro vG S; have fF := (S.out.at (.tail _ (.tail _ (.head _))) 0).trans rfl; have yK := (S.out.at (.head _) 4).trans rfl)
     | ((with_reducible refine aj 29 rfl ?_); at_builtin; replace S := ae.mk S.out.uX; refine uV (Kd.int .i64) 3 rfl 24 28 41 (.int .i64 0) 8 Try.underlying41 info3 rfl (by decide) (by decide) (by decide) S jf k.f1.f3 [.int .i64 k.f1.f3] (fun _ _ _ => rfl) (by have := tH.out; simp only [List.length_map]; omega) ?_; clear S jf; intro KO cp2 N7 yf S jf; clear fF yK)
     | fail)
    have e2 : ((pre.map (qU ck)) ++ [k.f1.f3]).length = (pre ++ [k]).length := by simp
    rw [e2, ← A8.out] at jf
    rw [e2] at S
    have hw1 := HW1.out
    go_wp2
    go_roundg rest.length
    case measure => exact Nat.lt_of_lt_of_le (Nat.lt_succ_self _) jh.out
    case rel => exact ⟨pre ++ [k], rest, _, _, _, (by rw [List.length_append]; rfl), (by rw [hw1]), ⟨by rw [List.append_assoc]; exact HE.out⟩, Nat.le_refl _, jf, ⟨S.out.uX.eF.uX.uX.bW.aT.aT.aT.aT.aT.aT.aT⟩⟩
theorem ada (k : ai) (r : dW) (A : Option Addr) (cc : Nat) (w : World) :
  Calls Try.prog 212 #[.agg #[.int .u8 k.f0, .int .i64 k.f1.f0, .int .i64 k.f1.f1, .int .i64 k.f1.f2, .int .i64 k.f1.f3, .int .i64 k.f2, .slice A k.f3.length cc], .agg #[.int .i64 r.f0, .int .i64 r.f1, .int .i64 r.f2, .int .i64 r.f3]] w fun e w' => e = .returned (.bool (nC k.f1 r)) ∧ Below w.heap.size w w' := by
 have S := ae.mk (St.start (ts := []) (b0 := w.heap.size) (w := w) (P := fun _ => True) (fun _ h => by cases h))
 go_enter Try.func212, Try.ntmps212
 go_wp2_with (first
  | ((with_reducible refine aj 2 rfl ?_); refine boxS 2 #[.int .u8 k.f0, .int .i64 k.f1.f0, .int .i64 k.f1.f1, .int .i64 k.f1.f2, .int .i64 k.f1.f3, .int .i64 k.f2, .slice A k.f3.length cc] 26 S ?_; clear S; intro b2 eH S)
  | ((with_reducible refine aj 3 rfl ?_); refine boxS 3 #[.int .i64 r.f0, .int .i64 r.f1, .int .i64 r.f2, .int .i64 r.f3] 23 S ?_; clear S; intro b3 fG S; obtain ⟨bD, bF, bG, bH⟩ := St.at4 S (.head _); have bU := (S.out.at (.tail _ (.head _)) 1).trans rfl; have bV := (S.out.at (.tail _ (.head _)) 2).trans rfl; have cZ := (S.out.at (.tail _ (.head _)) 3).trans rfl; have df := (S.out.at (.tail _ (.head _)) 4).trans rfl)
  | fail)
 clear bD bF bG bH bU bV cZ df
 all_goals (go_ret; refine ⟨?_, S.out.below⟩; clear S; simp [nC, *])
theorem Xf (c : ai) (hl : c.f3.length ≤ 1000000) (b : Nat) (P : Nat → Prop) (A : Option Addr) (cc : Nat) (w : World) (hv : Kd.V k26 26 w b P (.slice A c.f3.length cc) c.f3) :
  Calls Try.prog 206 #[.agg #[.int .u8 c.f0, .int .i64 c.f1.f0, .int .i64 c.f1.f1, .int .i64 c.f1.f2, .int .i64 c.f1.f3, .int .i64 c.f2, .slice A c.f3.length cc]] w (Qp w c) := by
 have S := ae.mk (St.start (ts := [(.slice A c.f3.length cc, c.f3)]) (b0 := w.heap.size) (w := w) (P := P) (fun t ht => by rw [List.mem_singleton.1 ht]; exact dO hv))
 have hcut := fun b P A cc W hV => adf c hl b P A cc W hV
 have ho : ru c = Jh c (yZ c) := rfl
 have hl2 := (M_ c).2
 unfold Qp
 generalize ru c = v at ho ⊢
 generalize yZ c = T at ho hl2 hcut
 clear hl hv
 obtain ⟨ck, ⟨cx, cy, cw, ch⟩, ay, l⟩ := c
 obtain ⟨t1, t2, t3⟩ := T
 simp only [Jh] at S hl2 hcut ho ⊢
 have HL2 := ae.mk hl2
 clear hl2
 by_cases h1 : ck = 1
 case pos =>
  have hv : v = true := by rw [ho, h1]; rfl
  have ha : (ck == 1) = true := beq_iff_eq.mpr h1
  have hb : decide (ck = 1) = true := decide_eq_true h1
  have HL := ae.mk hv
  clear hv h1 ho hcut
  go_enter Try.func206, Try.ntmps206
  go_wp2_with (first
   | ((with_reducible refine aj 1 rfl ?_); refine boxS 1 #[.int .u8 ck, .int .i64 cx, .int .i64 cy, .int .i64 cw, .int .i64 ch, .int .i64 ay, .slice A l.length cc] 26 S ?_; clear S; intro b1 eH S; have fF := (S.out.at (.head _) 0).trans rfl)
   | fail)
  clear fF
  go_ret2
  rw [HL.out]
  exact ⟨_, _, _, rfl, fun _ => ⟨[], rfl, Nat.zero_le _, Kd.pJ _ _ _ _ _⟩, S.out.below⟩
 have ha : (ck == 1) = false := beq_eq_false_iff_ne.mpr h1
 have hd : decide (ck = 1) = false := decide_eq_false h1
 rw [ha, Bool.false_or] at ho
 clear h1
 cases t3 with
 | false =>
  rw [Bool.false_and] at ho
  have HL := ae.mk ho
  have Gz := ae.mk (fun b P A cc W hV => Na (hcut b P A cc W hV))
  clear hcut ho
  go_enter Try.func206, Try.ntmps206
  go_wp2_with (first
   | ((with_reducible refine aj 1 rfl ?_); refine boxS 1 #[.int .u8 ck, .int .i64 cx, .int .i64 cy, .int .i64 cw, .int .i64 ch, .int .i64 ay, .slice A l.length cc] 26 S ?_; clear S; intro b1 eH S; obtain ⟨fF, kE, kF, kG, kH, ng, iw⟩ := St.eY S (.head _))
   | ((with_reducible refine aj 12 rfl ?_); refine kR (some 12) Try.func210 (Gz.out _ _ _ _ _ (S.out.tree _ (.head _))) ?_; rintro e fG ⟨Ap, np, cp, Aq, nq, cq, rfl, hb⟩; refine ⟨_, rfl, ?_⟩; replace S := ae.mk (S.out.call hb); clear hb; clear fF kE kF kG kH ng iw)
   | fail)
  go_ret2
  rw [HL.out]
  exact ⟨_, _, _, rfl, (fun h => by cases h), S.out.below⟩
 | true =>
  rw [Bool.true_and] at ho
  have Gz := ae.mk (fun b P A cc W hV => O1 (hcut b P A cc W hV))
  have HEF := ae.mk (fun (A B : Option Addr) (ca cb : Nat) (W : World) (h1 : Kd.C k26 W A l.length l) (h2 : Kd.C k23 W B t1.length t1) => (show Calls Try.prog 211 #[.slice A l.length ca, .slice B t1.length cb, .func (.func 212) #[] #[]] W fun e w' => e = .returned (.bool v) ∧ Below W.heap.size W w' by rw [ho]; exact adr (fun k r => nC k.f1 r) 212 (rX Try.func212 (by decide +kernel) (by kernel_rfl)) l t1 A B ca cb W h1 h2 (fun W x X cx y _ _ _ _ => ada x y X cx W)))
  clear hcut ho
  go_enter Try.func206, Try.ntmps206
  go_wp2_with (first
   | ((with_reducible refine aj 1 rfl ?_); refine boxS 1 #[.int .u8 ck, .int .i64 cx, .int .i64 cy, .int .i64 cw, .int .i64 ch, .int .i64 ay, .slice A l.length cc] 26 S ?_; clear S; intro b1 eH S; obtain ⟨fF, kE, kF, kG, kH, ng, iw⟩ := St.eY S (.head _))
   | ((with_reducible refine aj 12 rfl ?_); refine kR (some 12) Try.func210 (Gz.out _ _ _ _ _ (S.out.tree _ (.head _))) ?_; rintro e fG ⟨Ap, cp, Aq, cq, op, oq, rfl, h1, hb⟩; refine ⟨_, rfl, ?_⟩; obtain ⟨S1, hp, hq⟩ := S.out.two h1 hb; replace S := ae.mk S1; have jf := ae.mk hp; have mM := ae.mk hq; clear S1 hp hq h1 hb; clear fF kE kF kG kH ng iw; have iw := (S.out.at (.tail _ (.tail _ (.head _))) 6).trans rfl)
   | ((with_reducible refine aj 22 rfl ?_); (refine fZ (by rfl) ?_; dsimp only); refine dF (some 22) Try.func211 S (HEF.out _ _ _ _ _ (Kd.jY (S.out.tree _ (.head _))).2.2 (VN jf.out S.out (.head _)).1) ?_; clear S; intro gV S; clear iw)
   | fail)
  go_ret2
  exact ⟨_, _, _, rfl, fun _ => ⟨t2, rfl, HL2.out, S.out.F8 mM.out (.tail _ (.head _))⟩, S.out.below⟩
def pM (w0 : World) (gw j : Nat) (W : World) : Prop := Below w0.heap.size w0 W ∧ ∃ (n : Int) (v : Value) (ls : List dW), W.heap[gw]? = some (.cells #[.int .i64 n, v] 182 (0, 0)) ∧ Kd.R k23 23 W w0.heap.size (fun _ => True) v ls ∧ ls.length ≤ j
def Fr (gw : Nat) (W W' : World) : Prop := ∀ k cs t, k ≠ gw → t ≠ 23 → W.heap[k]? = some (.cells cs t (0, 0)) → W'.heap[k]? = some (.cells cs t (0, 0))
theorem Fr.refl (gw : Nat) (W : World) : Fr gw W W := fun _ _ _ _ _ h => h
theorem Fr.trans {gw : Nat} {W W1 W2 : World} (h : Fr gw W W1) (k : Fr gw W1 W2) : Fr gw W W2 := fun i cs t hi ht hb => k i cs t hi ht (h i cs t hi ht hb)
theorem Fr.below {gw : Nat} {W W1 : World} (h : Below W.heap.size W W1) : Fr gw W W1 := fun _ _ _ _ _ hb => aV hb h
theorem Fr.store {gw : Nat} {W W1 : World} (h : W.grownBy W1 (some gw)) : Fr gw W W1 := fun _ _ _ hi _ hb => dJ hb h (fun e => absurd (Option.some.inj e) hi)
theorem Fr.append {gw base : Nat} {W W1 : World} {v : Value} {xs : List dW} {ok : Nat → Prop} (hv : Kd.R k23 23 W base ok v xs) (h : W.grownBy W1 v.ownBlock) : Fr gw W W1 := fun _ _ _ _ ht hb => dJ hb h (Kd.FQ hv hb (fun e => ht e.symm))
theorem pM.below {w0 W W1 : World} {gw j : Nat} (h : pM w0 gw j W) (hb : Below W.heap.size W W1) : pM w0 gw j W1 := by
 obtain ⟨h1, n, v, ls, h2, h3, h4⟩ := h
 exact ⟨az h1 hb, n, v, ls, aV h2 hb, Kd.oD h3 hb, h4⟩
theorem pM.mono {w0 W : World} {gw j j' : Nat} (h : pM w0 gw j W) (hj : j ≤ j') : pM w0 gw j' W := by
 obtain ⟨h1, n, v, ls, h2, h3, h4⟩ := h
 exact ⟨h1, n, v, ls, h2, h3, Nat.le_trans h4 hj⟩
theorem ac' (x : ai) (B : Option Addr) (cb b3 gw : Nat) (r : Bool) (R : World → Prop) (W : World) (hk : W.heap[b3]? = some (.cells #[.pointer (some ⟨gw, 0, none⟩)] 180 (0, 0)))
  (h : ∀ W1, Below W.heap.size W W1 → Calls Try.prog 197 #[.pointer (some ⟨gw, 0, none⟩), .agg #[.int .u8 x.f0, .int .i64 x.f1.f0, .int .i64 x.f1.f1, .int .i64 x.f1.f2, .int .i64 x.f1.f3, .int .i64 x.f2, .slice B x.f3.length cb]] W1 fun e w' => e = .returned (.bool r) ∧ R w') :
  Calls Try.prog 207 (#[.agg #[.int .u8 x.f0, .int .i64 x.f1.f0, .int .i64 x.f1.f1, .int .i64 x.f1.f2, .int .i64 x.f1.f3, .int .i64 x.f2, .slice B x.f3.length cb]] ++ #[.pointer (some ⟨b3, 0, none⟩)]) W fun e w' => e = .returned (.bool (!r)) ∧ R w' := by
 have HK := ae.mk hk
 have H := ae.mk h
 clear hk h
 simp only [List.append_toArray, List.cons_append, List.nil_append]
 cases r
 all_goals
  go_enter Try.func207, Try.ntmps207
  go_wp2_with (first
   | ((with_reducible refine aC (N := 2) rfl ?_); refine aQ ?hg (N := 2) ?hd (cs := #[.int .u8 x.f0, .int .i64 x.f1.f0, .int .i64 x.f1.f1, .int .i64 x.f1.f2, .int .i64 x.f1.f3, .int .i64 x.f2, .slice B x.f3.length cb]) (t := 26) ?hr ?_; (case hd => rfl); (case hg => rfl); (case hr => first | (go_simp; done) | (go_simp; rfl)); intro b2 hg Y0 hbox hb; have mg := ae.mk hbox; have HB := ae.mk hb; have K3 := ae.mk (aV HK.out hb); have d0 := (af K3.out 0).trans rfl; have c0 := (af mg.out 0).trans rfl; have c1 := (af mg.out 1).trans rfl; have c2 := (af mg.out 2).trans rfl; have c3 := (af mg.out 3).trans rfl; have c4 := (af mg.out 4).trans rfl; have c5 := (af mg.out 5).trans rfl; have c6 := (af mg.out 6).trans rfl; clear hb hbox hg)
   | fail)
  clear c0 c1 c2 c3 c4 c5 c6 d0
  refine (H.out _ HB.out).mono ?_
  rintro e w' ⟨rfl, hR⟩
  have HR := ae.mk hR
  clear hR
  go_wp2
  go_ret
  exact ⟨rfl, HR.out⟩
def qy.T5 : Bool × List (List Nat × List Nat) := (true, [([], []), ([], []), ([1], [1]), ([2], [2]), ([3], [3]), ([], []), ([4, 5], [4, 5]), ([0, 0, 1, 2, 3, 4, 5, 6], [0]), ([7, 0, 1, 2, 3, 4, 5, 6], [7]), ([8, 6, 6, 0, 1, 2, 3, 4, 5, 6], [6, 8])])
def qy.B5 : List Nat := [0, 0, 2, 6, 14, 0, 62, 127, 255, 511]
theorem qy.yA : iY .any (opsOf Try.f197 5) = qy.T5 := by kernel_rfl
theorem qy.uD : iI qy.T5.2 qy.B5 = true := by kernel_rfl
theorem abv (w0 : World) (gw : Nat) (hgw : w0.heap.size ≤ gw) : ∀ (N : Nat) (c : ai), sz c ≤ N → N ≤ 20000 → ∀ (A : Option Addr) (cc : Nat), Kd.C k26 w0 A c.f3.length c.f3 → c.f3.length ≤ cc → ∀ (j : Nat) (W : World), j + gy c.f3 ≤ 1000000 → pM w0 gw j W →
  Calls Try.prog 197 #[.pointer (some ⟨gw, 0, none⟩), .agg #[.int .u8 c.f0, .int .i64 c.f1.f0, .int .i64 c.f1.f1, .int .i64 c.f1.f2, .int .i64 c.f1.f3, .int .i64 c.f2, .slice A c.f3.length cc]] W fun e w' => e = .returned (.bool (lT c)) ∧ pM w0 gw (j + gy c.f3) w' ∧ Fr gw W w' := by
 intro N
 induction N with
 | zero => intro c h; rw [dL] at h; omega
 | succ N ih =>
  intro c hc hN A cc hr hlc j W hj hI
  have hsz := dL c
  have hlen := jR c.f3
  have YF : ∀ (b2 j1 : Nat) (W1 : World), b2 ≠ gw → W1.heap[b2]? = some (.cells #[.pointer (some ⟨gw, 0, none⟩)] 180 (0, 0)) → pM w0 gw j1 W1 → j1 ≤ j + c.f3.length →
    Calls Try.prog 174 #[.slice A c.f3.length cc, .func (.func 207) #[] #[.pointer (some ⟨b2, 0, none⟩)]] W1 fun e w' => e = .returned (.bool (!(c.f3.all lT))) ∧ pM w0 gw (j + gy c.f3) w' ∧ Fr gw W1 w' := by
   intro b2 j1 W1 hne hk hi hj1
   have hcon := OZ (fun rest w' => (∃ i, pM w0 gw i w' ∧ i + gy rest ≤ (j + gy c.f3) + rest.length) ∧ Fr gw W1 w') (fun x => !lT x) 207 #[.pointer (some ⟨b2, 0, none⟩)] (rX Try.func207 (by decide +kernel) (by kernel_rfl)) c.f3 A cc w0 hr
    (fun s w' h => by obtain ⟨⟨i, h1, _⟩, _⟩ := h; exact h1.1)
    (fun s w' n h => by obtain ⟨⟨i, h1, h2⟩, h3⟩ := h; exact ⟨⟨i, h1.below (dC (Below.refl _ _) n), h2⟩, h3.trans (Fr.below (dC (Below.refl _ _) n))⟩)
    (fun x rest w' B cb hx hp h hCx hlx => by
     obtain ⟨⟨i, h1, h2⟩, h3⟩ := h
     obtain ⟨pre, hp⟩ := hp
     have e1 : gy c.f3 = gy pre + (sz x + gy rest) := by rw [← hp, nJ, eG]
     have e2 := dL x
     have e3 := jR rest
     have e4 := jR pre
     rw [eG, List.length_cons] at h2
     refine (ac' x B cb b2 gw (lT x) (fun w'' => pM w0 gw (i + gy x.f3) w'' ∧ Fr gw W1 w'') w' (h3 b2 _ 180 hne (by decide) hk) (fun W2 hb2 => ?_)).mono ?_
     ·refine (ih x (by omega) (by omega) B cb hCx hlx i W2 (by omega) (h1.below hb2)).mono ?_
      rintro e w'' ⟨he, hi2, hf⟩
      exact ⟨he, hi2, h3.trans ((Fr.below hb2).trans hf)⟩
     ·rintro e w'' ⟨he, hi2, hf⟩
      refine ⟨he, ⟨⟨i + gy x.f3, hi2, ?_⟩, hf⟩⟩
      split
      ·rw [qY]; show _ ≤ _ + 0; omega
      ·omega)
    W1 ⟨⟨j1, hi, by omega⟩, Fr.refl gw W1⟩ hr.2.1
   refine hcon.mono ?_
   rintro e w' ⟨he, ⟨i, h1, h2⟩, h3⟩
   rw [qY] at h2
   refine ⟨?_, h1.mono (by simpa using h2), h3⟩
   rw [he, List.not_all_eq_any_not]
  have hL : ∀ W1, Below w0.heap.size w0 W1 → Calls Try.prog 206 #[.agg #[.int .u8 c.f0, .int .i64 c.f1.f0, .int .i64 c.f1.f1, .int .i64 c.f1.f2, .int .i64 c.f1.f3, .int .i64 c.f2, .slice A c.f3.length cc]] W1 fun e w' => ∃ Au n cu, e = .returned (.tuple #[.slice Au n cu, .bool (ru c)]) ∧ (ru c = true → ∃ us : List dW, n = us.length ∧ us.length ≤ c.f3.length ∧ k23.R 23 w' W1.heap.size (fun _ => True) (.slice Au us.length cu) us) ∧ Below W1.heap.size W1 w' := fun W1 hb => Xf c (by omega) W1.heap.size (fun _ => True) A cc W1 (Kd.uJ hlc (Kd.qN (Kd.Dx nP (Kd.fC hr hb)) (fun _ _ => trivial)))
  rw [Es]
  obtain ⟨hB, n, v, ls, hK, hV, hls⟩ := hI
  obtain ⟨Av, cv, ev⟩ := Kd.fQ hV
  subst ev
  have HB := ae.mk hB
  have KW := ae.mk hK
  have RV := ae.mk hV
  have FR := ae.mk (Fr.refl gw W)
  have E_ := ae.mk hgw
  have Qi := ae.mk YF
  have HL := ae.mk hL
  have OL := ae.mk hls
  have HJ := ae.mk hj
  have HN := ae.mk hlen
  clear hB hK hV YF hL hls hj hlen hsz ih hr hlc hc hN
  obtain ⟨ck, ⟨cx, cy, cw, ch⟩, ay, l⟩ := c
  simp only [] at Qi HL HJ HN ⊢
  generalize ru ⟨ck, ⟨cx, cy, cw, ch⟩, ay, l⟩ = q at HL ⊢
  generalize l.all lT = p at Qi ⊢
  cases q with
  | false =>
   rw [Bool.false_and]
   go_enter Try.func197, Try.ntmps197
   go_wp2_with (first
    | ((with_reducible refine aC (N := 2) rfl ?_); refine aQ ?hg (N := 2) ?hd (cs := #[.pointer (some ⟨gw, 0, none⟩)]) (t := 180) ?hr ?_; (case hd => rfl); (case hg => rfl); (case hr => first | (go_simp; done) | (go_simp; rfl)); intro b2 hg Y0 hbox hb; have mg := ae.mk hbox; have Yg := ae.mk (show b2 ≠ gw by rw [hg]; exact Nat.ne_of_gt (gu KW.out)); have dN := ae.mk (az HB.out hb); have qj := ae.mk (aV KW.out hb); have nT := ae.mk (Kd.oD RV.out hb); have nS := ae.mk (FR.out.trans (Fr.below hb)); clear HB KW RV FR; have HB := dN; have KW := qj; have RV := nT; have FR := nS; clear dN qj nT nS; clear hb hbox hg)
    | ((with_reducible refine aC (N := 3) rfl ?_); refine aQ ?hg (N := 3) ?hd (cs := #[.int .u8 ck, .int .i64 cx, .int .i64 cy, .int .i64 cw, .int .i64 ch, .int .i64 ay, .slice A l.length cc]) (t := 26) ?hr ?_; (case hd => rfl); (case hg => rfl); (case hr => first | (go_simp; done) | (go_simp; rfl)); intro b3 hg Vy hbox hb; have dI := ae.mk hbox; have NE3 := ae.mk (show b3 ≠ gw by rw [hg]; exact Nat.ne_of_gt (gu KW.out)); have dN := ae.mk (az HB.out hb); have qj := ae.mk (aV KW.out hb); have nT := ae.mk (Kd.oD RV.out hb); have nS := ae.mk (FR.out.trans (Fr.below hb)); have o5 := ae.mk (aV mg.out hb); clear HB KW RV FR mg; have HB := dN; have KW := qj; have RV := nT; have FR := nS; have mg := o5; clear dN qj nT nS o5; have c0 := (af dI.out 0).trans rfl; have c1 := (af dI.out 1).trans rfl; have c2 := (af dI.out 2).trans rfl; have c3 := (af dI.out 3).trans rfl; have c4 := (af dI.out 4).trans rfl; have c5 := (af dI.out 5).trans rfl; have c6 := (af dI.out 6).trans rfl; clear hb hbox hg)
    | fail)
   clear c0 c1 c2 c3 c4 c5 c6
   refine (HL.out _ HB.out).mono ?_
   rintro e w1 ⟨Au, nu, cu, rfl, _, hb⟩
   have dN := ae.mk (az HB.out hb); have qj := ae.mk (aV KW.out hb); have nT := ae.mk (Kd.oD RV.out hb); have nS := ae.mk (FR.out.trans (Fr.below hb)); have o5 := ae.mk (aV mg.out hb); have wE := ae.mk (aV dI.out hb); clear HB KW RV FR mg dI; have HB := dN; have KW := qj; have RV := nT; have FR := nS; have mg := o5; have dI := wE; clear dN qj nT nS o5 wE
   clear hb
   go_wp2
   go_ret
   exact ⟨rfl, ⟨HB.out, n, _, ls, KW.out, RV.out, by have := OL.out; omega⟩, FR.out⟩
  | true =>
   rw [Bool.true_and]
   go_enter Try.func197, Try.ntmps197
   go_wp2_with (first
    | ((with_reducible refine aC (N := 2) rfl ?_); refine aQ ?hg (N := 2) ?hd (cs := #[.pointer (some ⟨gw, 0, none⟩)]) (t := 180) ?hr ?_; (case hd => rfl); (case hg => rfl); (case hr => first | (go_simp; done) | (go_simp; rfl)); intro b2 hg Y0 hbox hb; have mg := ae.mk hbox; have Yg := ae.mk (show b2 ≠ gw by rw [hg]; exact Nat.ne_of_gt (gu KW.out)); have dN := ae.mk (az HB.out hb); have qj := ae.mk (aV KW.out hb); have nT := ae.mk (Kd.oD RV.out hb); have nS := ae.mk (FR.out.trans (Fr.below hb)); clear HB KW RV FR; have HB := dN; have KW := qj; have RV := nT; have FR := nS; clear dN qj nT nS; clear hb hbox hg)
    | ((with_reducible refine aC (N := 3) rfl ?_); refine aQ ?hg (N := 3) ?hd (cs := #[.int .u8 ck, .int .i64 cx, .int .i64 cy, .int .i64 cw, .int .i64 ch, .int .i64 ay, .slice A l.length cc]) (t := 26) ?hr ?_; (case hd => rfl); (case hg => rfl); (case hr => first | (go_simp; done) | (go_simp; rfl)); intro b3 hg Vy hbox hb; have dI := ae.mk hbox; have NE3 := ae.mk (show b3 ≠ gw by rw [hg]; exact Nat.ne_of_gt (gu KW.out)); have dN := ae.mk (az HB.out hb); have qj := ae.mk (aV KW.out hb); have nT := ae.mk (Kd.oD RV.out hb); have nS := ae.mk (FR.out.trans (Fr.below hb)); have o5 := ae.mk (aV mg.out hb); clear HB KW RV FR mg; have HB := dN; have KW := qj; have RV := nT; have FR := nS; have mg := o5; clear dN qj nT nS o5; have c0 := (af dI.out 0).trans rfl; have c1 := (af dI.out 1).trans rfl; have c2 := (af dI.out 2).trans rfl; have c3 := (af dI.out 3).trans rfl; have c4 := (af dI.out 4).trans rfl; have c5 := (af dI.out 5).trans rfl; have c6 := (af dI.out 6).trans rfl; clear hb hbox hg)
    | fail)
   clear c0 c1 c2 c3 c4 c5 c6
   refine (HL.out _ HB.out).mono ?_
   rintro e w1 ⟨Au, nu, cu, rfl, hu, hb⟩
   obtain ⟨us, eu, hul, hu2⟩ := hu trivial
   subst eu
   have gX := ae.mk hul
   have HU := ae.mk (Kd.iZ hu2 HB.out.size)
   clear hul hu hu2
   have dN := ae.mk (az HB.out hb); have qj := ae.mk (aV KW.out hb); have nT := ae.mk (Kd.oD RV.out hb); have nS := ae.mk (FR.out.trans (Fr.below hb)); have o5 := ae.mk (aV mg.out hb); have wE := ae.mk (aV dI.out hb); clear HB KW RV FR mg dI; have HB := dN; have KW := qj; have RV := nT; have FR := nS; have mg := o5; have dI := wE; clear dN qj nT nS o5 wE
   clear hb
   have d0 := (af mg.out 0).trans rfl
   have e0 := (af KW.out 0).trans rfl
   have e1 := (af KW.out 1).trans rfl
   go_wp2_with (first
    | ((with_reducible refine lG (.store 3 (.tmp 20) (.tmp 18)) rfl ?_); go_loud (refine iF (w0 := w0) rfl rfl 3 (.tmp 20) (.tmp 18) rfl (g := gw) (j := 0) (base := w0.heap.size) #[.int .i64 (wrap64 (n + 1)), .slice Av ls.length cv] (u := .int .i64 (wrap64 (n + 1))) (bP := [.int .i64 (wrap64 (n + 1))]) ?sA ?sX rfl ?sT ?s1 KW.out ?sJ rfl HB.out HB.out.size E_.out ?_; (case sA => rfl); (case sX => rfl); (case sT => rfl); (case s1 => (simp [Value.oneCell'])); (case sJ => (first | decide | simp)); intro ws hbk hbb hgg; have nT := ae.mk (Kd.FP RV.out rfl hgg (fun k_ hk => hk ▸ Kd.FQ RV.out KW.out (by decide))); have Oc := ae.mk (Kd.FP HU.out rfl hgg (fun k_ hk => hk ▸ Kd.FQ HU.out KW.out (by decide))); have nS := ae.mk (FR.out.trans (Fr.store hgg)); have o5 := ae.mk (dJ mg.out hgg (fun e_ => absurd (Option.some.inj e_) Yg.out)); have wE := ae.mk (dJ dI.out hgg (fun e_ => absurd (Option.some.inj e_) NE3.out)); clear RV HU FR mg dI; have RV := nT; have HU := Oc; have FR := nS; have mg := o5; have dI := wE; clear nT Oc nS o5 wE; clear KW HB d0 e0 e1; have KW := ae.mk hbk; have HB := ae.mk hbb; clear hbk hbb hgg))
    | fail)
   have hb : Below ws.heap.size ws ws.drew := bC (Below.refl _ _)
   have dN := ae.mk (az HB.out hb); have qj := ae.mk (aV KW.out hb); have nT := ae.mk (Kd.oD RV.out hb); have nS := ae.mk (FR.out.trans (Fr.below hb)); have o5 := ae.mk (aV mg.out hb); have wE := ae.mk (aV dI.out hb); have Oc := ae.mk (Kd.oD HU.out hb); clear HB KW RV FR mg dI HU; have HB := dN; have KW := qj; have RV := nT; have FR := nS; have mg := o5; have dI := wE; have HU := Oc; clear dN qj nT nS o5 wE Oc
   clear hb
   refine iR (n := 10) (S := fun w' => Below w0.heap.size w0 w' ∧ w'.heap[b2]? = some (.cells #[.pointer (some ⟨gw, 0, none⟩)] 180 (0, 0)) ∧ w'.heap[gw]? = some (.cells #[.int .i64 (wrap64 (n + 1)), .slice Av ls.length cv] 182 (0, 0))) (ds := [9]) (bA 10 0) (by kernel_rfl) rfl rfl ⟨HB.out, mg.out, KW.out⟩ (fun hHeld => ?_); refine fJ qy.yA qy.uD (fun ak dZ => ?_)
   generalize ws.drew = wd at HB KW RV FR mg dI HU hHeld ⊢
   refine dE 0 21 (bA 10 1) ak dZ hHeld ?_ (hv := by intro w' hs_; have c := (af hs_.2.1 0).trans rfl; go_simp; with_reducible rfl)
   refine dE 1 22 (bA 10 3) ak dZ hHeld ?_ (hv := by intro w' hs_; have c := (af hs_.2.1 0).trans rfl; go_simp; with_reducible rfl)
   refine au 2 23 (bA 10 7) ak ?_
   refine au 3 24 (bA 10 15) ak ?_
   refine dE 4 25 (bA 10 31) ak dZ hHeld ?_ (hv := by intro w' hs_; have c := (af hs_.2.2 1).trans rfl; go_simp; with_reducible rfl)
   refine au 5 26 (bA 10 63) ak ?_
   refine gU (i := 6) (N := some 27) (bA 10 127) rfl rfl (bY ak.out (by kernel_rfl)) (by decide) (fun K hK => ?_)
   refine Kd.DF k23 (w0 := w0) w0.heap.size (by rfl) (.tmp 25) (.tmp 26) 42 23 (.agg #[(.int .i64 0), (.int .i64 0), (.int .i64 0), (.int .i64 0)]) 32 rfl Try.underlying42 info23 rfl (by decide) (by omega) (.slice Av ls.length cv) ls us Au us.length cu (fun _ => True) (fun _ => False) rfl rfl RV.out (Kd.dn HU.out).2.2 (fun _ _ h => h) (fun _ h => h.elim) (fun _ _ => trivial) HB.out HB.out.size (by have h1 := OL.out; have h2 := gX.out; have h3 := HJ.out; have h4 := HN.out; omega) ?_
   intro v1 wk ho hb hg hat
   have q1 := ae.mk (FR.out.trans (Fr.append RV.out hg))
   have q2 := ae.mk (dJ mg.out hg (Kd.FQ RV.out mg.out (by decide)))
   have q3 := ae.mk (dJ dI.out hg (Kd.FQ RV.out dI.out (by decide)))
   have q4 := ae.mk (dJ KW.out hg (Kd.FQ RV.out KW.out (by decide)))
   clear FR mg dI KW HB RV HU
   have FR := q1
   have mg := q2
   have dI := q3
   have KW := q4
   have HB := ae.mk hb
   have RV := ae.mk ho
   clear q1 q2 q3 q4 hb ho hg hat
   obtain ⟨A1, c1, e1⟩ := Kd.fQ RV.out
   subst e1
   refine hK.out _ _ ⟨HB.out, mg.out, KW.out⟩ (fun hHeld => ?_)
   clear hK K
   refine dR 27 ?_
   refine au 7 28 (bA 10 255) ak ?_
   refine au 8 29 (bA 10 511) ak ?_
   refine mO (i := 9) (N := none) (bA 10 1023) rfl rfl (bY ak.out (by kernel_rfl)) (by decide) (fun K hK => ?_)
   obtain ⟨w9, D9⟩ : ∃ w9, w9 = wk.setCells gw 1 [.slice A1 (ls ++ us).length c1] := ⟨_, rfl⟩
   have hst := qp (j := 1) (cs' := #[.int .i64 (wrap64 (n + 1)), .slice A1 (ls ++ us).length c1]) (bP := [.slice A1 (ls ++ us).length c1]) KW.out (by first | decide | simp) rfl
   rw [← D9] at hst
   refine Ic (w1 := w9) (by rfl) rfl ?_ ?_
   ·rw [D9]; exact Dj 42 (.tmp 29) (.tmp 27) rfl (cs := #[.int .i64 (wrap64 (n + 1)), .slice Av ls.length cv]) (t0 := 182) (bP := [.slice A1 (ls ++ us).length c1]) rfl rfl rfl (by kernel_rfl) (by simp [Value.oneCell']) KW.out (by first | decide | simp)
   have KY := ae.mk (grown_below HB.out hst.2 E_.out HB.out.size)
   have RV9 := ae.mk (Kd.FP RV.out rfl hst.2 (fun k_ hk => hk ▸ Kd.FQ RV.out KW.out (by decide)))
   have FR9 := ae.mk (FR.out.trans (Fr.store hst.2))
   have K29 := ae.mk (dJ mg.out hst.2 (fun e_ => absurd (Option.some.inj e_) Yg.out))
   have K39 := ae.mk (dJ dI.out hst.2 (fun e_ => absurd (Option.some.inj e_) NE3.out))
   have KW9 := ae.mk hst.1
   clear hst
   refine hK.out _ _ ?_
   clear hK K D9
   refine jI (gQ ak.out (by kernel_rfl)) ?_
   have c6 := (af K39.out 6).trans rfl
   cases p
   all_goals
    go_wp2_with fail
    refine (Qi.out b2 (j + us.length) _ Yg.out K29.out ⟨KY.out, _, _, _, KW9.out, RV9.out, by have := OL.out; rw [List.length_append]; omega⟩ (by have := gX.out; omega)).mono ?_
    rintro e w2 ⟨rfl, hi, hf⟩
    have HI := ae.mk hi
    have HF := ae.mk (FR9.out.trans hf)
    clear hi hf
    go_wp2
    go_ret
    exact ⟨rfl, HI.out, HF.out⟩
theorem aey : (Try.prog.info? 9).map (fun i => (i.zero, i.size, i.bytes)) = some (some (.string ⟨#[]⟩), 1, 16) := by kernel_rfl
theorem UL (e at_ : Int) (he : e ≠ 0) (w : World) : Calls Try.prog 196 #[.int .i64 e, .int .i64 at_] w fun x w' => (∃ t v, x = .returned (.iface t v)) ∧ Below w.heap.size w w' := by
 have hb : (e == 0) = false := beq_eq_false_iff_ne.mpr he
 clear he
 go_enter Try.func196, Try.ntmps196
 go_wp2
 go_ret
 exact ⟨⟨_, _, rfl⟩, gz (Below.refl _ _) _⟩
theorem Wh (ad : Addr) (c0 : Nat) (l0 : List ByteArray) (hl : l0.length ≤ 1000) (w : World) (hr0 : Kd.C Kd.string w (some ad) l0.length l0) (hc0 : l0.length ≤ c0) :
  Calls Try.prog 205 #[.slice (some ad) l0.length c0] w fun e w' => ∃ A n c, e = .returned (.slice A n c) ∧ Below w.heap.size w w' := by
 have heq : ∀ W : World, (binOp .eql 190 (.slice (some ad) l0.length c0) (.slice none 0 0)).run Try.prog W = .ok (.bool false) W := fun W => Lib.run_eql_slice_nil W 190 9 (some ad) l0.length c0 0 0 Try.underlying190
 have HR := ae.mk hr0
 have HL := ae.mk hl
 clear hl hr0
 go_enter Try.func205, Try.ntmps205
 go_wp2_with (first | ((with_reducible refine aC (N := 5) rfl ?_); refine Kd.pI Kd.string w.heap.size 9 ?hg (N := 5) ?hd (xs := ([] : List ByteArray)) (inner := []) (ok := fun _ => True) (gm := fun _ => True) ?hr ?hp (fun _ hk => hk) trivial (Below.refl _ _) (Nat.le_refl _) (by simp) ?_; (case hd => rfl); (case hg => rfl); (case hr => (go_simp; done)); (case hp => exact bT.none _ _); intro v5 w5 ho hb lh iG; clear lh iG; have HO := ae.mk ho; have HB := ae.mk hb; clear ho hb; obtain ⟨Ao, co, eo⟩ := Kd.fQ HO.out; subst eo) | ((with_reducible refine qc (b := .append) (xs := #[.tmp 5, .tmp 6]) rfl ?_); at_builtin; refine Kd.yl (Rr := Kd.string.K w) Kd.string (w0 := w) w.heap.size rfl (.tmp 5) (.tmp 6) 190 9 (.string ⟨#[]⟩) 16 rfl Try.underlying190 aey rfl (by decide) (by omega) (.slice Ao ([] : List ByteArray).length co) ([] : List ByteArray) l0 _ _ _ (fun _ => True) (fun _ => False) rfl rfl HO.out ?aR (fun _ _ h => h) (fun _ h => h.elim) (fun _ _ => trivial) HB.out HB.out.size ?aL ?_; (case aR => exact Kd.fC HR.out HB.out); (case aL => have := HL.out; simp; omega); intro v7 w7 ho hb lh ahB; have HO7 := ae.mk ho; have HB7 := ae.mk hb; clear ho hb lh ahB))
 obtain ⟨A7, c7, e7⟩ := Kd.fQ HO7.out
 subst e7
 go_ret
 exact ⟨_, _, _, rfl, HB7.out⟩
theorem YM (tv : TypeId) (v : Value) (ad : Addr) (c0 : Nat) (x : ByteArray) (w : World) (hr0 : Kd.C Kd.string w (some ad) 1 [x]) (hc0 : 1 ≤ c0) :
  Calls Try.prog 195 #[.iface tv v, .slice (some ad) 1 c0] w fun e w' => (∃ t u, e = .returned (.iface t u)) ∧ Below w.heap.size w w' := by
 have HCl := ae.mk (Wh ad c0 [x] (by simp) w hr0 hc0)
 clear hr0
 go_enter Try.func195, Try.ntmps195
 go_wp2_with fail
 refine HCl.out.mono ?_
 rintro e w' ⟨A, n, c, rfl, hb⟩
 have HB := ae.mk hb
 clear hb
 go_wp2
 go_ret
 exact ⟨⟨_, _, rfl⟩, gz HB.out _⟩
theorem Oi {x : ByteArray} {w : World} {A : Option Addr} (h : Kd.C Kd.string w A 1 [x]) : ∃ ad, A = some ad := by
 obtain ⟨ad, h1, _⟩ := h.2.2 (by omega)
 exact ⟨ad, h1⟩
theorem V8 (c : ai) (hz : sz c ≤ 1048576) (A : Option Addr) (cc : Nat) (w : World) (hr : Kd.C k26 w A c.f3.length c.f3) (hc : c.f3.length ≤ cc) :
  Calls Try.prog 180 #[.agg #[.int .u8 c.f0, .int .i64 c.f1.f0, .int .i64 c.f1.f1, .int .i64 c.f1.f2, .int .i64 c.f1.f3, .int .i64 c.f2, .slice A c.f3.length cc]] w fun e w' => (if eP c = true then e = .returned .nilIface else ∃ t u, e = .returned (.iface t u)) ∧ Below w.heap.size w w' := by
 have hM : rV.f [c] = some (lZ c) := by
  unfold rV.f
  rw [if_pos (by simp [hz])]
  simp
 have hW : lZ c = true → ∀ (gw : Nat) (W : World), w.heap.size ≤ gw → pM w gw 0 W → Calls Try.prog 197 #[.pointer (some ⟨gw, 0, none⟩), .agg #[.int .u8 c.f0, .int .i64 c.f1.f0, .int .i64 c.f1.f1, .int .i64 c.f1.f2, .int .i64 c.f1.f3, .int .i64 c.f2, .slice A c.f3.length cc]] W fun e w' => e = .returned (.bool (lT c)) ∧ pM w gw (0 + gy c.f3) w' ∧ Fr gw W w' := fun hm gw W hg hI => abv w gw hg (sz c) c (Nat.le_refl _) (oZ hm) A cc hr hc 0 W (by have := oZ hm; have := dL c; omega) hI
 unfold eP
 have HR := ae.mk hr
 have HC := ae.mk hc
 have HM := ae.mk hM
 have HW := ae.mk hW
 have HB := ae.mk (Below.refl w.heap.size w)
 clear hr hc hM hW hz
 obtain ⟨ck, ⟨cx, cy, cw, ch⟩, ay, l⟩ := c
 simp only [] at HR HC HW ⊢
 generalize lT ⟨ck, ⟨cx, cy, cw, ch⟩, ay, l⟩ = q at HW ⊢
 cases hm : lZ (⟨ck, ⟨cx, cy, cw, ch⟩, ay, l⟩ : ai) with
 | false =>
  rw [hm] at HM
  have HM := HM
  simp only [Bool.false_and, Bool.false_eq_true, if_false]
  clear hm HW
  go_enter Try.func180, Try.ntmps180
  go_wp2_with (first
   | ((with_reducible refine aC (N := 1) rfl ?_); refine aQ ?hg (N := 1) ?hd (cs := #[.int .u8 ck, .int .i64 cx, .int .i64 cy, .int .i64 cw, .int .i64 ch, .int .i64 ay, .slice A l.length cc]) (t := 26) ?hr ?_; (case hd => rfl); (case hg => rfl); (case hr => first | (go_simp; done) | (go_simp; rfl)); intro b1 hg YZ hbox hb; have fE := ae.mk hbox; have dN := ae.mk (az HB.out hb); clear HB; have HB := dN; clear dN; clear hb hbox hg)
   | ((with_reducible refine aC (N := 5) rfl ?_); refine aQ ?hg (N := 5) ?hd (cs := #[.int .i64 0, .slice none 0 0]) (t := 182) ?hr ?_; (case hd => rfl); (case hg => rfl); (case hr => first | (go_simp; done) | (go_simp; rfl)); intro gw hg wgw hbox hb; have pF := ae.mk hbox; have GG := ae.mk (show w.heap.size ≤ gw by rw [hg]; exact HB.out.size); have dN := ae.mk (az HB.out hb); have iy := ae.mk (aV fE.out hb); clear HB fE; have HB := dN; have fE := iy; clear dN iy; have c0 := (af fE.out 0).trans rfl; have c1 := (af fE.out 1).trans rfl; have c2 := (af fE.out 2).trans rfl; have c3 := (af fE.out 3).trans rfl; have c4 := (af fE.out 4).trans rfl; have c5 := (af fE.out 5).trans rfl; have c6 := (af fE.out 6).trans rfl; clear hb hbox hg)
   | ((with_reducible refine aC (N := 8) rfl ?_); refine Kd.yF k26 _ 26 ?hg (N' := 8) ?hd (xs := [(⟨ck, ⟨cx, cy, cw, ch⟩, ay, l⟩ : ai)]) (inner := [.int .u8 ck, .int .i64 cx, .int .i64 cy, .int .i64 cw, .int .i64 ch, .int .i64 ay, .slice A l.length cc]) (ok := fun _ => True) (gm := fun _ => True) ?hr ?hp (fun _ hk => hk) trivial (Below.refl _ _) (Nat.le_refl _) (by simp) ?_; (case hd => rfl); (case hg => rfl); (case hr => first | (go_simp; done) | (go_simp; rfl)); (case hp => exact (bT.c7 (qh _ _ (⟨ck, ⟨cx, cy, cw, ch⟩, ay, l⟩ : ai) HC.out (Kd.qN (Kd.Dx nP (Kd.fC HR.out HB.out)) (fun _ _ => trivial))) (bT.none _ _))); intro vr wr ho hb lh iG; clear lh iG; obtain ⟨Am, cm, er⟩ := Kd.jE ho; subst er; have dN := ae.mk (az HB.out hb); have iy := ae.mk (aV fE.out hb); have o6 := ae.mk (aV pF.out hb); clear HB fE pF; have HB := dN; have fE := iy; have pF := o6; clear dN iy o6; have Hm := ae.mk (Kd.jl ho).2.2; have Lm := ae.mk (Kd.jl ho).2.1; clear ho hb c0 c1 c2 c3 c4 c5 c6)
   | fail)
  refine (rV.calls Am cm [(⟨ck, ⟨cx, cy, cw, ch⟩, ay, l⟩ : ai)] false _ Hm.out Lm.out HM.out).mono ?_
  rintro e w1 ⟨rfl, hb⟩
  have dN := ae.mk (az HB.out hb); have iy := ae.mk (aV fE.out hb); have o6 := ae.mk (aV pF.out hb); clear HB fE pF; have HB := dN; have fE := iy; have pF := o6; clear dN iy o6
  clear hb Hm Lm
  go_wp2_with fail
  refine (UL 1 0 (by decide) _).mono ?_
  rintro e w2 ⟨⟨tv, v, rfl⟩, hb⟩
  have dN := ae.mk (az HB.out hb); clear HB; have HB := dN; clear dN
  clear hb
  go_wp2_with (first
   | ((with_reducible refine aC (N := 12) rfl ?_); refine Kd.pI Kd.string _ 9 ?hg (N := 12) ?hd (xs := [(⟨#[108, 97, 121, 111, 117, 116]⟩ : ByteArray)]) (inner := [.string (⟨#[108, 97, 121, 111, 117, 116]⟩ : ByteArray)]) (ok := fun _ => True) (gm := fun _ => True) ?hr ?hp (fun _ hk => hk) trivial (Below.refl _ _) (Nat.le_refl _) (by simp) ?_; (case hd => rfl); (case hg => rfl); (case hr => first | (go_simp; done) | (go_simp; rfl)); (case hp => exact (bT.one (show Kd.M Kd.string _ _ _ (⟨#[108, 97, 121, 111, 117, 116]⟩ : ByteArray) [.string (⟨#[108, 97, 121, 111, 117, 116]⟩ : ByteArray)] from rfl) (bT.none _ _))); intro vs wr ho hb lh iG; clear lh iG; obtain ⟨As, cs_, er⟩ := Kd.fQ ho; subst er; have dN := ae.mk (az HB.out hb); clear HB; have HB := dN; clear dN; have Hs := ae.mk (Kd.dn ho).2.2; have Ls := ae.mk (Kd.dn ho).2.1; clear ho hb)
   | fail)
  obtain ⟨ad, ea⟩ := Oi Hs.out
  subst ea
  refine (YM tv v ad cs_ _ _ Hs.out Ls.out).mono ?_
  rintro e w3 ⟨⟨tu, u, rfl⟩, hb⟩
  have dN := ae.mk (az HB.out hb); clear HB; have HB := dN; clear dN
  clear hb Hs Ls
  go_wp2
  go_ret
  exact ⟨⟨_, _, rfl⟩, HB.out⟩
 | true =>
  rw [hm] at HM
  have HW := ae.mk (HW.out hm)
  simp only [Bool.true_and]
  clear hm
  cases q with
  | true =>
   simp only [if_true]
   go_enter Try.func180, Try.ntmps180
   go_wp2_with (first
    | ((with_reducible refine aC (N := 1) rfl ?_); refine aQ ?hg (N := 1) ?hd (cs := #[.int .u8 ck, .int .i64 cx, .int .i64 cy, .int .i64 cw, .int .i64 ch, .int .i64 ay, .slice A l.length cc]) (t := 26) ?hr ?_; (case hd => rfl); (case hg => rfl); (case hr => first | (go_simp; done) | (go_simp; rfl)); intro b1 hg YZ hbox hb; have fE := ae.mk hbox; have dN := ae.mk (az HB.out hb); clear HB; have HB := dN; clear dN; clear hb hbox hg)
    | ((with_reducible refine aC (N := 5) rfl ?_); refine aQ ?hg (N := 5) ?hd (cs := #[.int .i64 0, .slice none 0 0]) (t := 182) ?hr ?_; (case hd => rfl); (case hg => rfl); (case hr => first | (go_simp; done) | (go_simp; rfl)); intro gw hg wgw hbox hb; have pF := ae.mk hbox; have GG := ae.mk (show w.heap.size ≤ gw by rw [hg]; exact HB.out.size); have dN := ae.mk (az HB.out hb); have iy := ae.mk (aV fE.out hb); clear HB fE; have HB := dN; have fE := iy; clear dN iy; have c0 := (af fE.out 0).trans rfl; have c1 := (af fE.out 1).trans rfl; have c2 := (af fE.out 2).trans rfl; have c3 := (af fE.out 3).trans rfl; have c4 := (af fE.out 4).trans rfl; have c5 := (af fE.out 5).trans rfl; have c6 := (af fE.out 6).trans rfl; clear hb hbox hg)
    | ((with_reducible refine aC (N := 8) rfl ?_); refine Kd.yF k26 _ 26 ?hg (N' := 8) ?hd (xs := [(⟨ck, ⟨cx, cy, cw, ch⟩, ay, l⟩ : ai)]) (inner := [.int .u8 ck, .int .i64 cx, .int .i64 cy, .int .i64 cw, .int .i64 ch, .int .i64 ay, .slice A l.length cc]) (ok := fun _ => True) (gm := fun _ => True) ?hr ?hp (fun _ hk => hk) trivial (Below.refl _ _) (Nat.le_refl _) (by simp) ?_; (case hd => rfl); (case hg => rfl); (case hr => first | (go_simp; done) | (go_simp; rfl)); (case hp => exact (bT.c7 (qh _ _ (⟨ck, ⟨cx, cy, cw, ch⟩, ay, l⟩ : ai) HC.out (Kd.qN (Kd.Dx nP (Kd.fC HR.out HB.out)) (fun _ _ => trivial))) (bT.none _ _))); intro vr wr ho hb lh iG; clear lh iG; obtain ⟨Am, cm, er⟩ := Kd.jE ho; subst er; have dN := ae.mk (az HB.out hb); have iy := ae.mk (aV fE.out hb); have o6 := ae.mk (aV pF.out hb); clear HB fE pF; have HB := dN; have fE := iy; have pF := o6; clear dN iy o6; have Hm := ae.mk (Kd.jl ho).2.2; have Lm := ae.mk (Kd.jl ho).2.1; clear ho hb c0 c1 c2 c3 c4 c5 c6)
    | fail)
   refine (rV.calls Am cm [(⟨ck, ⟨cx, cy, cw, ch⟩, ay, l⟩ : ai)] true _ Hm.out Lm.out HM.out).mono ?_
   rintro e w1 ⟨rfl, hb⟩
   have dN := ae.mk (az HB.out hb); have iy := ae.mk (aV fE.out hb); have o6 := ae.mk (aV pF.out hb); clear HB fE pF; have HB := dN; have fE := iy; have pF := o6; clear dN iy o6
   clear hb Hm Lm
   have HI := ae.mk (show pM w gw 0 w1 from ⟨HB.out, 0, .slice none 0 0, [], pF.out, Kd.pJ _ _ _ _ _, Nat.le_refl _⟩)
   have c0 := (af fE.out 0).trans rfl
   have c1 := (af fE.out 1).trans rfl
   have c2 := (af fE.out 2).trans rfl
   have c3 := (af fE.out 3).trans rfl
   have c4 := (af fE.out 4).trans rfl
   have c5 := (af fE.out 5).trans rfl
   have c6 := (af fE.out 6).trans rfl
   go_wp2_with fail
   clear c0 c1 c2 c3 c4 c5 c6
   refine (HW.out gw w1 GG.out HI.out).mono ?_
   rintro e w2 ⟨rfl, ⟨hb2, n, v, ls, hk, _, _⟩, _⟩
   clear HB pF HI fE
   have HB := ae.mk hb2
   have pF := ae.mk hk
   clear hb2 hk
   go_wp2
   go_ret
   exact ⟨rfl, HB.out⟩
  | false =>
   simp only [Bool.false_eq_true, if_false]
   go_enter Try.func180, Try.ntmps180
   go_wp2_with (first
    | ((with_reducible refine aC (N := 1) rfl ?_); refine aQ ?hg (N := 1) ?hd (cs := #[.int .u8 ck, .int .i64 cx, .int .i64 cy, .int .i64 cw, .int .i64 ch, .int .i64 ay, .slice A l.length cc]) (t := 26) ?hr ?_; (case hd => rfl); (case hg => rfl); (case hr => first | (go_simp; done) | (go_simp; rfl)); intro b1 hg YZ hbox hb; have fE := ae.mk hbox; have dN := ae.mk (az HB.out hb); clear HB; have HB := dN; clear dN; clear hb hbox hg)
    | ((with_reducible refine aC (N := 5) rfl ?_); refine aQ ?hg (N := 5) ?hd (cs := #[.int .i64 0, .slice none 0 0]) (t := 182) ?hr ?_; (case hd => rfl); (case hg => rfl); (case hr => first | (go_simp; done) | (go_simp; rfl)); intro gw hg wgw hbox hb; have pF := ae.mk hbox; have GG := ae.mk (show w.heap.size ≤ gw by rw [hg]; exact HB.out.size); have dN := ae.mk (az HB.out hb); have iy := ae.mk (aV fE.out hb); clear HB fE; have HB := dN; have fE := iy; clear dN iy; have c0 := (af fE.out 0).trans rfl; have c1 := (af fE.out 1).trans rfl; have c2 := (af fE.out 2).trans rfl; have c3 := (af fE.out 3).trans rfl; have c4 := (af fE.out 4).trans rfl; have c5 := (af fE.out 5).trans rfl; have c6 := (af fE.out 6).trans rfl; clear hb hbox hg)
    | ((with_reducible refine aC (N := 8) rfl ?_); refine Kd.yF k26 _ 26 ?hg (N' := 8) ?hd (xs := [(⟨ck, ⟨cx, cy, cw, ch⟩, ay, l⟩ : ai)]) (inner := [.int .u8 ck, .int .i64 cx, .int .i64 cy, .int .i64 cw, .int .i64 ch, .int .i64 ay, .slice A l.length cc]) (ok := fun _ => True) (gm := fun _ => True) ?hr ?hp (fun _ hk => hk) trivial (Below.refl _ _) (Nat.le_refl _) (by simp) ?_; (case hd => rfl); (case hg => rfl); (case hr => first | (go_simp; done) | (go_simp; rfl)); (case hp => exact (bT.c7 (qh _ _ (⟨ck, ⟨cx, cy, cw, ch⟩, ay, l⟩ : ai) HC.out (Kd.qN (Kd.Dx nP (Kd.fC HR.out HB.out)) (fun _ _ => trivial))) (bT.none _ _))); intro vr wr ho hb lh iG; clear lh iG; obtain ⟨Am, cm, er⟩ := Kd.jE ho; subst er; have dN := ae.mk (az HB.out hb); have iy := ae.mk (aV fE.out hb); have o6 := ae.mk (aV pF.out hb); clear HB fE pF; have HB := dN; have fE := iy; have pF := o6; clear dN iy o6; have Hm := ae.mk (Kd.jl ho).2.2; have Lm := ae.mk (Kd.jl ho).2.1; clear ho hb c0 c1 c2 c3 c4 c5 c6)
    | fail)
   refine (rV.calls Am cm [(⟨ck, ⟨cx, cy, cw, ch⟩, ay, l⟩ : ai)] true _ Hm.out Lm.out HM.out).mono ?_
   rintro e w1 ⟨rfl, hb⟩
   have dN := ae.mk (az HB.out hb); have iy := ae.mk (aV fE.out hb); have o6 := ae.mk (aV pF.out hb); clear HB fE pF; have HB := dN; have fE := iy; have pF := o6; clear dN iy o6
   clear hb Hm Lm
   have HI := ae.mk (show pM w gw 0 w1 from ⟨HB.out, 0, .slice none 0 0, [], pF.out, Kd.pJ _ _ _ _ _, Nat.le_refl _⟩)
   have c0 := (af fE.out 0).trans rfl
   have c1 := (af fE.out 1).trans rfl
   have c2 := (af fE.out 2).trans rfl
   have c3 := (af fE.out 3).trans rfl
   have c4 := (af fE.out 4).trans rfl
   have c5 := (af fE.out 5).trans rfl
   have c6 := (af fE.out 6).trans rfl
   go_wp2_with fail
   clear c0 c1 c2 c3 c4 c5 c6
   refine (HW.out gw w1 GG.out HI.out).mono ?_
   rintro e w2 ⟨rfl, ⟨hb2, n, v, ls, hk, _, _⟩, _⟩
   clear HB pF HI fE
   have HB := ae.mk hb2
   have pF := ae.mk hk
   clear hb2 hk
   have c0 := (af pF.out 0).trans rfl
   have c1 := (af pF.out 1).trans rfl
   go_wp2_with fail
   clear c0 c1
   refine (UL 5 n (by decide) _).mono ?_
   rintro e w2 ⟨⟨tv, v, rfl⟩, hb⟩
   have dN := ae.mk (az HB.out hb); clear HB; have HB := dN; clear dN
   clear hb
   go_wp2_with (first
    | ((with_reducible refine aC (N := 24) rfl ?_); refine Kd.pI Kd.string _ 9 ?hg (N := 24) ?hd (xs := [(⟨#[108, 97, 121, 111, 117, 116]⟩ : ByteArray)]) (inner := [.string (⟨#[108, 97, 121, 111, 117, 116]⟩ : ByteArray)]) (ok := fun _ => True) (gm := fun _ => True) ?hr ?hp (fun _ hk => hk) trivial (Below.refl _ _) (Nat.le_refl _) (by simp) ?_; (case hd => rfl); (case hg => rfl); (case hr => first | (go_simp; done) | (go_simp; rfl)); (case hp => exact (bT.one (show Kd.M Kd.string _ _ _ (⟨#[108, 97, 121, 111, 117, 116]⟩ : ByteArray) [.string (⟨#[108, 97, 121, 111, 117, 116]⟩ : ByteArray)] from rfl) (bT.none _ _))); intro vs wr ho hb lh iG; clear lh iG; obtain ⟨As, cs_, er⟩ := Kd.fQ ho; subst er; have dN := ae.mk (az HB.out hb); clear HB; have HB := dN; clear dN; have Hs := ae.mk (Kd.dn ho).2.2; have Ls := ae.mk (Kd.dn ho).2.1; clear ho hb)
    | fail)
   obtain ⟨ad, ea⟩ := Oi Hs.out
   subst ea
   refine (YM tv v ad cs_ _ _ Hs.out Ls.out).mono ?_
   rintro e w3 ⟨⟨tu, u, rfl⟩, hb⟩
   have dN := ae.mk (az HB.out hb); clear HB; have HB := dN; clear dN
   clear hb Hs Ls
   go_wp2
   go_ret
   exact ⟨⟨_, _, rfl⟩, HB.out⟩
theorem ac9 (x : ai) (hz : sz x ≤ 1048576) (B : Option Addr) (cb : Nat) (W : World) (hr : Kd.C k26 W B x.f3.length x.f3) (hl : x.f3.length ≤ cb) :
  Calls Try.prog 179 #[.agg #[.int .u8 x.f0, .int .i64 x.f1.f0, .int .i64 x.f1.f1, .int .i64 x.f1.f2, .int .i64 x.f1.f3, .int .i64 x.f2, .slice B x.f3.length cb]] W fun e w' => e = .returned (.bool (!eP x)) ∧ Below W.heap.size W w' := by
 have HC := ae.mk (fun W1 (hb : Below W.heap.size W W1) => V8 x hz B cb W1 (Kd.fC hr hb) hl)
 have HB := ae.mk (Below.refl W.heap.size W)
 clear hr hl hz
 cases hq : eP x
 all_goals
  simp only [hq, if_pos, Bool.false_eq_true, if_false] at HC
  clear hq
  go_enter Try.func179, Try.ntmps179
  go_wp2_with (first
   | ((with_reducible refine aC (N := 1) rfl ?_); refine aQ ?hg (N := 1) ?hd (cs := #[.int .u8 x.f0, .int .i64 x.f1.f0, .int .i64 x.f1.f1, .int .i64 x.f1.f2, .int .i64 x.f1.f3, .int .i64 x.f2, .slice B x.f3.length cb]) (t := 26) ?hr ?_; (case hd => rfl); (case hg => rfl); (case hr => first | (go_simp; done) | (go_simp; rfl)); intro b1 hg YZ hbox hb; have fE := ae.mk hbox; have dN := ae.mk (az HB.out hb); clear HB; have HB := dN; clear dN; have c0 := (af fE.out 0).trans rfl; have c1 := (af fE.out 1).trans rfl; have c2 := (af fE.out 2).trans rfl; have c3 := (af fE.out 3).trans rfl; have c4 := (af fE.out 4).trans rfl; have c5 := (af fE.out 5).trans rfl; have c6 := (af fE.out 6).trans rfl; clear hb hbox hg)
   | fail)
  clear c0 c1 c2 c3 c4 c5 c6
 ·refine (HC.out _ HB.out).mono ?_
  rintro e w2 ⟨⟨t, u, rfl⟩, hb⟩
  have dN := ae.mk (az HB.out hb); clear HB; have HB := dN; clear dN
  clear hb
  go_wp2
  go_ret
  exact ⟨rfl, HB.out⟩
 ·refine (HC.out _ HB.out).mono ?_
  rintro e w2 ⟨rfl, hb⟩
  have dN := ae.mk (az HB.out hb); clear HB; have HB := dN; clear dN
  clear hb
  go_wp2
  go_ret
  exact ⟨rfl, HB.out⟩
theorem Oq (l : List ai) (hz : ∀ x, x ∈ l → sz x ≤ 1048576) (A : Option Addr) (c : Nat) (w : World) (hr : Kd.C k26 w A l.length l) (hc : l.length ≤ c) :
  Calls Try.prog 148 #[.slice A l.length c] w fun e w' => e = .returned (.bool (l.all eP)) ∧ Below w.heap.size w w' := by
 have hq := OZ (fun _ W => Below w.heap.size w W) (fun x => !eP x) 179 #[] (rX Try.func179 (by decide +kernel) (by kernel_rfl)) l A c w hr (fun _ _ h => h) (fun _ W n h => az h (dC (Below.refl _ _) n))
  (fun x rest W B cb hx _ hI hC hlx => by
   refine (ac9 x (hz x hx) B cb W (Kd.fC hC hI) hlx).mono ?_
   rintro e w' ⟨he, hb⟩
   exact ⟨he, az hI hb⟩) w (Below.refl _ _) hr.2.1
 have HQ := ae.mk hq
 rw [List.all_eq_not_any_not]
 clear hq hr hc hz
 generalize l.any (fun x => !eP x) = r at HQ ⊢
 cases r
 all_goals
  go_enter Try.func148, Try.ntmps148
  go_wp2_with fail
  refine HQ.out.mono ?_
  rintro e w2 ⟨rfl, hb⟩
  have HB := ae.mk hb
  clear hb
  go_wp2
  go_ret
  exact ⟨rfl, HB.out⟩
noncomputable def lL.f (l0 : List ai) : Option Bool := if l0.all (fun c => decide (sz c ≤ 1048576)) = true then some (l0.all eP) else none
theorem lL.calls (A0 : Option Addr) (c0 : Nat) (l0 : List ai) (r : Bool) (w : World) (hr0 : Kd.C k26 w A0 l0.length l0) (hc0 : l0.length ≤ c0) (h : lL.f l0 = some r) :
  Calls Try.prog 148 #[.slice A0 l0.length c0] w fun e w' => e = .returned (.bool r) ∧ Below w.heap.size w w' := by
 unfold lL.f at h
 split at h
 ·rename_i hz
  injection h with h
  subst h
  exact Oq l0 (fun x hx => of_decide_eq_true (List.all_eq_true.1 hz x hx)) A0 c0 w hr0 hc0
 ·exact absurd h (by simp)
end Go.Proofs.Ytfdmfgaiblfbhaa.P
namespace Go.Proofs.Ytfdmfgaiblfbhaa.P
open Go.RowKit Go.Proofs.ag.aW Go.Proofs.ag.dA Go.Proofs.ag.dU
attribute [local go_sem] kM kZ lN l7 kz kC kY lg
noncomputable def dH.j0 : Nat → Int → Bool → Int → Int → Int → Int → Int → Int → List (ai) → Option (Int)
 | 0, _, _, _, _, _, _, _, _, _ => none
 | k + 1, x1, Ik, abJ, P8, P9, P_, Qa, abK, abL => if Ik = true then (some 0) else ((oV.f P8 P9 P_ Qa x1).bind fun Gs => ((lF.f k abJ P8 P9 P_ Qa abK abL x1).bind fun Ep => (some (wrap64 (Gs - Ep)))))
noncomputable def dH.f (k : Nat) (aA : Int) (aJ : Int) (aH : Int) (aI : Int) (bI : Int) (bJ : Int) (aK : List (ai)) (a1 : Int) : Option (Int) := (kX.f a1).bind fun Jm => (if Jm = true then ((lL.f (([(⟨aA, (⟨aJ, aH, aI, bI⟩ : dW), bJ, aK⟩ : ai)] : List (ai)))).bind fun xe => (dH.j0 k a1 (!xe) aA aJ aH aI bI bJ aK)) else (dH.j0 k a1 true aA aJ aH aI bI bJ aK))
def dH.T3 : Bool × List (List Nat × List Nat) := (true, [([], []), ([0], [0]), ([], []), ([1, 2], [1, 2]), ([], []), ([], []), ([4, 5, 3], [4, 5]), ([3, 6], [3, 6]), ([7, 6, 0, 1, 2, 3, 4, 5, 6, 7], [7])])
def dH.B3 : List Nat := [0, 1, 0, 7, 0, 0, 63, 127, 255]
theorem dH.Ru : iY .any (opsOf Try.f86 3) = dH.T3 := by kernel_rfl
theorem dH.KE : iI dH.T3.2 dH.B3 = true := by kernel_rfl
theorem dH.calls (k : Nat) (aA : Int) (aJ : Int) (aH : Int) (aI : Int) (bI : Int) (bJ : Int) (gq : Nat → Prop) (eQ : Option Addr) (eU : Nat) (aK : List (ai)) (a1 : Int) (r : Int) (w : World) (EP : Kd.V k26 26 w w.heap.size (fun k_ => gq k_) (.slice eQ aK.length eU) aK) (h : dH.f k aA aJ aH aI bI bJ aK a1 = some r) :
  Calls Try.prog 86 #[.agg #[.int .u8 aA, .int .i64 aJ, .int .i64 aH, .int .i64 aI, .int .i64 bI, .int .i64 bJ, .slice eQ aK.length eU], .int .u8 a1] w fun e w' => e = .returned (.int .i64 r) ∧ Below w.heap.size w w' := by
 have I8 := Try.underlying26
 have NP := Try.underlying23
 have jH := ae.mk (show Kd.V k26 26 w w.heap.size (fun k_ => (gq k_ ∨ w.heap.size ≤ k_)) (.slice eQ aK.length eU) aK from Kd.ik EP (fun k_ hk => .inl hk))
 have HB := ae.mk (Below.refl w.heap.size w)
 have H : ((kX.f a1).bind fun Jm => (if Jm = true then ((lL.f (([(⟨aA, (⟨aJ, aH, aI, bI⟩ : dW), bJ, aK⟩ : ai)] : List (ai)))).bind fun xe => (dH.j0 k a1 (!xe) aA aJ aH aI bI bJ aK)) else (dH.j0 k a1 true aA aJ aH aI bI bJ aK))) = some r := h
 clear h
 have KZ := ae.mk H
 clear H
 go_enter Try.func86, Try.ntmps86
 go_upto_region 1 with (((with_reducible refine aC (N := 2) rfl ?_); (try (refine fZ (by rfl) ?_; dsimp only)); refine aQ ?hg (N := 2) ?hd (cs := #[.int .u8 aA, .int .i64 aJ, .int .i64 aH, .int .i64 aI, .int .i64 bI, .int .i64 bJ, .slice eQ aK.length eU]) (t := 26) ?hr ?_; (case hd => rfl); (case hg => rfl); (case hr => (go_simp; done)); intro lS hg w4 hbox hb; have fP := ae.mk (hbox); replace jH := ae.mk (Kd.jQ (Kd.nO jH.out lS (Nat.le_of_eq hg.symm)) hb); replace HB := ae.mk (az (by repeat ((with_reducible exact HB.out))) hb); clear hb hbox hg))
 (skip)
 go_cut [13] (fun v13 wc => ∃ (kq : Nat) (KH : Bool), v13 = .bool KH ∧ ae (dH.j0 kq a1 KH aA aJ aH aI bI bJ aK = some r) ∧ ae (kq ≤ k) ∧ ae (Kd.V k26 26 wc w.heap.size (fun k_ => (gq k_ ∨ w.heap.size ≤ k_) ∧ k_ ≠ lS) (.slice eQ aK.length eU) aK) ∧ ae (wc.heap[lS]? = some (.cells #[.int .u8 aA, .int .i64 aJ, .int .i64 aH, .int .i64 aI, .int .i64 bI, .int .i64 bJ, (.slice eQ aK.length eU)] 26 (0, 0))) ∧ ae (Below w.heap.size w wc))
 case first =>
  have H := KZ.out
  clear KZ
  replace H := Option.bind_eq_some_iff.mp H
  obtain ⟨Jm, KN, H⟩ := H
  replace H : (if Jm = true then ((lL.f (([(⟨aA, (⟨aJ, aH, aI, bI⟩ : dW), bJ, aK⟩ : ai)] : List (ai)))).bind fun xe => (dH.j0 k a1 (!xe) aA aJ aH aI bI bJ aK)) else (dH.j0 k a1 true aA aJ aH aI bI bJ aK)) = some r := H
  have A5 := ae.mk KN
  clear KN
  by_cases c6 : Jm = true
  ·subst c6
   have H1 : ((lL.f (([(⟨aA, (⟨aJ, aH, aI, bI⟩ : dW), bJ, aK⟩ : ai)] : List (ai)))).bind fun xe => (dH.j0 k a1 (!xe) aA aJ aH aI bI bJ aK)) = some r := by rw [if_pos rfl] at H; exact H
   clear H
   have H := H1
   clear H1
   obtain ⟨afg, QX⟩ : ∃ y_ : List (ai), y_ = (([(⟨aA, (⟨aJ, aH, aI, bI⟩ : dW), bJ, aK⟩ : ai)] : List (ai))) := ⟨_, rfl⟩
   replace H : ((lL.f afg).bind fun xe => (dH.j0 k a1 (!xe) aA aJ aH aI bI bJ aK)) = some r := by (rw [QX]; with_reducible exact H)
   have afH := ae.mk QX
   clear QX
   replace H := Option.bind_eq_some_iff.mp H
   obtain ⟨xe, RI, H⟩ := H
   replace H : (dH.j0 k a1 (!xe) aA aJ aH aI bI bJ aK) = some r := H
   have A7 := ae.mk RI
   clear RI
   have H' := ae.mk H
   clear H
   go_wp2_with (first | ((with_reducible refine gW (f := 147) rfl ?_); refine jL (some 6) rfl rfl Try.func147 (by kernel_rfl) rfl #[.int .u8 a1] rfl (by (try simp only [List.map_toArray, List.map_cons, List.map_nil]); rfl) ?_; (with_reducible refine (kX.calls a1 true _ A5.out).mono ?_); rintro e w8 ⟨rfl, hb⟩; refine ⟨_, rfl, ?_⟩; replace jH := ae.mk (Kd.jQ jH.out hb); replace fP := ae.mk (aV fP.out hb); replace HB := ae.mk (az (by repeat ((with_reducible exact HB.out))) hb); (try clear hb); have TS : w8.cell? ⟨lS, 0, none⟩ = some (.int .u8 aA) := (af fP.out 0).trans rfl; have TT : w8.cell? ⟨lS, 1, none⟩ = some (.int .i64 aJ) := (af fP.out 1).trans rfl; have TU : w8.cell? ⟨lS, 2, none⟩ = some (.int .i64 aH) := (af fP.out 2).trans rfl; have TV : w8.cell? ⟨lS, 3, none⟩ = some (.int .i64 aI) := (af fP.out 3).trans rfl; have TW : w8.cell? ⟨lS, 4, none⟩ = some (.int .i64 bI) := (af fP.out 4).trans rfl; have TY : w8.cell? ⟨lS, 5, none⟩ = some (.int .i64 bJ) := (af fP.out 5).trans rfl; have TZ : w8.cell? ⟨lS, 6, none⟩ = some (.slice eQ aK.length eU) := (af fP.out 6).trans rfl; have Uk := ah fP.out 0; have Ul := ah fP.out 1; have Um := ah fP.out 2; have Un := ah fP.out 3; have Uo := ah fP.out 4; have Ur := ah fP.out 5; have Us := ah fP.out 6) | ((with_reducible refine aC (N := 10) rfl ?_); (try (refine fZ (by rfl) ?_; dsimp only)); refine Kd.yF k26 _ 26 ?hg (N' := 10) ?hd (xs := ([(⟨aA, (⟨aJ, aH, aI, bI⟩ : dW), bJ, aK⟩ : ai)] : List (ai))) (inner := [.int .u8 aA, .int .i64 aJ, .int .i64 aH, .int .i64 aI, .int .i64 bI, .int .i64 bJ, .slice eQ aK.length eU]) (ok := (fun k_ => (gq k_ ∨ w.heap.size ≤ k_) ∧ k_ ≠ lS)) (gm := (fun k_ => (gq k_ ∨ w.heap.size ≤ k_) ∧ k_ ≠ lS)) ?hr ?hp (fun _ hk => hk) ((show ∀ k_, w8.heap.size ≤ k_ → (fun k_ => (gq k_ ∨ w.heap.size ≤ k_) ∧ k_ ≠ lS) k_ from fun k_ hk => ⟨(.inr (Nat.le_trans (cO (by repeat ((with_reducible exact HB.out)))) hk)), Kd.y9 fP.out k_ hk⟩) _ (Nat.le_refl _)) (Below.refl _ _) (Nat.le_refl _) (by simp) ?_; (case hd => rfl); (case hg => rfl); (case hr => (go_simp; done)); (case hp => exact (bT.c7 (show Kd.FK k26 _ _ (⟨aA, (⟨aJ, aH, aI, bI⟩ : dW), bJ, aK⟩ : ai) [.int .u8 aA, .int .i64 aJ, .int .i64 aH, .int .i64 aI, .int .i64 bI, .int .i64 bJ, .slice eQ aK.length eU] from (qh _ _ (⟨aA, (⟨aJ, aH, aI, bI⟩ : dW), bJ, aK⟩ : ai) (Kd.jY (Kd.ik (ok' := (fun k_ => (gq k_ ∨ w.heap.size ≤ k_) ∧ k_ ≠ lS)) (jH.out) (fun k_ hk => ⟨hk.1, hk.2⟩))).2.1 (Kd.OT (Kd.ik (ok' := (fun k_ => (gq k_ ∨ w.heap.size ≤ k_) ∧ k_ ≠ lS)) (jH.out) (fun k_ hk => ⟨hk.1, hk.2⟩))))) (bT.none _ _))); intro alT w10 v_ hb lh iG; clear lh iG; (rw [← afH.out] at v_); have GL := ae.mk (Kd.wO v_ (cO (by repeat ((with_reducible exact HB.out))))); replace jH := ae.mk (Kd.wP jH.out (Kd.t_ v_) hb); replace fP := ae.mk (aV fP.out hb); replace HB := ae.mk (az (by repeat ((with_reducible exact HB.out))) hb); clear hb v_; obtain ⟨VF, Wi, Np⟩ := Kd.jE GL.out; subst Np) | (go_at_call 148; (with_reducible refine (lL.calls _ _ afg xe _ ?mD ?o8 A7.out).mono ?_); (case mD => repeat (exact (Kd.jl GL.out).2.2)); (case o8 => exact (Kd.jl GL.out).2.1); rintro e sG ⟨rfl, hb⟩; replace jH := ae.mk (Kd.jQ jH.out hb); replace GL := ae.mk (Kd.pW GL.out hb); replace fP := ae.mk (aV fP.out hb); replace HB := ae.mk (az (by repeat ((with_reducible exact HB.out))) hb); (try clear hb)))
   go_meet
   case rel => exact ⟨_, (!xe), (by rfl), H', ⟨by omega⟩, ⟨by exact Kd.ik jH.out (fun _ hk => ⟨hk.1.1, hk.1.2⟩)⟩, ⟨by exact fP.out⟩, ⟨by repeat ((with_reducible exact HB.out))⟩⟩
  ·replace c6 := Bool.eq_false_iff.mpr c6
   subst c6
   have H1 : (dH.j0 k a1 true aA aJ aH aI bI bJ aK) = some r := by rw [if_neg (show ¬ (false = true) by decide)] at H; exact H
   clear H
   have H := H1
   clear H1
   have H' := ae.mk H
   clear H
   go_wp2_with (((with_reducible refine gW (f := 147) rfl ?_); refine jL (some 6) rfl rfl Try.func147 (by kernel_rfl) rfl #[.int .u8 a1] rfl (by (try simp only [List.map_toArray, List.map_cons, List.map_nil]); rfl) ?_; (with_reducible refine (kX.calls a1 false _ A5.out).mono ?_); rintro e YY ⟨rfl, hb⟩; refine ⟨_, rfl, ?_⟩; replace jH := ae.mk (Kd.jQ jH.out hb); replace fP := ae.mk (aV fP.out hb); replace HB := ae.mk (az (by repeat ((with_reducible exact HB.out))) hb); (try clear hb)))
   go_meet
   case rel => exact ⟨_, (true), (by rfl), H', ⟨by omega⟩, ⟨by exact jH.out⟩, ⟨by exact fP.out⟩, ⟨by repeat ((with_reducible exact HB.out))⟩⟩
 case rest =>
  clear KZ
  obtain ⟨kq, KH, rfl, HA, HJ2, oN, fP, HB⟩ := hcut
  cases kq with
  | zero => exact absurd HA.out (by simp [dH.j0])
  | succ NU =>
   have H := HA.out
   clear HA
   simp only [dH.j0] at H
   by_cases c15 : KH = true
   ·subst c15
    have H1 : (some 0) = some r := by rw [if_pos rfl] at H; exact H
    clear H
    have H := H1
    clear H1
    obtain rfl := Option.some.inj H
    go_wp2
    go_ret
    exact ⟨by rfl, by repeat ((with_reducible exact HB.out))⟩
   ·replace c15 := Bool.eq_false_iff.mpr c15
    subst c15
    have H1 : ((oV.f aJ aH aI bI a1).bind fun Gs => ((lF.f NU aA aJ aH aI bI bJ aK a1).bind fun Ep => (some (wrap64 (Gs - Ep))))) = some r := by rw [if_neg (show ¬ (false = true) by decide)] at H; exact H
    clear H
    have H := H1
    clear H1
    replace H := Option.bind_eq_some_iff.mp H
    obtain ⟨Gs, KL, H⟩ := H
    replace H : ((lF.f NU aA aJ aH aI bI bJ aK a1).bind fun Ep => (some (wrap64 (Gs - Ep)))) = some r := H
    have A16 := ae.mk KL
    clear KL
    replace H := Option.bind_eq_some_iff.mp H
    obtain ⟨Ep, abS, H⟩ := H
    replace H : (some (wrap64 (Gs - Ep))) = some r := H
    have A17 := ae.mk abS
    clear abS
    obtain rfl := Option.some.inj H
    try go_wp2
    replace oN := ae.mk (Kd.LH oN.out); replace fP := ae.mk (uK fP.out); replace HB := ae.mk (uf HB.out)
    refine iR (n := 9) (S := fun w' => w'.cell? ⟨lS, 0, none⟩ = some (.int .u8 aA) ∧ w'.cell? ⟨lS, 1, none⟩ = some (.int .i64 aJ) ∧ w'.cell? ⟨lS, 2, none⟩ = some (.int .i64 aH) ∧ w'.cell? ⟨lS, 3, none⟩ = some (.int .i64 aI) ∧ w'.cell? ⟨lS, 4, none⟩ = some (.int .i64 bI) ∧ w'.cell? ⟨lS, 5, none⟩ = some (.int .i64 bJ) ∧ w'.cell? ⟨lS, 6, none⟩ = some (.slice eQ aK.length eU)) (ds := []) #[false, false, false, false, false, false, false, false, false] (by kernel_rfl) rfl rfl ⟨(af fP.out 0).trans rfl, (af fP.out 1).trans rfl, (af fP.out 2).trans rfl, (af fP.out 3).trans rfl, (af fP.out 4).trans rfl, (af fP.out 5).trans rfl, (af fP.out 6).trans rfl⟩ (fun hHeld => ?_); refine fJ dH.Ru dH.KE (fun ak dZ => ?_)
    generalize wc.drew = w18 at oN fP HB hHeld ⊢
    refine rE (i := 0) (N := some 14) (v := ?_) (a' := ?_) #[true, false, false, false, false, false, false, false, false] rfl rfl (oQ ak.out (by kernel_rfl)) (fun _ _ _ h => h) (Or.inl ⟨by rfl, ?_⟩) ?_ ?_
    rotate_left
    ·intro w'
     go_simp
     with_reducible rfl
    rotate_left
    ·simp only [Act.put, List.setIfInBounds_toArray, List.set_cons_zero, List.set_cons_succ, kT, kS]
     rfl
    refine rE (i := 2) (N := some 16) (v := ?_) (a' := ?_) #[true, false, true, false, false, false, false, false, false] rfl rfl (oQ ak.out (by kernel_rfl)) (fun _ _ _ h => h) (Or.inl ⟨by rfl, ?_⟩) ?_ ?_
    rotate_left
    ·intro w'
     go_simp
     with_reducible rfl
    rotate_left
    ·simp only [Act.put, List.setIfInBounds_toArray, List.set_cons_zero, List.set_cons_succ, kT, kS]
     rfl
    refine rE (i := 5) (N := some 19) (v := ?_) (a' := ?_) #[true, false, true, false, false, true, false, false, false] rfl rfl (oQ ak.out (by kernel_rfl)) (fun _ _ _ h => h) (Or.inl ⟨by rfl, ?_⟩) ?_ ?_
    rotate_left
    ·intro w'
     go_simp
     with_reducible rfl
    rotate_left
    ·simp only [Act.put, List.setIfInBounds_toArray, List.set_cons_zero, List.set_cons_succ, kT, kS]
     rfl
    refine yO (i := 1) (N := some 15) (v := ?_) (a' := ?_) #[true, true, true, false, false, true, false, false, false] rfl rfl (uO ak.out dZ.out (by kernel_rfl)) (fun _ _ _ h => h) (Or.inl ⟨by rfl, ?_⟩) hHeld ?_ ?_
    rotate_left
    ·rintro w' ⟨s0, s1, s2, s3, s4, s5, s6⟩
     go_simp
     with_reducible rfl
    rotate_left
    ·simp only [Act.put, List.setIfInBounds_toArray, List.set_cons_zero, List.set_cons_succ, kT, kS]
     rfl
    refine yO (i := 4) (N := some 18) (v := ?_) (a' := ?_) #[true, true, true, false, true, true, false, false, false] rfl rfl (uO ak.out dZ.out (by kernel_rfl)) (fun _ _ _ h => h) (Or.inl ⟨by rfl, ?_⟩) hHeld ?_ ?_
    rotate_left
    ·rintro w' ⟨s0, s1, s2, s3, s4, s5, s6⟩
     go_simp
     with_reducible rfl
    rotate_left
    ·simp only [Act.put, List.setIfInBounds_toArray, List.set_cons_zero, List.set_cons_succ, kT, kS]
     rfl
    refine gU (i := 3) (N := some 17) #[true, true, true, true, true, true, false, false, false] rfl rfl (bY ak.out (by kernel_rfl)) (by decide) (fun K hK => ?_)
    refine fK Try.func98 (by kernel_rfl) rfl #[.agg #[.int .i64 aJ, .int .i64 aH, .int .i64 aI, .int .i64 bI], .int .u8 a1] (by rfl) rfl rfl (by (try simp only [List.map_toArray, List.map_cons, List.map_nil]); rfl) ?_
    with_reducible refine (oV.calls aJ aH aI bI a1 Gs _ A16.out).mono ?_
    rintro e Ew ⟨rfl, hb⟩
    refine ⟨_, rfl, ?_⟩
    replace oN := ae.mk (Kd.jQ oN.out hb); replace fP := ae.mk (aV fP.out hb); replace HB := ae.mk (az (by repeat ((with_reducible exact HB.out))) hb)
    (try clear hb)
    (skip)
    (skip)
    (skip)
    refine hK.out _ _ ⟨(af fP.out 0).trans rfl, (af fP.out 1).trans rfl, (af fP.out 2).trans rfl, (af fP.out 3).trans rfl, (af fP.out 4).trans rfl, (af fP.out 5).trans rfl, (af fP.out 6).trans rfl⟩ (fun hHeld => ?_)
    clear hK K
    refine mr (a' := ?_) ?_ ?_
    rotate_left
    ·show Act.put _ (some 17) _ = _
     simp only [Act.put, List.setIfInBounds_toArray, List.set_cons_zero, List.set_cons_succ, kT, kS]
     rfl
    refine gU (i := 6) (N := some 20) #[true, true, true, true, true, true, true, false, false] rfl rfl (bY ak.out (by kernel_rfl)) (by decide) (fun K hK => ?_)
    refine fK Try.func149 (by kernel_rfl) rfl #[.agg #[.int .u8 aA, .int .i64 aJ, .int .i64 aH, .int .i64 aI, .int .i64 bI, .int .i64 bJ, .slice eQ aK.length eU], .int .u8 a1] (by rfl) rfl rfl (by (try simp only [List.map_toArray, List.map_cons, List.map_nil]); rfl) ?_
    with_reducible refine (lF.calls NU aA aJ aH aI bI bJ _ _ aK a1 Ep _ ?mD ?o8 A17.out).mono ?_
    (case mD => repeat (exact (Kd.jY oN.out).2.2))
    (case o8 => exact (Kd.jY oN.out).2.1)
    rintro e w20 ⟨rfl, hb⟩
    refine ⟨_, rfl, ?_⟩
    replace oN := ae.mk (Kd.jQ oN.out hb); replace fP := ae.mk (aV fP.out hb); replace HB := ae.mk (az (by repeat ((with_reducible exact HB.out))) hb)
    (try clear hb)
    (skip)
    (skip)
    (skip)
    refine hK.out _ _ ⟨(af fP.out 0).trans rfl, (af fP.out 1).trans rfl, (af fP.out 2).trans rfl, (af fP.out 3).trans rfl, (af fP.out 4).trans rfl, (af fP.out 5).trans rfl, (af fP.out 6).trans rfl⟩ (fun hHeld => ?_)
    clear hK K
    refine mr (a' := ?_) ?_ ?_
    rotate_left
    ·show Act.put _ (some 20) _ = _
     simp only [Act.put, List.setIfInBounds_toArray, List.set_cons_zero, List.set_cons_succ, kT, kS]
     rfl
    refine rE (i := 7) (N := some 21) (v := ?_) (a' := ?_) #[true, true, true, true, true, true, true, true, false] rfl rfl (oQ ak.out (by kernel_rfl)) (fun _ _ _ h => h) (Or.inl ⟨by rfl, ?_⟩) ?_ ?_
    rotate_left
    ·intro w'
     go_simp
     with_reducible rfl
    rotate_left
    ·simp only [Act.put, List.setIfInBounds_toArray, List.set_cons_zero, List.set_cons_succ, kT, kS]
     rfl
    refine rE (i := 8) (N := some 4) (v := ?_) (a' := ?_) #[true, true, true, true, true, true, true, true, true] rfl rfl (oQ ak.out (by kernel_rfl)) (fun _ _ _ h => h) (Or.inl ⟨by rfl, ?_⟩) ?_ ?_
    rotate_left
    ·intro w'
     go_simp
     with_reducible rfl
    rotate_left
    ·simp only [Act.put, List.setIfInBounds_toArray, List.set_cons_zero, List.set_cons_succ, kT, kS]
     rfl
    refine jI (gQ ak.out (by kernel_rfl)) ?_
    try go_wp2
    go_ret
    exact ⟨by rfl, by repeat ((with_reducible exact HB.out))⟩
def qm.f (aA : Int) (aJ : Int) (aH : Int) (aI : Int) (a1 : Int) : Option (Int) := if a1 = 1 then (some aH) else (if a1 = 2 then (some aI) else (some 0))
theorem qm.calls (aA : Int) (aJ : Int) (aH : Int) (aI : Int) (a1 : Int) (r : Int) (w : World) (h : qm.f aA aJ aH aI a1 = some r) :
  Calls Try.prog 87 #[.agg #[.int .i64 aA, .int .i64 aJ, .int .i64 aH, .int .i64 aI], .int .u8 a1] w fun e w' => e = .returned (.int .i64 r) ∧ Below w.heap.size w w' := by
 have NP := Try.underlying23
 have HB := ae.mk (Below.refl w.heap.size w)
 have H : (if a1 = 1 then (some aH) else (if a1 = 2 then (some aI) else (some 0))) = some r := h
 clear h
 by_cases c3 : a1 = 1
 ·rw [if_pos c3] at H
  have pq : (a1 == 1) = true := beq_iff_eq.mpr c3
  have vO : (a1 != 1) = false := bne_eq_false_iff_eq.mpr c3
  clear c3
  obtain rfl := Option.some.inj H
  go_enter Try.func87, Try.ntmps87
  go_wp2_with (((with_reducible refine aC (N := 2) rfl ?_); refine aQ ?hg (N := 2) ?hd (cs := #[.int .i64 aA, .int .i64 aJ, .int .i64 aH, .int .i64 aI]) (t := 23) ?hr ?_; (case hd => rfl); (case hg => rfl); (case hr => (go_simp; done)); intro xm hg w4 hbox hb; have nX := ae.mk (hbox); replace HB := ae.mk (az (by repeat ((with_reducible exact HB.out))) hb); clear hb hbox hg; have adT : w4.cell? ⟨xm, 0, none⟩ = some (.int .i64 aA) := (af nX.out 0).trans rfl; have adU : w4.cell? ⟨xm, 1, none⟩ = some (.int .i64 aJ) := (af nX.out 1).trans rfl; have adV : w4.cell? ⟨xm, 2, none⟩ = some (.int .i64 aH) := (af nX.out 2).trans rfl; have adW : w4.cell? ⟨xm, 3, none⟩ = some (.int .i64 aI) := (af nX.out 3).trans rfl; have aeb := ah nX.out 0; have aec := ah nX.out 1; have aed := ah nX.out 2; have aee := ah nX.out 3))
  go_ret
  exact ⟨by rfl, by repeat ((with_reducible exact HB.out))⟩
 ·rw [if_neg c3] at H
  have pq : (a1 == 1) = false := beq_eq_false_iff_ne.mpr c3
  have vO : (a1 != 1) = true := bne_iff_ne.mpr c3
  by_cases c6 : a1 = 2
  ·rw [if_pos c6] at H
   have vP : (a1 == 2) = true := beq_iff_eq.mpr c6
   have V6 : (a1 != 2) = false := bne_eq_false_iff_eq.mpr c6
   clear c6
   obtain rfl := Option.some.inj H
   go_enter Try.func87, Try.ntmps87
   go_wp2_with (((with_reducible refine aC (N := 2) rfl ?_); refine aQ ?hg (N := 2) ?hd (cs := #[.int .i64 aA, .int .i64 aJ, .int .i64 aH, .int .i64 aI]) (t := 23) ?hr ?_; (case hd => rfl); (case hg => rfl); (case hr => (go_simp; done)); intro xm hg w7 hbox hb; have nX := ae.mk (hbox); replace HB := ae.mk (az (by repeat ((with_reducible exact HB.out))) hb); clear hb hbox hg; have TN : w7.cell? ⟨xm, 0, none⟩ = some (.int .i64 aA) := (af nX.out 0).trans rfl; have TP : w7.cell? ⟨xm, 1, none⟩ = some (.int .i64 aJ) := (af nX.out 1).trans rfl; have TQ : w7.cell? ⟨xm, 2, none⟩ = some (.int .i64 aH) := (af nX.out 2).trans rfl; have TR : w7.cell? ⟨xm, 3, none⟩ = some (.int .i64 aI) := (af nX.out 3).trans rfl; have Ug := ah nX.out 0; have Uh := ah nX.out 1; have Ui := ah nX.out 2; have Uj := ah nX.out 3))
   go_ret
   exact ⟨by rfl, by repeat ((with_reducible exact HB.out))⟩
  ·rw [if_neg c6] at H
   have vP : (a1 == 2) = false := beq_eq_false_iff_ne.mpr c6
   have V6 : (a1 != 2) = true := bne_iff_ne.mpr c6
   obtain rfl := Option.some.inj H
   go_enter Try.func87, Try.ntmps87
   go_wp2_with (((with_reducible refine aC (N := 2) rfl ?_); refine aQ ?hg (N := 2) ?hd (cs := #[.int .i64 aA, .int .i64 aJ, .int .i64 aH, .int .i64 aI]) (t := 23) ?hr ?_; (case hd => rfl); (case hg => rfl); (case hr => (go_simp; done)); intro xm hg w9 hbox hb; have nX := ae.mk (hbox); replace HB := ae.mk (az (by repeat ((with_reducible exact HB.out))) hb); clear hb hbox hg))
   go_ret
   exact ⟨by rfl, by repeat ((with_reducible exact HB.out))⟩
end Go.Proofs.Ytfdmfgaiblfbhaa.P
namespace Go.Proofs.Ytfdmfgaiblfbhaa.P
open Go.RowKit Go.Proofs.ag.aW Go.Proofs.ag.dA Go.Proofs.ag.dU
theorem Ev.unique {α : Type} {g : Nat → Option α} {a b : α} (h : Ev g a) (k : Ev g b) : a = b := by
 obtain ⟨n, hn⟩ := h
 obtain ⟨m, hm⟩ := k
 have e := (hn (max n m) (by omega)).symm.trans (hm (max n m) (by omega))
 exact Option.some.inj e
theorem Rj (r : dW) (ax : Int) : qm.f r.f0 r.f1 r.f2 r.f3 ax = some (bM ax r) := by
 unfold qm.f bM
 split
 ·rfl
 ·split <;> rfl
theorem Fq (c : ai) (hz : sz c ≤ 1048576) : lL.f ([(⟨c.f0, (⟨c.f1.f0, c.f1.f1, c.f1.f2, c.f1.f3⟩ : dW), c.f2, c.f3⟩ : ai)] : List ai) = some (eP c) := by
 rw [EM]
 unfold lL.f
 rw [if_pos (by simp [hz])]
 simp
theorem xI {c : ai} (h : lZ c = true) : (iH c).all qi = true := by
 unfold lZ at h
 simp only [Bool.and_eq_true] at h
 exact h.2.1
theorem qA {c : ai} (h : eP c = true) : lZ c = true := by
 unfold eP at h
 simp only [Bool.and_eq_true] at h
 exact h.1
noncomputable def fD (ax : Int) (c : ai) : Int := if (ax = 1 ∨ ax = 2) ∧ eP c = true then wrap64 (bM ax c.f1 - dX ax c) else 0
theorem WI (c : ai) (hz : sz c ≤ 1048576) (ax : Int) : Ev (fun k => dH.f k c.f0 c.f1.f0 c.f1.f1 c.f1.f2 c.f1.f3 c.f2 c.f3 ax) (fD ax c) := by
 have no : Ev (fun k => dH.j0 k ax true c.f0 c.f1.f0 c.f1.f1 c.f1.f2 c.f1.f3 c.f2 c.f3) 0 := by
  refine Ev.step (f := fun _ => some 0) (fun k => ?_) (Ev.now _)
  simp only [dH.j0]
  rw [if_pos trivial]
 unfold fD
 by_cases hax : ax = 1 ∨ ax = 2
 ·have ha : kX.f ax = some true := by
   unfold kX.f
   rcases hax with rfl | rfl <;> rfl
  cases ht : eP c with
  | false =>
   rw [if_neg (by simp)]
   refine Ev.congr (f := fun k => dH.j0 k ax true c.f0 c.f1.f0 c.f1.f1 c.f1.f2 c.f1.f3 c.f2 c.f3) (fun k => ?_) no
   unfold dH.f
   rw [ha]
   simp only [Option.bind_some, if_true]
   rw [Fq c hz, ht]
   rfl
  | true =>
   rw [if_pos ⟨hax, rfl⟩]
   refine Ev.congr (f := fun k => dH.j0 k ax false c.f0 c.f1.f0 c.f1.f1 c.f1.f2 c.f1.f3 c.f2 c.f3) (fun k => ?_) (Ev.step (f := fun k => (lF.f k c.f0 c.f1.f0 c.f1.f1 c.f1.f2 c.f1.f3 c.f2 c.f3 ax).bind fun t => some (wrap64 (bM ax c.f1 - t))) (fun k => ?_) (Ev.bind (Xc ax (sz c) c (Nat.le_refl _) hz) (Ev.now _)))
   ·unfold dH.f
    rw [ha]
    simp only [Option.bind_some, if_true]
    rw [Fq c hz, ht]
    rfl
   ·simp only [dH.j0]
    rw [if_neg (by simp), J8 c.f1 ax]
    rfl
 ·rw [if_neg (fun h => hax h.1)]
  refine Ev.congr (f := fun k => dH.j0 k ax true c.f0 c.f1.f0 c.f1.f1 c.f1.f2 c.f1.f3 c.f2 c.f3) (fun k => ?_) no
  unfold dH.f kX.f
  rw [if_neg (fun h => hax (.inl h)), show (ax == 2) = false from by simp; exact fun h => hax (.inr h)]
  simp only [Option.bind_some, Bool.false_eq_true, if_false]
theorem vw {l : List ai} {k : ai} (h : k ∈ l) : sz k ≤ gy l := by
 obtain ⟨p, q, e⟩ := List.append_of_mem h
 rw [e, nJ, eG]; omega
noncomputable def qw (b : Int) (gs : List Int) : List Int × Bool := by
 classical
 exact if h : ∃ r, Ev (fun k => aY.f k b gs) r then Classical.choose h else ([], false)
theorem zF (b : Int) (gs : List Int) (hl : gs.length ≤ 100000) (h0 : -2147483647 ≤ b) (h1 : b ≤ 2147483647) : BK b gs (qw b gs) ∧ Ev (fun k => aY.f k b gs) (qw b gs) := by
 obtain ⟨r, hs, he⟩ := J7 b gs hl h0 h1
 have hx : ∃ r, Ev (fun k => aY.f k b gs) r := ⟨r, he⟩
 have e : qw b gs = r := by
  unfold qw
  rw [dif_pos hx]
  exact Ev.unique (Classical.choose_spec hx) he
 rw [e]
 exact ⟨hs, he⟩
theorem P5 {b : Int} {gs : List Int} (hl : gs.length ≤ 100000) (h0 : -2147483647 ≤ b) (h1 : b ≤ 2147483647) (h : (qw b gs).2 = true) : (qw b gs).1.length = gs.length := by
 rcases (zF b gs hl h0 h1).1 with ⟨e, _⟩ | ⟨e, _⟩ | ⟨qs, e, _, _, hq, _⟩
 ·rw [e] at h; cases h
 ·rw [e]; exact mJ _ _
 ·rw [e, ← hq]; simp
theorem Vj {b : Int} {gs : List Int} (hl : gs.length ≤ 100000) (h0 : -2147483647 ≤ b) (h1 : b ≤ 2147483647) : ∀ x, x ∈ (qw b gs).1 → -2147483647 ≤ x ∧ x ≤ 2147483647 := by
 intro x hx
 rcases (zF b gs hl h0 h1).1 with ⟨e, _⟩ | ⟨e, hne, _, hb⟩ | ⟨qs, e, _, _, hq, hg, _⟩
 ·rw [e] at hx; cases hx
 ·rw [e] at hx
  simp only [moreL, List.mem_map, List.mem_range] at hx
  obtain ⟨i, hi, rfl⟩ := hx
  have hn : (0 : Int) < (gs.length : Int) := by have := List.length_pos_iff.2 hne; omega
  unfold kU
  have hd : 0 ≤ b / (gs.length : Int) := Int.ediv_nonneg hb (by omega)
  have hm : 0 ≤ b % (gs.length : Int) := Int.emod_nonneg _ (by omega)
  have hdm := Int.mul_ediv_add_emod b (gs.length : Int)
  have hle : b / (gs.length : Int) ≤ (gs.length : Int) * (b / (gs.length : Int)) := by
   have := Int.mul_le_mul_of_nonneg_right (show (1 : Int) ≤ (gs.length : Int) by omega) hd
   omega
  split <;> omega
 ·rw [e] at hx
  simp only [List.mem_map] at hx
  obtain ⟨p, hp, rfl⟩ := hx
  have := hg p hp
  omega
def grow (ax bz : Int) (r : dW) : dW := ⟨r.f0, r.f1, if ax = 1 then wrap64 (r.f2 + bz) else r.f2, if ax = 1 then r.f3 else wrap64 (r.f3 + bz)⟩
noncomputable def PN (ax k : Int) (l : List ai) (bz : Int) (i : Nat) : Int := if (qw bz (l.map (fD ax))).2 = true ∧ jC ax k = true then rd (qw bz (l.map (fD ax))).1 (i : Int) else bz
mutual
noncomputable def dV (ax : Int) : ai → Int → ai
 | ⟨k, r, id, l⟩, b => ⟨k, grow ax b r, id, jZ ax l (PN ax k l b) 0⟩
noncomputable def jZ (ax : Int) : List ai → (Nat → Int) → Nat → List ai
 | [], _, _ => []
 | k :: ks, ns, i => dV ax k (ns i) :: jZ ax ks ns (i + 1)
end
theorem Iu (ax : Int) (c : ai) (b : Int) : dV ax c b = ⟨c.f0, grow ax b c.f1, c.f2, jZ ax c.f3 (PN ax c.f0 c.f3 b) 0⟩ := by cases c; simp [dV]
theorem wR (ax : Int) (ns : Nat → Int) (i : Nat) : jZ ax [] ns i = [] := by simp [jZ]
theorem zO (ax : Int) (k : ai) (ks : List ai) (ns : Nat → Int) (i : Nat) : jZ ax (k :: ks) ns i = dV ax k (ns i) :: jZ ax ks ns (i + 1) := by simp [jZ]
theorem wQ (ax : Int) : ∀ (l : List ai) (ns : Nat → Int) (i : Nat), (jZ ax l ns i).length = l.length := by
 intro l
 induction l with
 | nil => intro ns i; rw [wR]
 | cons k ks ih => intro ns i; rw [zO, List.length_cons, List.length_cons, ih]
theorem JI (ax : Int) (k : ai) : ∀ (l : List ai) (ns : Nat → Int) (i : Nat), jZ ax (l ++ [k]) ns i = jZ ax l ns i ++ [dV ax k (ns (i + l.length))] := by
 intro l
 induction l with
 | nil => intro ns i; simp [jZ]
 | cons x xs ih => intro ns i; rw [List.cons_append, zO, zO, ih, List.cons_append, List.length_cons, show i + 1 + xs.length = i + (xs.length + 1) by omega]
theorem Ze (ax : Int) (ns : Nat → Int) (pre : List ai) (k : ai) (rest : List ai) : (jZ ax pre ns 0 ++ k :: rest).set pre.length (dV ax k (ns pre.length)) = jZ ax (pre ++ [k]) ns 0 ++ rest := by
 rw [JI, List.append_assoc, List.set_append_right _ _ (by rw [wQ]; exact Nat.le_refl _), wQ, Nat.sub_self, List.set_cons_zero, Nat.zero_add]
 rfl
theorem acD (ax : Int) (ns : Nat → Int) (pre : List ai) (k : ai) (rest : List ai) : aG (jZ ax pre ns 0 ++ k :: rest) (pre.length : Int) = k := by
 have := jF (jZ ax pre ns 0) k rest
 rw [wQ] at this
 exact this
theorem LZ (ax : Int) : ∀ (N : Nat), (∀ c : ai, sz c ≤ N → ∀ b, sz (dV ax c b) = sz c) ∧ (∀ l : List ai, gy l ≤ N → ∀ ns i, gy (jZ ax l ns i) = gy l) := by
 intro N
 induction N with
 | zero => exact ⟨fun c h => by rw [dL] at h; omega, fun l h ns i => by cases l with
  | nil => rw [wR]
  | cons x xs => rw [eG] at h; have := dL x; omega⟩
 | succ N ih =>
  have hC : ∀ c : ai, sz c ≤ N + 1 → ∀ b, sz (dV ax c b) = sz c := fun c h b => by
   rw [Iu, dL, dL c]
   show 1 + gy (jZ ax c.f3 _ 0) = _
   rw [ih.2 c.f3 (by rw [dL] at h; omega)]
  refine ⟨hC, fun l => ?_⟩
  induction l with
  | nil => intro _ ns i; rw [wR]
  | cons x xs ihl =>
   intro h ns i
   rw [zO, eG, eG]
   rw [eG] at h
   rw [hC x (by omega), ihl (by omega)]
def pY.f (l0 : List (ai)) : Option (List ai) := if l0.length ≤ 1000000 then some l0 else none
theorem pY.calls (SB : Nat → Prop) (A0 : Option Addr) (c0 : Nat) (l0 : List (ai)) (r : List ai) (w : World) (hs0 : Kd.V k26 26 w w.heap.size (fun k_ => SB k_) (.slice A0 l0.length c0) l0) (h : pY.f l0 = some r) :
  Calls Try.prog 137 #[.slice A0 l0.length c0] w fun e w' => ∃ o_ : Value, e = .returned (o_) ∧ Kd.N k26 26 w' w.heap.size (fun k_ => (SB k_ ∨ w.heap.size ≤ k_)) o_ r ∧ Below w.heap.size w w' := by
 unfold pY.f at h
 split at h
 ·rename_i hl
  injection h with h
  subst h
  have HR := ae.mk (Kd.OT hs0)
  have HL := ae.mk hl
  clear hl
  cases A0 with
  | none =>
   have heq : ∀ W : World, (binOp .eql 24 (.slice none l0.length c0) (.slice none 0 0)).run Try.prog W = .ok (.bool true) W := fun W => Lib.run_eql_slice_nil W 24 26 none l0.length c0 0 0 Try.underlying24
   have e0 : l0 = [] := by
    cases l0 with
    | nil => rfl
    | cons x xs =>
     obtain ⟨ad, h1, _⟩ := (Kd.Gx HR.out).2.2 (by simp)
     cases h1
   have E0 := ae.mk e0
   clear hs0 e0
   go_enter Try.func137, Try.ntmps137
   go_wp2
   go_ret
   exact ⟨_, rfl, by rw [E0.out]; exact Kd.kN _ _ _ _ _, Below.refl _ _⟩
  | some ad =>
   have heq : ∀ W : World, (binOp .eql 24 (.slice (some ad) l0.length c0) (.slice none 0 0)).run Try.prog W = .ok (.bool false) W := fun W => Lib.run_eql_slice_nil W 24 26 (some ad) l0.length c0 0 0 Try.underlying24
   clear hs0
   go_enter Try.func137, Try.ntmps137
   go_wp2_with (first | ((with_reducible refine aC (N := 5) rfl ?_); refine Kd.yF k26 w.heap.size 26 ?hg (N' := 5) ?hd (xs := ([] : List ai)) (inner := []) (ok := fun k_ => (SB k_ ∨ w.heap.size ≤ k_)) (gm := fun _ => False) ?hr ?hp (fun _ hk => hk.elim) (.inr (Nat.le_refl _)) (Below.refl _ _) (Nat.le_refl _) (by simp) ?_; (case hd => rfl); (case hg => rfl); (case hr => first | (go_simp; done) | (go_simp; rfl)); (case hp => exact bT.none _ _); intro v5 w5 ho hb lh iG; clear lh; have HO := ae.mk ho; have HB := ae.mk hb; have HF := ae.mk (Kd.qN (Kd.KU (v := v5) HR.out (fun k hk => by obtain ⟨b, h1, h2⟩ := iG; rw [h1] at hk; cases hk; exact h2) hb) (fun k hk => hk)); clear ho hb iG; obtain ⟨Ao, co, eo⟩ := Kd.jE HO.out; subst eo) | ((with_reducible refine qc (b := .append) (xs := #[.tmp 5, .tmp 6]) rfl ?_); at_builtin; refine Kd.yj k26 (w0 := w) w.heap.size rfl (.tmp 5) (.tmp 6) 24 26 (.agg #[(.int .u8 0), (.int .i64 0), (.int .i64 0), (.int .i64 0), (.int .i64 0), (.int .i64 0), (.slice none 0 0)]) 72 rfl Try.underlying24 info26 rfl (by decide) (by omega) (.slice Ao ([] : List ai).length co) [] l0 _ _ _ (fun k_ => (SB k_ ∨ w.heap.size ≤ k_)) (fun k_ => SB k_ ∧ some k_ ≠ (Value.slice Ao ([] : List ai).length co).ownBlock) rfl rfl ?aO ?aR (fun _ h => ⟨.inl h.1, h.2⟩) (fun k hk => .inr (Nat.le_trans (cO HB.out) hk)) ?aB ?aS ?aL ?_; (case aO => exact HO.out); (case aR => exact HF.out); (case aB => exact HB.out); (case aS => exact cO HB.out); (case aL => (have := HL.out; simp only [List.length_nil]; omega)); intro v7 w7 h1 h2 h3_ h4_; clear h3_ h4_; have HO7 := ae.mk h1; have HB7 := ae.mk h2; clear h1 h2 HO HB HF))
   go_wp2
   go_ret
   exact ⟨_, rfl, HO7.out, HB7.out⟩
 ·exact absurd h (by simp)
def zC (a : Int) (k : ai) (x : Int) : Int := if a = 2 then wrap64 (x + wrap64 (k.f1.f2 + 1)) else x
def zD (a : Int) (k : ai) (y : Int) : Int := if a = 2 then y else if a = 3 then wrap64 (y + wrap64 (k.f1.f3 + 1)) else y
mutual
def aX : ai → Int → Int → ai
 | ⟨a, b, d, l⟩, x, y => ⟨a, ⟨x, y, b.f2, b.f3⟩, d, l_ a l x y⟩
def l_ : Int → List ai → Int → Int → List ai
 | _, [], _, _ => []
 | a, k :: ks, x, y => aX k x y :: l_ a ks (zC a k x) (zD a k y)
end
theorem yR (c : ai) (x y : Int) : aX c x y = ⟨c.f0, ⟨x, y, c.f1.f2, c.f1.f3⟩, c.f2, l_ c.f0 c.f3 x y⟩ := by cases c; simp [aX]
theorem uM (a x y : Int) : l_ a [] x y = [] := by simp [l_]
theorem xP (a : Int) (k : ai) (ks : List ai) (x y : Int) : l_ a (k :: ks) x y = aX k x y :: l_ a ks (zC a k x) (zD a k y) := by simp [l_]
def nD (a : Int) (l : List ai) (x : Int) : Int := l.foldl (fun x k => zC a k x) x
def nG (a : Int) (l : List ai) (y : Int) : Int := l.foldl (fun y k => zD a k y) y
theorem Aj (a : Int) (k : ai) : ∀ (l : List ai) (x y : Int), l_ a (l ++ [k]) x y = l_ a l x y ++ [aX k (nD a l x) (nG a l y)] := by
 intro l
 induction l with
 | nil => intro x y; rw [List.nil_append, xP, uM, uM]; rfl
 | cons z zs ih => intro x y; rw [List.cons_append, xP, xP, ih]; rfl
theorem sU (a : Int) (k : ai) (l : List ai) (x : Int) : nD a (l ++ [k]) x = zC a k (nD a l x) := by simp [nD]
theorem sV (a : Int) (k : ai) (l : List ai) (y : Int) : nG a (l ++ [k]) y = zD a k (nG a l y) := by simp [nG]
theorem qL (a : Int) : ∀ (l : List ai) (x y : Int), (l_ a l x y).length = l.length := by
 intro l
 induction l with
 | nil => intro x y; rw [uM]
 | cons z zs ih => intro x y; rw [xP]; simp [ih]
theorem abk (a : Int) (pre : List ai) (k : ai) (rest : List ai) (x y : Int) : (l_ a pre x y ++ k :: rest).set pre.length (aX k (nD a pre x) (nG a pre y)) = l_ a (pre ++ [k]) x y ++ rest := by
 rw [Aj, ← qL a pre x y, List.set_append_right _ _ (Nat.le_refl _), Nat.sub_self, List.set_cons_zero]
 simp
theorem Vh (a : Int) (pre : List ai) (k : ai) (rest : List ai) (x y : Int) : aG (l_ a pre x y ++ k :: rest) (pre.length : Int) = k := by
 rw [← qL a pre x y]
 simp [aG, List.getD_eq_getElem?_getD]
def m_.T6 : Bool × List (List Nat × List Nat) := (true, [([], []), ([0], [0]), ([], []), ([], []), ([], []), ([], []), ([3, 4, 5], [3, 4, 5]), ([1, 2, 0, 1, 2, 3, 4, 5, 6], [1, 2]), ([7, 6, 6, 0, 1, 2, 3, 4, 5, 6], [6, 7])])
def m_.B6 : List Nat := [0, 1, 0, 0, 0, 0, 56, 127, 255]
theorem m_.tab6 : iY .any (opsOf Try.f66 6) = m_.T6 := by kernel_rfl
theorem m_.yH : iI m_.T6.2 m_.B6 = true := by kernel_rfl
def alv (c : ai) (v : Value) : Array Value := #[.int .u8 c.f0, .int .i64 c.f1.f0, .int .i64 c.f1.f1, .int .i64 c.f1.f2, .int .i64 c.f1.f3, .int .i64 c.f2, v]
theorem agq : ∀ (N : Nat) (c : ai), sz c ≤ N → N ≤ 1000000 → ∀ (P : Nat → Prop) (A : Option Addr) (cc : Nat) (x y : Int) (w : World), Kd.V k26 26 w w.heap.size P (.slice A c.f3.length cc) c.f3 →
  Calls Try.prog 66 #[.agg #[.int .u8 c.f0, .int .i64 c.f1.f0, .int .i64 c.f1.f1, .int .i64 c.f1.f2, .int .i64 c.f1.f3, .int .i64 c.f2, .slice A c.f3.length cc], .int .i64 x, .int .i64 y] w
   fun e w' => ∃ v : Value, e = .returned (.agg #[.int .u8 c.f0, .int .i64 x, .int .i64 y, .int .i64 c.f1.f2, .int .i64 c.f1.f3, .int .i64 c.f2, v]) ∧ Kd.N k26 26 w' w.heap.size (fun k => P k ∨ w.heap.size ≤ k) v (l_ c.f0 c.f3 x y) ∧ Below w.heap.size w w' := by
 intro N
 induction N with
 | zero => intro c h; rw [dL] at h; omega
 | succ N ih =>
  intro c hc hN P A cc x y w hs
  have hsz := dL c
  have hlen := jR c.f3
  have IH := ae.mk fun (k : ai) (hk : k ∈ c.f3) => ih k (by
   have : sz k ≤ gy c.f3 := by
    obtain ⟨p, q, e⟩ := List.append_of_mem hk
    rw [e, nJ, eG]; omega
   omega) (by omega)
  have KX := ae.mk fun (W : World) (P' : Nat → Prop) (hV : Kd.V k26 26 W w.heap.size P' (.slice A c.f3.length cc) c.f3) => pY.calls P' A cc c.f3 c.f3 W hV (if_pos (by omega))
  have HO := ae.mk hs
  have HL := ae.mk (show c.f3.length ≤ 1000000 by omega)
  have HB := ae.mk (Below.refl w.heap.size w)
  clear ih hs hc hN hsz hlen
  obtain ⟨ck, ⟨cx, cy, cw, ch⟩, ay, l⟩ := c
  simp only [] at HO HL IH KX ⊢
  go_enter Try.func66, Try.ntmps66
  go_upto_region 2 with (first | ((with_reducible refine aC (N := 3) rfl ?_); refine aQ ?hg (N := 3) ?hd (cs := #[.int .u8 ck, .int .i64 cx, .int .i64 cy, .int .i64 cw, .int .i64 ch, .int .i64 ay, .slice A l.length cc]) (t := 26) ?hr ?_; (case hd => rfl); (case hg => rfl); (case hr => (go_simp; done)); intro b3 hg Vy hbox hb; have RP := ae.mk (show w.heap.size ≤ b3 by rw [hg]; exact HB.out.size); have lH := ae.mk (az HB.out hb); have sD := ae.mk (Kd.jQ (Kd.nO HO.out b3 (by rw [hg]; exact Nat.le_refl _)) hb); clear HB HO; have HB := lH; have HO := sD; clear lH sD; have dI := ae.mk hbox; clear hb hbox hg) | ((with_reducible refine aC (N := 6) rfl ?_); refine aQ ?hg (N := 6) ?hd (cs := #[.int .u8 0, .int .i64 0, .int .i64 0, .int .i64 0, .int .i64 0, .int .i64 0, .slice none 0 0]) (t := 26) ?hr ?_; (case hd => rfl); (case hg => rfl); (case hr => (go_simp; done)); intro b6 hg wb6 hbox hb; have Gb6 := ae.mk (show w.heap.size ≤ b6 by rw [hg]; exact HB.out.size); have uH := ae.mk (show b3 ≠ b6 by rw [hg]; exact Nat.ne_of_lt (gu dI.out)); have lH := ae.mk (az HB.out hb); have sD := ae.mk (Kd.jQ (Kd.nO HO.out b6 (by rw [hg]; exact Nat.le_refl _)) hb); have jb := ae.mk (aV dI.out hb); clear HB HO dI; have HB := lH; have HO := sD; have dI := jb; clear lH sD jb; have g_ := ae.mk hbox; clear hb hbox hg) | ((with_reducible refine lG (.store 3 (.tmp 12) (.tmp 9)) rfl ?_); go_loud (refine iF (w0 := w) rfl rfl 3 (.tmp 12) (.tmp 9) rfl (g := b3) (j := 1) (base := w.heap.size) #[.int .u8 ck, .int .i64 x, .int .i64 cy, .int .i64 cw, .int .i64 ch, .int .i64 ay, .slice A l.length cc] (u := .int .i64 x) (bP := [.int .i64 x]) ?sA ?sX rfl ?sT ?s1 dI.out ?sJ rfl HB.out HB.out.size RP.out ?_; (case sA => rfl); (case sX => rfl); (case sT => rfl); (case s1 => (simp [Value.oneCell'])); (case sJ => (simp)); intro ws1 hbk hbb hgg; have sD := ae.mk (Kd.uT HO.out hgg (fun k_ hk e_ => absurd (Option.some.inj e_) hk.1.2)); have jc := ae.mk (dJ g_.out hgg (fun e_ => absurd (Option.some.inj e_) (by exact (fun Bh => uH.out Bh.symm)))); clear HO g_; have HO := sD; have g_ := jc; clear sD jc; clear dI HB; have dI := ae.mk hbk; have HB := ae.mk hbb; clear hbk hbb hgg)) | ((with_reducible refine lG (.store 3 (.tmp 14) (.tmp 10)) rfl ?_); go_loud (refine iF (w0 := w) rfl rfl 3 (.tmp 14) (.tmp 10) rfl (g := b3) (j := 2) (base := w.heap.size) #[.int .u8 ck, .int .i64 x, .int .i64 y, .int .i64 cw, .int .i64 ch, .int .i64 ay, .slice A l.length cc] (u := .int .i64 y) (bP := [.int .i64 y]) ?sA ?sX rfl ?sT ?s1 dI.out ?sJ rfl HB.out HB.out.size RP.out ?_; (case sA => rfl); (case sX => rfl); (case sT => rfl); (case s1 => (simp [Value.oneCell'])); (case sJ => (simp)); intro ws2 hbk hbb hgg; have sD := ae.mk (Kd.uT HO.out hgg (fun k_ hk e_ => absurd (Option.some.inj e_) hk.1.2)); have jc := ae.mk (dJ g_.out hgg (fun e_ => absurd (Option.some.inj e_) (by exact (fun Bh => uH.out Bh.symm)))); clear HO g_; have HO := sD; have g_ := jc; clear sD jc; clear dI HB; have dI := ae.mk hbk; have HB := ae.mk hbb; clear hbk hbb hgg)))
  have Ha : _ = some (Value.slice A l.length cc) := (af dI.out 6).trans rfl
  go_upto_region 3 with (first | ((with_reducible refine gW (f := 137) rfl ?_); refine jL (some 17) rfl rfl Try.func137 (by kernel_rfl) rfl #[.slice A l.length cc] rfl (by (try simp only [List.map_toArray, List.map_cons, List.map_nil]); rfl) ?_; refine (KX.out _ _ HO.out).mono ?_; rintro e wc1 ⟨v1, rfl, ho, hb⟩; refine ⟨_, rfl, ?_⟩; have HN := ae.mk (Lu ho (gu dI.out) (gu g_.out) HB.out.size); clear ho HO; obtain ⟨A1, c1, e1⟩ := Kd.jE HN.out; subst e1; have lH := ae.mk (az HB.out hb); have jb := ae.mk (aV dI.out hb); have jc := ae.mk (aV g_.out hb); clear HB dI g_; have HB := lH; have dI := jb; have g_ := jc; clear lH jb jc; clear hb) | ((with_reducible refine lG (.store 24 (.tmp 18) (.tmp 17)) rfl ?_); go_loud (refine iF (w0 := w) rfl rfl 24 (.tmp 18) (.tmp 17) rfl (g := b3) (j := 6) (base := w.heap.size) #[.int .u8 ck, .int .i64 x, .int .i64 y, .int .i64 cw, .int .i64 ch, .int .i64 ay, .slice A1 l.length c1] (u := .slice A1 l.length c1) (bP := [.slice A1 l.length c1]) ?sA ?sX rfl ?sT ?s1 dI.out ?sJ rfl HB.out HB.out.size RP.out ?_; (case sA => rfl); (case sX => rfl); (case sT => rfl); (case s1 => (simp [Value.oneCell'])); (case sJ => (simp)); intro ws3 hbk hbb hgg; have jc := ae.mk (dJ g_.out hgg (fun e_ => absurd (Option.some.inj e_) (by exact (fun Bh => uH.out Bh.symm)))); have lI := ae.mk (Kd.uS HN.out hgg (fun k_ hk e_ => absurd (Option.some.inj e_) hk.1.2)); clear g_ HN; have g_ := jc; have HN := lI; clear jc lI; clear dI HB; have dI := ae.mk hbk; have HB := ae.mk hbb; clear hbk hbb hgg)))
  clear Ha
  have Ha : _ = some (Value.slice A1 l.length c1) := (af dI.out 6).trans rfl
  go_wp2
  clear Ha
  go_loopg [1, 2, 22] l.length (fun gg v1 v2 v22 wr => ∃ (pre rest : List ai), v1 = .int .i64 (nD ck pre x) ∧ v2 = .int .i64 (nG ck pre y) ∧ v22 = .int .i64 (pre.length : Int) ∧ ae (pre ++ rest = l) ∧ rest.length ≤ gg ∧ ae (Kd.N k26 26 wr w.heap.size (fun q => ((P q ∨ w.heap.size ≤ q) ∧ q ≠ b3) ∧ q ≠ b6) (.slice A1 l.length c1) (l_ ck pre x y ++ rest)) ∧ ae (wr.heap[b3]? = some (.cells #[.int .u8 ck, .int .i64 x, .int .i64 y, .int .i64 cw, .int .i64 ch, .int .i64 ay, .slice A1 l.length c1] 26 (0, 0))) ∧ ae (wr.heap[b6]? = some (.cells #[.int .u8 0, .int .i64 0, .int .i64 0, .int .i64 0, .int .i64 0, .int .i64 0, .slice none 0 0] 26 (0, 0))) ∧ ae (Below w.heap.size w wr))
  case atStart => exact ⟨[], l, rfl, rfl, rfl, ⟨rfl⟩, Nat.le_refl _, ⟨by rw [uM]; exact HN.out⟩, dI, g_, HB⟩
  case round =>
   clear HN dI g_ HB
   obtain ⟨pre, rest, rfl, rfl, rfl, HE, hgg, HN, dI, g_, HB⟩ := hrel
   cases rest with
   | nil =>
    have hpl : pre = l := by have := HE.out; rwa [List.append_nil] at this
    have hlt : ¬ ((pre.length : Int) < (l.length : Int)) := by rw [hpl]; omega
    have HP := ae.mk hpl
    clear hpl hgg
    have c30 := (af dI.out 0).trans rfl
    have c31 := (af dI.out 1).trans rfl
    have c32 := (af dI.out 2).trans rfl
    have c33 := (af dI.out 3).trans rfl
    have c34 := (af dI.out 4).trans rfl
    have c35 := (af dI.out 5).trans rfl
    have Ha := (af dI.out 6).trans rfl
    go_wp2_with (((with_reducible refine lG (.store 26 (.tmp 6) (.tmp 54)) rfl ?_); go_loud (refine iF (w0 := w) rfl rfl 26 (.tmp 6) (.tmp 54) rfl (g := b6) (j := 0) (base := w.heap.size) #[.int .u8 ck, .int .i64 x, .int .i64 y, .int .i64 cw, .int .i64 ch, .int .i64 ay, .slice A1 l.length c1] (u := .agg #[.int .u8 ck, .int .i64 x, .int .i64 y, .int .i64 cw, .int .i64 ch, .int .i64 ay, .slice A1 l.length c1]) (bP := [.int .u8 ck, .int .i64 x, .int .i64 y, .int .i64 cw, .int .i64 ch, .int .i64 ay, .slice A1 l.length c1]) ?sA ?sX rfl ?sT ?s1 g_.out ?sJ rfl HB.out HB.out.size Gb6.out ?_; (case sA => rfl); (case sX => rfl); (case sT => rfl); (case s1 => (simp [Value.oneCell'])); (case sJ => (simp)); intro ahX hbk hbb hgg; have lI := ae.mk (Kd.uS HN.out hgg (fun k_ hk e_ => absurd (Option.some.inj e_) hk.2)); have jb := ae.mk (dJ dI.out hgg (fun e_ => absurd (Option.some.inj e_) uH.out)); clear HN dI; have HN := lI; have dI := jb; clear lI jb; clear g_ HB; have g_ := ae.mk hbk; have HB := ae.mk hbb; clear hbk hbb hgg)))
    refine bodyPost_ret (results_cell_row rfl _ _ b6 26 #[.int .u8 ck, .int .i64 x, .int .i64 y, .int .i64 cw, .int .i64 ch, .int .i64 ay, .slice A1 l.length c1] (0, 0) _ rfl g_.out Try.underlying26 rfl (by kernel_rfl)) rfl ?_
    refine ⟨_, rfl, ?_, HB.out⟩
    rw [← HP.out]
    have hf := HN.out
    rw [List.append_nil] at hf
    rw [HP.out] at hf ⊢
    exact Kd.jg hf (fun q hq => hq.1.1)
   | cons k rest =>
    have hk : k ∈ l := by rw [← HE.out]; simp
    have hlt : (pre.length : Int) < (l.length : Int) := by rw [← HE.out, List.length_append, List.length_cons]; omega
    have hw : wrap64 ((pre.length : Int) + 1) = ((pre ++ [k]).length : Int) := by rw [List.length_append, List.length_singleton]; unfold wrap64; have := HL.out; omega
    obtain ⟨g, cap, he, hgb, WU, _⟩ := Kd.yU HN.out (by rw [List.length_append, List.length_cons]; omega)
    injection he with ea en ec
    subst ea
    subst ec
    clear en
    have HGB := ae.mk hgb
    obtain ⟨ce, hcl, hM, hcc, hfr⟩ := Kd.xE HN.out z26 (pre.length : Int) (Int.natCast_nonneg _) hlt
    have hrd : (l_ ck pre x y ++ k :: rest).getD (pre.length : Int).toNat z26 = k := Vh ck pre k rest x y
    rw [hrd] at hM
    obtain ⟨ua, uc, rfl, ul, ge⟩ := nI hM
    have HV := ae.mk (show Kd.V k26 26 wr w.heap.size _ (.slice ua k.f3.length uc) k.f3 from Kd.uJ ul ge)
    have x0 : wr.cell? ⟨g, pre.length * 7, none⟩ = some (.int .u8 k.f0) := hcc 0 _ rfl
    have x1 : wr.cell? ⟨g, pre.length * 7 + 1, none⟩ = some (.int .i64 k.f1.f0) := hcc 1 _ rfl
    have x2 : wr.cell? ⟨g, pre.length * 7 + 2, none⟩ = some (.int .i64 k.f1.f1) := hcc 2 _ rfl
    have x3 : wr.cell? ⟨g, pre.length * 7 + 3, none⟩ = some (.int .i64 k.f1.f2) := hcc 3 _ rfl
    have x4 : wr.cell? ⟨g, pre.length * 7 + 4, none⟩ = some (.int .i64 k.f1.f3) := hcc 4 _ rfl
    have x5 : wr.cell? ⟨g, pre.length * 7 + 5, none⟩ = some (.int .i64 k.f2) := hcc 5 _ rfl
    have x6 : wr.cell? ⟨g, pre.length * 7 + 6, none⟩ = some (.slice ua k.f3.length uc) := hcc 6 _ rfl
    have HW1 := ae.mk hw
    have HK := ae.mk hk
    have jh := ae.mk hgg
    clear hcl hM hcc hfr hrd ul ge hgb WU hw hk hgg
    go_upto_region 6 with (first | ((with_reducible refine aC (N := 8) rfl ?_); refine aQ ?hg (N := 8) ?hd (cs := #[.int .u8 0, .int .i64 0, .int .i64 0, .int .i64 0, .int .i64 0, .int .i64 0, .slice none 0 0]) (t := 26) ?hr ?_; (case hd => rfl); (case hg => rfl); (case hr => (go_simp; done)); intro b8 hg wb8 hbox hb; have Gb8 := ae.mk (show w.heap.size ≤ b8 by rw [hg]; exact HB.out.size); have FM := ae.mk (show b3 ≠ b8 by rw [hg]; exact Nat.ne_of_lt (gu dI.out)); have FN := ae.mk (show b6 ≠ b8 by rw [hg]; exact Nat.ne_of_lt (gu g_.out)); have lH := ae.mk (az HB.out hb); have lI := ae.mk (Kd.pW (Kd.BJ HN.out b8 (by rw [hg]; exact Nat.le_refl _)) hb); have sF := ae.mk (Kd.jQ (Kd.nO HV.out b8 (by rw [hg]; exact Nat.le_refl _)) hb); have jb := ae.mk (aV dI.out hb); have jc := ae.mk (aV g_.out hb); clear HB HN HV dI g_; have HB := lH; have HN := lI; have HV := sF; have dI := jb; have g_ := jc; clear lH lI sF jb jc; have Kb8 := ae.mk hbox; clear hb hbox hg) | ((with_reducible refine lG (.store 26 (.tmp 8) (.tmp 26)) rfl ?_); go_loud (refine iF (w0 := w) rfl rfl 26 (.tmp 8) (.tmp 26) rfl (g := b8) (j := 0) (base := w.heap.size) #[.int .u8 k.f0, .int .i64 k.f1.f0, .int .i64 k.f1.f1, .int .i64 k.f1.f2, .int .i64 k.f1.f3, .int .i64 k.f2, .slice ua k.f3.length uc] (u := .agg #[.int .u8 k.f0, .int .i64 k.f1.f0, .int .i64 k.f1.f1, .int .i64 k.f1.f2, .int .i64 k.f1.f3, .int .i64 k.f2, .slice ua k.f3.length uc]) (bP := [.int .u8 k.f0, .int .i64 k.f1.f0, .int .i64 k.f1.f1, .int .i64 k.f1.f2, .int .i64 k.f1.f3, .int .i64 k.f2, .slice ua k.f3.length uc]) ?sA ?sX rfl ?sT ?s1 Kb8.out ?sJ rfl HB.out HB.out.size Gb8.out ?_; (case sA => rfl); (case sX => rfl); (case sT => rfl); (case s1 => (simp [Value.oneCell'])); (case sJ => (simp)); intro XZ hbk hbb hgg; have lI := ae.mk (Kd.uS HN.out hgg (fun k_ hk e_ => absurd (Option.some.inj e_) hk.2)); have sF := ae.mk (Kd.uT HV.out hgg (fun k_ hk e_ => absurd (Option.some.inj e_) hk.2)); have jb := ae.mk (dJ dI.out hgg (fun e_ => absurd (Option.some.inj e_) FM.out)); have jc := ae.mk (dJ g_.out hgg (fun e_ => absurd (Option.some.inj e_) FN.out)); clear HN HV dI g_; have HN := lI; have HV := sF; have dI := jb; have g_ := jc; clear lI sF jb jc; clear Kb8 HB; have Kb8 := ae.mk hbk; have HB := ae.mk hbb; clear hbk hbb hgg)))
    clear x0 x1 x2 x3 x4 x5 x6
    have q_ := ae.mk (uf HB.out)
    clear HB
    have HB := q_
    clear q_
    have q_ := ae.mk (Kd.Sv HN.out)
    clear HN
    have HN := q_
    clear q_
    have q_ := ae.mk (Kd.LH HV.out)
    clear HV
    have HV := q_
    clear q_
    have q_ := ae.mk (uK dI.out)
    clear dI
    have dI := q_
    clear q_
    have q_ := ae.mk (uK g_.out)
    clear g_
    have g_ := q_
    clear q_
    have q_ := ae.mk (uK Kb8.out)
    clear Kb8
    have Kb8 := q_
    clear q_
    refine iR (n := 9) (S := fun w' => w'.heap[b3]? = some (.cells #[.int .u8 ck, .int .i64 x, .int .i64 y, .int .i64 cw, .int .i64 ch, .int .i64 ay, .slice (some ⟨g, 0, none⟩) l.length c1] 26 (0, 0)) ∧ w'.heap[b8]? = some (.cells #[.int .u8 k.f0, .int .i64 k.f1.f0, .int .i64 k.f1.f1, .int .i64 k.f1.f2, .int .i64 k.f1.f3, .int .i64 k.f2, .slice ua k.f3.length uc] 26 (0, 0))) (ds := [8]) #[false, false, false, false, false, false, false, false, false] (by kernel_rfl) rfl rfl ⟨dI.out, Kb8.out⟩ (fun hHeld => ?_); refine fJ m_.tab6 m_.yH (fun ak dZ => ?_)
    generalize XZ.drew = wd at HB HN HV dI g_ Kb8 hHeld ⊢
    refine rE (i := 0) (N := some 27) (v := ?_) (a' := ?_) #[true, false, false, false, false, false, false, false, false] rfl rfl (oQ ak.out (by kernel_rfl)) (fun _ _ _ h => h) (Or.inl ⟨by rfl, ?_⟩) ?_ ?_
    rotate_left
    ·intro w'; go_simp; with_reducible rfl
    rotate_left
    ·simp only [Act.put, List.setIfInBounds_toArray, List.set_cons_zero, List.set_cons_succ, kT, kS]
     rfl
    refine rE (i := 2) (N := some 29) (v := ?_) (a' := ?_) #[true, false, true, false, false, false, false, false, false] rfl rfl (oQ ak.out (by kernel_rfl)) (fun _ _ _ h => h) (Or.inl ⟨by rfl, ?_⟩) ?_ ?_
    rotate_left
    ·intro w'; go_simp; with_reducible rfl
    rotate_left
    ·simp only [Act.put, List.setIfInBounds_toArray, List.set_cons_zero, List.set_cons_succ, kT, kS]
     rfl
    refine rE (i := 4) (N := some 31) (v := ?_) (a' := ?_) #[true, false, true, false, true, false, false, false, false] rfl rfl (oQ ak.out (by kernel_rfl)) (fun _ _ _ h => h) (Or.inl ⟨by rfl, ?_⟩) ?_ ?_
    rotate_left
    ·intro w'; go_simp; with_reducible rfl
    rotate_left
    ·simp only [Act.put, List.setIfInBounds_toArray, List.set_cons_zero, List.set_cons_succ, kT, kS]
     rfl
    refine rE (i := 5) (N := some 32) (v := ?_) (a' := ?_) #[true, false, true, false, true, true, false, false, false] rfl rfl (oQ ak.out (by kernel_rfl)) (fun _ _ _ h => h) (Or.inl ⟨by rfl, ?_⟩) ?_ ?_
    rotate_left
    ·intro w'; go_simp; with_reducible rfl
    rotate_left
    ·simp only [Act.put, List.setIfInBounds_toArray, List.set_cons_zero, List.set_cons_succ, kT, kS]
     rfl
    refine yO (i := 1) (N := some 28) (v := ?_) (a' := ?_) #[true, true, true, false, true, true, false, false, false] rfl rfl (uO ak.out dZ.out (by kernel_rfl)) (fun _ _ _ h => h) (Or.inl ⟨by rfl, ?_⟩) hHeld ?_ ?_
    rotate_left
    ·intro w' hs_
     have c := (af hs_.1 6).trans rfl
     go_simp; with_reducible rfl
    rotate_left
    ·simp only [Act.put, List.setIfInBounds_toArray, List.set_cons_zero, List.set_cons_succ, kT, kS]
     rfl
    refine yO (i := 3) (N := some 30) (v := ?_) (a' := ?_) #[true, true, true, true, true, true, false, false, false] rfl rfl (uO ak.out dZ.out (by kernel_rfl)) (fun _ _ _ h => h) (Or.inl ⟨by rfl, ?_⟩) hHeld ?_ ?_
    rotate_left
    ·intro w' hs_
     have c0 := (af hs_.2 0).trans rfl
     have c1 := (af hs_.2 1).trans rfl
     have c2 := (af hs_.2 2).trans rfl
     have c3 := (af hs_.2 3).trans rfl
     have c4 := (af hs_.2 4).trans rfl
     have c5 := (af hs_.2 5).trans rfl
     have c6 := (af hs_.2 6).trans rfl
     go_simp; with_reducible rfl
    rotate_left
    ·simp only [Act.put, List.setIfInBounds_toArray, List.set_cons_zero, List.set_cons_succ, kT, kS]
     rfl
    refine gU (i := 6) (N := some 33) #[true, true, true, true, true, true, true, false, false] rfl rfl (bY ak.out (by kernel_rfl)) (by decide) (fun K hK => ?_)
    refine fK Try.func66 (by kernel_rfl) rfl #[.agg #[.int .u8 k.f0, .int .i64 k.f1.f0, .int .i64 k.f1.f1, .int .i64 k.f1.f2, .int .i64 k.f1.f3, .int .i64 k.f2, .slice ua k.f3.length uc], .int .i64 (nD ck pre x), .int .i64 (nG ck pre y)] (by rfl) rfl rfl (by (try simp only [List.map_toArray, List.map_cons, List.map_nil]); rfl) ?_
    refine (IH.out k HK.out _ ua uc (nD ck pre x) (nG ck pre y) wd HV.out).mono ?_
    rintro e wk ⟨v, rfl, ho, hb⟩
    refine ⟨_, rfl, ?_⟩
    have HE3 := ae.mk (gu dI.out)
    have HE6 := ae.mk (gu g_.out)
    have HE8 := ae.mk (gu Kb8.out)
    have HEG := ae.mk (Kd.DD HN.out g rfl)
    have HS := ae.mk HB.out.size
    have lH := ae.mk (az HB.out hb); have lI := ae.mk (Kd.pW HN.out hb); have sF := ae.mk (Kd.jQ HV.out hb); have jb := ae.mk (aV dI.out hb); have jc := ae.mk (aV g_.out hb); have HY := ae.mk (aV Kb8.out hb); clear HB HN HV dI g_ Kb8; have HB := lH; have HN := lI; have HV := sF; have dI := jb; have g_ := jc; have Kb8 := HY; clear lH lI sF jb jc HY
    clear HV hb
    obtain ⟨Av, cv, ev⟩ := Kd.jE ho
    subst ev
    have pV := ae.mk ho
    clear ho
    refine hK.out _ _ ⟨dI.out, Kb8.out⟩ (fun hHeld => ?_)
    clear hK K
    refine mr (a' := ?_) ?_ ?_
    rotate_left
    ·show Act.put _ (some 33) _ = _
     simp only [Act.put, List.setIfInBounds_toArray, List.set_cons_zero, List.set_cons_succ, kT, kS]
     rfl
    refine rE (i := 7) (N := some 34) (v := ?_) (a' := ?_) #[true, true, true, true, true, true, true, true, false] rfl rfl (oQ ak.out (by kernel_rfl)) (fun _ _ _ h => h) (Or.inl ⟨by rfl, ?_⟩) ?_ ?_
    rotate_left
    ·intro w'; go_simp; with_reducible rfl
    rotate_left
    ·simp only [Act.put, List.setIfInBounds_toArray, List.set_cons_zero, List.set_cons_succ, kT, kS]
     rfl
    obtain ⟨ce, hcl, hM, hcc, hfr⟩ := Kd.xE HN.out z26 (pre.length : Int) (Int.natCast_nonneg _) hlt
    have hrd : (l_ ck pre x y ++ k :: rest).getD (pre.length : Int).toNat z26 = k := Vh ck pre k rest x y
    rw [hrd] at hM
    obtain ⟨ub, ud, rfl, _, _⟩ := nI hM
    have x0 : wk.cell? ⟨g, pre.length * 7, none⟩ = some (.int .u8 k.f0) := hcc 0 _ rfl
    have f0 : wk.frozen? ⟨g, pre.length * 7, none⟩ = false := hfr 0
    have x1 : wk.cell? ⟨g, pre.length * 7 + 1, none⟩ = some (.int .i64 k.f1.f0) := hcc 1 _ rfl
    have f1 : wk.frozen? ⟨g, pre.length * 7 + 1, none⟩ = false := hfr 1
    have x2 : wk.cell? ⟨g, pre.length * 7 + 2, none⟩ = some (.int .i64 k.f1.f1) := hcc 2 _ rfl
    have f2 : wk.frozen? ⟨g, pre.length * 7 + 2, none⟩ = false := hfr 2
    have x3 : wk.cell? ⟨g, pre.length * 7 + 3, none⟩ = some (.int .i64 k.f1.f2) := hcc 3 _ rfl
    have f3 : wk.frozen? ⟨g, pre.length * 7 + 3, none⟩ = false := hfr 3
    have x4 : wk.cell? ⟨g, pre.length * 7 + 4, none⟩ = some (.int .i64 k.f1.f3) := hcc 4 _ rfl
    have f4 : wk.frozen? ⟨g, pre.length * 7 + 4, none⟩ = false := hfr 4
    have x5 : wk.cell? ⟨g, pre.length * 7 + 5, none⟩ = some (.int .i64 k.f2) := hcc 5 _ rfl
    have f5 : wk.frozen? ⟨g, pre.length * 7 + 5, none⟩ = false := hfr 5
    have x6 : wk.cell? ⟨g, pre.length * 7 + 6, none⟩ = some (.slice ub k.f3.length ud) := hcc 6 _ rfl
    have f6 : wk.frozen? ⟨g, pre.length * 7 + 6, none⟩ = false := hfr 6
    have ku : ∀ q, (((fun q => ((P q ∨ w.heap.size ≤ q) ∧ q ≠ b3) ∧ q ≠ b6) q ∧ q ≠ g) ∧ q ≠ b8) ∨ wd.heap.size ≤ q → ((fun q => ((P q ∨ w.heap.size ≤ q) ∧ q ≠ b3) ∧ q ≠ b6) q ∧ q ≠ b8) ∧ q ≠ g := fun q hq => hq.elim (fun h => ⟨⟨h.1.1, h.2⟩, h.1.2⟩) (fun hn => ⟨⟨⟨⟨.inr (Nat.le_trans HS.out hn), Nat.ne_of_gt (Nat.lt_of_lt_of_le HE3.out hn)⟩, Nat.ne_of_gt (Nat.lt_of_lt_of_le HE6.out hn)⟩, Nat.ne_of_gt (Nat.lt_of_lt_of_le HE8.out hn)⟩, Nat.ne_of_gt (Nat.lt_of_lt_of_le HEG.out hn)⟩)
    have JQ := qh wk _ (aX k (nD ck pre x) (nG ck pre y)) (A6 := Av) (c6 := cv) (by rw [yR]; exact (Kd.jl pV.out).2.1) (by rw [yR]; exact Kd.Yh pV.out)
    have hseg := Kd.Qo HN.out (pre.length : Int) (Int.natCast_nonneg _) hlt (bP := [.int .u8 k.f0, .int .i64 (nD ck pre x), .int .i64 (nG ck pre y), .int .i64 k.f1.f2, .int .i64 k.f1.f3, .int .i64 k.f2, .slice Av (l_ k.f0 k.f3 (nD ck pre x) (nG ck pre y)).length cv]) (j := 0) hcl hcc (show 0 + 7 ≤ 7 from by decide) (x' := aX k (nD ck pre x) (nG ck pre y)) (by rw [yR] at JQ ⊢; exact JQ) ku
    rw [show (l_ ck pre x y ++ k :: rest).set (pre.length : Int).toNat (aX k (nD ck pre x) (nG ck pre y)) = l_ ck (pre ++ [k]) x y ++ rest from abk ck pre k rest x y] at hseg
    obtain ⟨w9, D9⟩ : ∃ w9, w9 = wk.setCells g ((pre.length : Int).toNat * 7 + 0) [.int .u8 k.f0, .int .i64 (nD ck pre x), .int .i64 (nG ck pre y), .int .i64 k.f1.f2, .int .i64 k.f1.f3, .int .i64 k.f2, .slice Av (l_ k.f0 k.f3 (nD ck pre x) (nG ck pre y)).length cv] := ⟨_, rfl⟩
    replace hseg : Kd.N k26 26 w9 w.heap.size (fun q => (fun q => ((P q ∨ w.heap.size ≤ q) ∧ q ≠ b3) ∧ q ≠ b6) q ∧ q ≠ b8) (.slice (some ⟨g, 0, none⟩) l.length c1) (l_ ck (pre ++ [k]) x y ++ rest) ∧ wk.grownBy w9 (some g) := by rw [D9]; exact hseg
    have RZ := ae.mk (Kd.Sz hseg.1)
    have KY := ae.mk (grown_below HB.out hseg.2 HGB.out HB.out.size)
    have yh := ae.mk (dJ dI.out hseg.2 (fun e_ => (HN.out.1 g rfl).1.1.2 (Option.some.inj e_).symm))
    have Lj := ae.mk (dJ g_.out hseg.2 (fun e_ => (HN.out.1 g rfl).1.2 (Option.some.inj e_).symm))
    have FI := ae.mk (dJ Kb8.out hseg.2 (fun e_ => (HN.out.1 g rfl).2 (Option.some.inj e_).symm))
    clear hseg JQ ku hcl hcc hfr hM hrd HN HB dI g_ Kb8 hHeld pV
    refine mO (i := 8) (N := none) #[true, true, true, true, true, true, true, true, true] rfl rfl (bY ak.out (by kernel_rfl)) (by decide) (fun K hK => ?_)
    refine Ic (w1 := w9) (by rfl) rfl ?_ ?_
    ·rw [D9]; go_simp; rfl
    refine hK.out _ _ ?_
    clear hK K x0 x1 x2 x3 x4 x5 x6 f0 f1 f2 f3 f4 f5 f6 D9
    refine jI (gQ ak.out (by kernel_rfl)) ?_
    have d0 := (af yh.out 0).trans rfl
    have e0 := (af FI.out 0).trans rfl
    have d1 := (af yh.out 1).trans rfl
    have e1 := (af FI.out 1).trans rfl
    have d2 := (af yh.out 2).trans rfl
    have e2 := (af FI.out 2).trans rfl
    have d3 := (af yh.out 3).trans rfl
    have e3 := (af FI.out 3).trans rfl
    have d4 := (af yh.out 4).trans rfl
    have e4 := (af FI.out 4).trans rfl
    have d5 := (af yh.out 5).trans rfl
    have e5 := (af FI.out 5).trans rfl
    have d6 := (af yh.out 6).trans rfl
    have e6 := (af FI.out 6).trans rfl
    by_cases k2 : ck = 2
    ·have ahH : (ck == 2) = true := beq_iff_eq.mpr k2
     have K2 := ae.mk k2
     clear k2
     have hw := HW1.out
     go_wp2
     clear d0 d1 d2 d3 d4 d5 d6 e0 e1 e2 e3 e4 e5 e6
     go_roundg rest.length
     case measure => exact Nat.lt_of_lt_of_le (Nat.lt_succ_self _) jh.out
     case rel => exact ⟨pre ++ [k], rest, (by rw [sU]; unfold zC; rw [if_pos K2.out]), (by rw [sV]; unfold zD; rw [if_pos K2.out]), (by rw [hw]), ⟨by rw [List.append_assoc]; exact HE.out⟩, Nat.le_refl _, RZ, yh, Lj, KY⟩
    ·have ahH : (ck == 2) = false := beq_eq_false_iff_ne.mpr k2
     have K2 := ae.mk k2
     clear k2
     by_cases k3 : ck = 3
     ·have ahI : (ck == 3) = true := beq_iff_eq.mpr k3
      have K3 := ae.mk k3
      clear k3
      have hw := HW1.out
      go_wp2
      clear d0 d1 d2 d3 d4 d5 d6 e0 e1 e2 e3 e4 e5 e6
      go_roundg rest.length
      case measure => exact Nat.lt_of_lt_of_le (Nat.lt_succ_self _) jh.out
      case rel => exact ⟨pre ++ [k], rest, (by rw [sU]; unfold zC; rw [if_neg K2.out]), (by rw [sV]; unfold zD; rw [if_neg K2.out, if_pos K3.out]), (by rw [hw]), ⟨by rw [List.append_assoc]; exact HE.out⟩, Nat.le_refl _, RZ, yh, Lj, KY⟩
     ·have ahI : (ck == 3) = false := beq_eq_false_iff_ne.mpr k3
      have K3 := ae.mk k3
      clear k3
      have hw := HW1.out
      go_wp2
      clear d0 d1 d2 d3 d4 d5 d6 e0 e1 e2 e3 e4 e5 e6
      go_roundg rest.length
      case measure => exact Nat.lt_of_lt_of_le (Nat.lt_succ_self _) jh.out
      case rel => exact ⟨pre ++ [k], rest, (by rw [sU]; unfold zC; rw [if_neg K2.out]), (by rw [sV]; unfold zD; rw [if_neg K2.out, if_neg K3.out]), (by rw [hw]), ⟨by rw [List.append_assoc]; exact HE.out⟩, Nat.le_refl _, RZ, yh, Lj, KY⟩
def m_.f (a0 a1 a2 a3 a4 a5 : Int) (l : List ai) (x y : Int) : Option (Int × Int × Int × Int × Int × Int × List ai) := if sz ⟨a0, ⟨a1, a2, a3, a4⟩, a5, l⟩ ≤ 1000000 then some (a0, x, y, a3, a4, a5, l_ a0 l x y) else none
section
variable {W : World} {b : Nat} {P : Nat → Prop} {A : Option Addr} {cc : Nat}
abbrev BL (w : World) (P : Nat → Prop) (z : ai) (e : Ending) (w' : World) : Prop := ∃ A c, e = .returned (.agg #[.int .u8 z.f0, .int .i64 z.f1.f0, .int .i64 z.f1.f1, .int .i64 z.f1.f2, .int .i64 z.f1.f3, .int .i64 z.f2, .slice A z.f3.length c]) ∧ Kd.N k26 26 w' w.heap.size (fun k => P k ∨ w.heap.size ≤ k) (.slice A z.f3.length c) z.f3 ∧ Below w.heap.size w w'
theorem EN (c : ai) (ax : Int) (hz : sz c ≤ 1048576) (hV : Kd.V k26 26 W b P (.slice A c.f3.length cc) c.f3) :
  Calls Try.prog 86 #[.agg #[.int .u8 c.f0, .int .i64 c.f1.f0, .int .i64 c.f1.f1, .int .i64 c.f1.f2, .int .i64 c.f1.f3, .int .i64 c.f2, .slice A c.f3.length cc], .int .u8 ax] W fun e w' => e = .returned (.int .i64 (fD ax c)) ∧ Below W.heap.size W w' := by
 obtain ⟨k, hk⟩ := (WI c hz ax).rounds
 exact dH.calls k _ _ _ _ _ _ P A cc c.f3 ax _ W (dO hV) hk
theorem Zf (c : ai) (ax : Int) (hV : Kd.V k26 26 W b P (.slice A c.f3.length cc) c.f3) :
  Calls Try.prog 99 #[.agg #[.int .u8 c.f0, .int .i64 c.f1.f0, .int .i64 c.f1.f1, .int .i64 c.f1.f2, .int .i64 c.f1.f3, .int .i64 c.f2, .slice A c.f3.length cc], .int .u8 ax] W fun e w' => e = .returned (.bool (jC ax c.f0)) ∧ Below W.heap.size W w' := by
 have h := Kd.jY hV
 exact qW.calls _ _ _ _ _ _ A cc c.f3 ax _ W h.2.2 h.2.1 (BO c ax)
theorem OY (l : List ai) (hl : l.length ≤ 1000000) (hV : Kd.V k26 26 W b P (.slice A l.length cc) l) :
  Calls Try.prog 137 #[.slice A l.length cc] W fun e w' => ∃ A' c', e = .returned (.slice A' l.length c') ∧ Kd.N k26 26 w' W.heap.size (fun k => P k ∨ W.heap.size ≤ k) (.slice A' l.length c') l ∧ Below W.heap.size W w' :=
 (pY.calls P A cc l l W (dO hV) (if_pos hl)).mono (fun e w' ⟨v, he, hN, hB⟩ => by
  obtain ⟨A', c', rfl⟩ := Kd.jE hN
  exact ⟨A', c', he, hN, hB⟩)
theorem KG (c : ai) (x y : Int) (hz : sz c ≤ 1000000) (hV : Kd.V k26 26 W b P (.slice A c.f3.length cc) c.f3) :
  Calls Try.prog 66 #[.agg #[.int .u8 c.f0, .int .i64 c.f1.f0, .int .i64 c.f1.f1, .int .i64 c.f1.f2, .int .i64 c.f1.f3, .int .i64 c.f2, .slice A c.f3.length cc], .int .i64 x, .int .i64 y] W (BL W P (aX c x y)) :=
 (agq 1000000 c hz (Nat.le_refl _) P A cc x y W (dO hV)).mono (fun e w' ⟨v, he, hN, hB⟩ => by
  rw [yR]
  obtain ⟨A', c', rfl⟩ := Kd.jE hN
  exact ⟨A', c', he, hN, hB⟩)
theorem XO (b : Int) (gs : List Int) (hl : gs.length ≤ 100000) (h0 : -2147483647 ≤ b) (h1 : b ≤ 2147483647) (hC : Kd.C (Kd.int .i64) W A gs.length gs) (hc : gs.length ≤ cc) :
  Calls Try.prog 49 #[.int .i64 b, .slice A gs.length cc] W fun e w' => ∃ A' c', e = .returned (.tuple #[.slice A' (qw b gs).1.length c', .bool (qw b gs).2]) ∧ (Kd.int .i64).R 3 w' W.heap.size (fun _ => True) (.slice A' (qw b gs).1.length c') (qw b gs).1 ∧ Below W.heap.size W w' := by
 obtain ⟨k, hk⟩ := (zF b gs hl h0 h1).2.rounds
 exact (aY.calls k b A cc gs _ _ W hC hc hk).mono (fun e w' ⟨v, he, hR, hB⟩ => by
  obtain ⟨A', c', rfl⟩ := Kd.fQ hR
  exact ⟨A', c', he, hR, hB⟩)
end
def xu.T6 : Bool × List (List Nat × List Nat) := (true, [([], []), ([0], [0]), ([], []), ([1, 2], [1, 2]), ([3], [3]), ([], []), ([5], [5]), ([], []), ([6, 7], [6, 7]), ([8], [8]), ([4, 9], [4, 9]), ([10], [10])])
def xu.B6 : List Nat := [0, 1, 0, 7, 15, 0, 32, 0, 224, 480, 1023, 2047]
theorem xu.tab6 : iY .any (opsOf Try.f64 6) = xu.T6 := by kernel_rfl
theorem xu.yH : iI xu.T6.2 xu.B6 = true := by kernel_rfl
theorem Vd {x y : ai} {v : Bool} {args : Array Value} {W : World} (h : uF x y = v) (hc : Calls Try.prog 64 args W fun e w' => e = .returned (.bool (uF x y)) ∧ Below W.heap.size W w') : Calls Try.prog 64 args W fun e w' => e = .returned (.bool v) ∧ Below W.heap.size W w' := by
 rw [h] at hc
 exact hc
theorem J5 : ∀ (a a' b b' : List ai), a.length = a'.length → sS (a ++ b) (a' ++ b') = (sS a a' && sS b b') := by
 intro a
 induction a with
 | nil => intro a' b b' h; cases a' with
  | nil => rw [xO]; rfl
  | cons y ys => simp at h
 | cons x xs ih =>
  intro a' b b' h
  cases a' with
  | nil => simp at h
  | cons y ys => rw [List.cons_append, List.cons_append, wF, wF, ih ys b b' (by simpa using h), Bool.and_assoc]
theorem aeY : ∀ (N : Nat) (c : ai), sz c ≤ N → N ≤ 1048576 → ∀ (d : ai) (P : Nat → Prop) (A : Option Addr) (cc : Nat) (A' : Option Addr) (cc' : Nat) (w : World), Kd.V k26 26 w w.heap.size P (.slice A c.f3.length cc) c.f3 → Kd.V k26 26 w w.heap.size P (.slice A' d.f3.length cc') d.f3 →
  Calls Try.prog 64 #[.agg #[.int .u8 c.f0, .int .i64 c.f1.f0, .int .i64 c.f1.f1, .int .i64 c.f1.f2, .int .i64 c.f1.f3, .int .i64 c.f2, .slice A c.f3.length cc], .agg #[.int .u8 d.f0, .int .i64 d.f1.f0, .int .i64 d.f1.f1, .int .i64 d.f1.f2, .int .i64 d.f1.f3, .int .i64 d.f2, .slice A' d.f3.length cc']] w fun e w' => e = .returned (.bool (uF c d)) ∧ Below w.heap.size w w' := by
 intro N
 induction N with
 | zero => intro c h; rw [dL] at h; omega
 | succ N ih =>
  intro c hc hN d P A cc A' cc' w hv hv'
  have hsz := dL c
  have hlen := jR c.f3
  have S := ae.mk (St.start (ts := [(.slice A c.f3.length cc, c.f3), (.slice A' d.f3.length cc', d.f3)]) (b0 := w.heap.size) (w := w) (P := P) (fun t ht => by
   rcases List.mem_cons.1 ht with rfl | ht
   ·exact hv
   ·rw [List.mem_singleton.1 ht]; exact hv'))
  have gX := ae.mk (show c.f3.length ≤ 1048576 by omega)
  have IH := ae.mk fun (k : ai) (hk : k ∈ c.f3) d P A cc A' cc' w h h' => ih k (by have := vw hk; omega) (by omega) d P A cc A' cc' w h h'
  have GI := ae.mk (Oj c d)
  obtain ⟨ck, ⟨cx, cy, cw, ch⟩, ay, l⟩ := c
  obtain ⟨dk, ⟨dx, dy, dw, dh⟩, did, m⟩ := d
  simp only [] at S IH gX GI ⊢
  clear ih hc hN hv hv' hsz hlen
  by_cases hk : ck = dk
  case neg =>
   have hkb : (ck == dk) = false := beq_eq_false_iff_ne.mpr hk
   have hkc : (ck != dk) = true := bne_iff_ne.mpr hk
   have hkd : decide (ck = dk) = false := decide_eq_false hk
   have HB := ae.mk hkb
   clear hk
   go_enter Try.func64, Try.ntmps64
   go_wp2_with (first
    | ((with_reducible refine aj 2 rfl ?_); refine boxS 2 #[.int .u8 ck, .int .i64 cx, .int .i64 cy, .int .i64 cw, .int .i64 ch, .int .i64 ay, .slice A l.length cc] 26 S ?_; clear S; intro b2 eH S)
    | ((with_reducible refine aj 3 rfl ?_); refine boxS 3 #[.int .u8 dk, .int .i64 dx, .int .i64 dy, .int .i64 dw, .int .i64 dh, .int .i64 did, .slice A' m.length cc'] 26 S ?_; clear S; intro b3 fG S; have bQ := (S.out.at (.tail _ (.head _)) 0).trans rfl; have bD := (S.out.at (.head _) 0).trans rfl)
    | fail)
   clear bQ bD
   go_ret
   refine ⟨?_, S.out.below⟩
   rw [GI.out]
   rw [HB.out, Bool.false_and]
   rfl
  subst hk
  have hkb : (ck != ck) = false := bne_self_eq_false _
  by_cases hr : nC ⟨cx, cy, cw, ch⟩ ⟨dx, dy, dw, dh⟩ = true
  case neg =>
   have HB := ae.mk (Bool.eq_false_iff.mpr hr)
   clear hr
   go_enter Try.func64, Try.ntmps64
   go_wp2_with (first
    | ((with_reducible refine aj 2 rfl ?_); refine boxS 2 #[.int .u8 ck, .int .i64 cx, .int .i64 cy, .int .i64 cw, .int .i64 ch, .int .i64 ay, .slice A l.length cc] 26 S ?_; clear S; intro b2 eH S)
    | ((with_reducible refine aj 3 rfl ?_); refine boxS 3 #[.int .u8 ck, .int .i64 dx, .int .i64 dy, .int .i64 dw, .int .i64 dh, .int .i64 did, .slice A' m.length cc'] 26 S ?_; clear S; intro b3 fG S; have bQ := (S.out.at (.tail _ (.head _)) 0).trans rfl; have bD := (S.out.at (.head _) 0).trans rfl; have bU := (S.out.at (.tail _ (.head _)) 1).trans rfl; have bV := (S.out.at (.tail _ (.head _)) 2).trans rfl; have cZ := (S.out.at (.tail _ (.head _)) 3).trans rfl; have df := (S.out.at (.tail _ (.head _)) 4).trans rfl; have bF := (S.out.at (.head _) 1).trans rfl; have bG := (S.out.at (.head _) 2).trans rfl; have bH := (S.out.at (.head _) 3).trans rfl; have dG := (S.out.at (.head _) 4).trans rfl)
    | fail)
   clear bQ bD bU bV cZ df bF bG bH dG
   all_goals (first | (exfalso; have h := HB.out; clear S; simp [nC, *] at h; done) | (go_ret; refine ⟨?_, S.out.below⟩; rw [GI.out, HB.out, Bool.false_and, Bool.and_false]; rfl))
  have HR := ae.mk hr
  unfold nC at hr
  simp only [Bool.and_eq_true, beq_iff_eq] at hr
  obtain ⟨rfl, rfl, rfl, rfl⟩ := hr
  by_cases hi : ay = did
  case neg =>
   have hib : (ay == did) = false := beq_eq_false_iff_ne.mpr hi
   have hic : (ay != did) = true := bne_iff_ne.mpr hi
   have hid : decide (ay = did) = false := decide_eq_false hi
   have HB := ae.mk hib
   clear hi
   go_enter Try.func64, Try.ntmps64
   go_wp2_with (first
    | ((with_reducible refine aj 2 rfl ?_); refine boxS 2 #[.int .u8 ck, .int .i64 cx, .int .i64 cy, .int .i64 cw, .int .i64 ch, .int .i64 ay, .slice A l.length cc] 26 S ?_; clear S; intro b2 eH S)
    | ((with_reducible refine aj 3 rfl ?_); refine boxS 3 #[.int .u8 ck, .int .i64 cx, .int .i64 cy, .int .i64 cw, .int .i64 ch, .int .i64 did, .slice A' m.length cc'] 26 S ?_; clear S; intro b3 fG S; have bQ := (S.out.at (.tail _ (.head _)) 0).trans rfl; have bD := (S.out.at (.head _) 0).trans rfl; have bU := (S.out.at (.tail _ (.head _)) 1).trans rfl; have bV := (S.out.at (.tail _ (.head _)) 2).trans rfl; have cZ := (S.out.at (.tail _ (.head _)) 3).trans rfl; have df := (S.out.at (.tail _ (.head _)) 4).trans rfl; have bF := (S.out.at (.head _) 1).trans rfl; have bG := (S.out.at (.head _) 2).trans rfl; have bH := (S.out.at (.head _) 3).trans rfl; have dG := (S.out.at (.head _) 4).trans rfl; have di := (S.out.at (.tail _ (.head _)) 5).trans rfl; have ed := (S.out.at (.head _) 5).trans rfl)
    | fail)
   clear bQ bD bU bV cZ df bF bG bH dG di ed
   go_ret
   refine ⟨?_, S.out.below⟩
   rw [GI.out]
   rw [HB.out, Bool.false_and, Bool.and_false, Bool.and_false]
   rfl
  subst hi
  have hib : (ay != ay) = false := bne_self_eq_false _
  by_cases hl : l.length = m.length
  case neg =>
   have hl2 : ¬ ((l.length : Int) = (m.length : Int)) := by omega
   have aem : ((l.length : Int) == (m.length : Int)) = false := beq_eq_false_iff_ne.mpr hl2
   have aen : ((l.length : Int) != (m.length : Int)) = true := bne_iff_ne.mpr hl2
   have aeo : decide ((l.length : Int) = (m.length : Int)) = false := decide_eq_false hl2
   have hl3 : (l.length == m.length) = false := beq_eq_false_iff_ne.mpr hl
   have hl4 : decide (l.length = m.length) = false := decide_eq_false hl
   have hl5 : (l.length != m.length) = true := bne_iff_ne.mpr hl
   have HB := ae.mk hl3
   clear hl hl2
   go_enter Try.func64, Try.ntmps64
   go_wp2_with (first
    | ((with_reducible refine aj 2 rfl ?_); refine boxS 2 #[.int .u8 ck, .int .i64 cx, .int .i64 cy, .int .i64 cw, .int .i64 ch, .int .i64 ay, .slice A l.length cc] 26 S ?_; clear S; intro b2 eH S)
    | ((with_reducible refine aj 3 rfl ?_); refine boxS 3 #[.int .u8 ck, .int .i64 cx, .int .i64 cy, .int .i64 cw, .int .i64 ch, .int .i64 ay, .slice A' m.length cc'] 26 S ?_; clear S; intro b3 fG S; obtain ⟨bD, bF, bG, bH, dG, ed, bg⟩ := St.eY S (.head _); obtain ⟨bQ, bU, bV, cZ, df, di, bu⟩ := St.eY S (.tail _ (.head _)))
    | fail)
   clear bD bF bG bH dG ed bg bQ bU bV cZ df di bu
   go_ret
   refine ⟨?_, S.out.below⟩
   rw [GI.out]
   rw [HB.out, Bool.false_and, Bool.and_false, Bool.and_false, Bool.and_false]
   rfl
  have HL := ae.mk hl
  have hl2 : (l.length : Int) = (m.length : Int) := by omega
  have aem : ((l.length : Int) == (m.length : Int)) = true := beq_iff_eq.mpr hl2
  have aen : ((l.length : Int) != (m.length : Int)) = false := bne_eq_false_iff_eq.mpr hl2
  have aeo : decide ((l.length : Int) = (m.length : Int)) = true := decide_eq_true hl2
  have hl4 : decide (l.length = m.length) = true := decide_eq_true hl
  have hl5 : (l.length != m.length) = false := bne_eq_false_iff_eq.mpr hl
  clear hl hl2
  go_enter Try.func64, Try.ntmps64
  go_wp2_with (first
   | ((with_reducible refine aj 2 rfl ?_); refine boxS 2 #[.int .u8 ck, .int .i64 cx, .int .i64 cy, .int .i64 cw, .int .i64 ch, .int .i64 ay, .slice A l.length cc] 26 S ?_; clear S; intro b2 eH S)
   | ((with_reducible refine aj 3 rfl ?_); refine boxS 3 #[.int .u8 ck, .int .i64 cx, .int .i64 cy, .int .i64 cw, .int .i64 ch, .int .i64 ay, .slice A' m.length cc'] 26 S ?_; clear S; intro b3 fG S; obtain ⟨bD, bF, bG, bH, dG, ed, bg⟩ := St.eY S (.head _); obtain ⟨bQ, bU, bV, cZ, df, di, bu⟩ := St.eY S (.tail _ (.head _)))
   | fail)
  clear bD bF bG bH dG ed bg bQ bU bV cZ df di bu
  clear hkb hib aem aen aeo hl4 hl5
  go_loopg [37] l.length (fun gg v37 wr => ∃ (pre rest pb rb : List ai), v37 = .int .i64 (pre.length : Int) ∧ ae (pre ++ rest = l) ∧ ae (pb ++ rb = m) ∧ ae (pre.length = pb.length) ∧ ae (sS pre pb = true) ∧ rest.length ≤ gg ∧ ae (St w P [(some b3, .cells #[.int .u8 ck, .int .i64 cx, .int .i64 cy, .int .i64 cw, .int .i64 ch, .int .i64 ay, .slice A' m.length cc'] 26 (0, 0)), (some b2, .cells #[.int .u8 ck, .int .i64 cx, .int .i64 cy, .int .i64 cw, .int .i64 ch, .int .i64 ay, .slice A l.length cc] 26 (0, 0))] [] [(.slice A l.length cc, l), (.slice A' m.length cc', m)] [] wr))
  case atStart => exact ⟨[], l, [], m, rfl, ⟨rfl⟩, ⟨rfl⟩, ⟨rfl⟩, ⟨xO _⟩, Nat.le_refl _, ⟨S.out⟩⟩
  case round =>
   clear S
   obtain ⟨pre, rest, pb, rb, rfl, HE, HE2, xy, OO, hgg, S⟩ := hrel
   have hlr : rest.length = rb.length := by have h1 := congrArg List.length HE.out; have h2 := congrArg List.length HE2.out; rw [List.length_append] at h1 h2; have := xy.out; have := HL.out; omega
   cases rest with
   | nil =>
    have hE := HE.out
    rw [List.append_nil] at hE
    have hE2 := hE.symm
    subst hE2
    have hrb := List.eq_nil_of_length_eq_zero hlr.symm
    subst hrb
    have O5 := HE2.out
    rw [List.append_nil] at O5
    subst O5
    clear hE HE HE2 hgg hlr
    have hlt : ¬ ((l.length : Int) < (l.length : Int)) := by omega
    go_wp2
    go_ret
    refine ⟨?_, S.out.below⟩
    rw [GI.out, HR.out, OO.out, beq_iff_eq.mpr HL.out, beq_self_eq_true, beq_self_eq_true]
    rfl
   | cons k rest =>
    cases rb with
    | nil => simp at hlr
    | cons q rb =>
     have hk : k ∈ l := by rw [← HE.out]; simp
     have hlt : (pre.length : Int) < (l.length : Int) := by rw [← HE.out, List.length_append, List.length_cons]; omega
     have hlt2 : (pre.length : Int) < (m.length : Int) := by rw [← HE2.out, List.length_append, List.length_cons]; have := xy.out; omega
     have hlt3 : pre.length < m.length := by omega
     have hw1 : wrap64 ((pre.length : Int) + 1) = ((pre ++ [k]).length : Int) := by have := gX.out; rw [List.length_append, List.length_singleton]; unfold wrap64; omega
     have HW1 := ae.mk hw1
     have jh := ae.mk hgg
     have HK := ae.mk hk
     obtain ⟨dM, ua, uc, ek, S1⟩ := S.out.elem (.head _) (pre.length : Int) (Int.natCast_nonneg _) hlt
     subst ek
     have hrd : aG l (pre.length : Int) = k := by rw [← HE.out]; exact jF pre k rest
     rw [hrd] at S1
     simp only [Int.toNat_natCast] at S1
     obtain ⟨adq, va, vc, TB, S2⟩ := S1.elem (.tail _ (.tail _ (.head _))) (pre.length : Int) (Int.natCast_nonneg _) hlt2
     subst TB
     have aev : aG m (pre.length : Int) = q := by rw [← HE2.out, xy.out]; exact jF pb q rb
     rw [aev] at S2
     simp only [Int.toNat_natCast] at S2
     replace S := ae.mk S2
     clear S1 S2 hrd aev hk hgg hw1 hlr
     cases hsm : uF k q with
     | false =>
      have HS := ae.mk hsm
      clear hsm
      go_wp2
      refine iR (n := 12) (S := fun w' => St w _ _ _ _ _ w') (ds := []) (bA 12 0) (by kernel_rfl) rfl rfl (S.out.call (bC (Below.refl _ _))) (fun hHeld => ?_); refine fJ xu.tab6 xu.yH (fun ak dZ => ?_)
      replace S := ae.mk (S.out.call (bC (Below.refl _ _)))
      generalize wr.drew = wd3 at S hHeld ⊢
      refine au 0 40 (bA 12 1) ak ?_
      refine dE 1 41 (bA 12 3) ak dZ hHeld ?_ (hv := by intro w' hs_; have bu := (hs_.at (.tail _ (.head _)) 6).trans rfl; go_simp; with_reducible rfl)
      refine au 2 42 (bA 12 7) ak ?_
      refine au 3 43 (bA 12 15) ak ?_
      refine dE 4 44 (bA 12 31) ak dZ hHeld ?_ (hv := by intro w' hs_; have wK := (hs_.cell _ (.tail _ (.tail _ (.tail _ (.tail _ (.tail _ (.tail _ (.tail _ (.head _))))))))).1; have y8_ := (hs_.cell _ (.tail _ (.tail _ (.tail _ (.tail _ (.tail _ (.tail _ (.tail _ (.tail _ (.head _)))))))))).1; have y9_ := (hs_.cell _ (.tail _ (.tail _ (.tail _ (.tail _ (.tail _ (.tail _ (.tail _ (.tail _ (.tail _ (.head _))))))))))).1; have ahY := (hs_.cell _ (.tail _ (.tail _ (.tail _ (.tail _ (.tail _ (.tail _ (.tail _ (.tail _ (.tail _ (.tail _ (.head _)))))))))))).1; have ahZ := (hs_.cell _ (.tail _ (.tail _ (.tail _ (.tail _ (.tail _ (.tail _ (.tail _ (.tail _ (.tail _ (.tail _ (.tail _ (.head _))))))))))))).1; have Oy := (hs_.cell _ (.tail _ (.tail _ (.tail _ (.tail _ (.tail _ (.tail _ (.tail _ (.tail _ (.tail _ (.tail _ (.tail _ (.tail _ (.head _)))))))))))))).1; have ah0 := (hs_.cell _ (.tail _ (.tail _ (.tail _ (.tail _ (.tail _ (.tail _ (.tail _ (.tail _ (.tail _ (.tail _ (.tail _ (.tail _ (.tail _ (.head _))))))))))))))).1; go_simp; with_reducible rfl)
      refine au 5 45 (bA 12 63) ak ?_
      refine dE 6 46 (bA 12 127) ak dZ hHeld ?_ (hv := by intro w' hs_; have bg := (hs_.at (.head _) 6).trans rfl; go_simp; with_reducible rfl)
      refine au 7 47 (bA 12 255) ak ?_
      refine au 8 48 (bA 12 511) ak ?_
      refine dE 9 49 (bA 12 1023) ak dZ hHeld ?_ (hv := by intro w' hs_; have gY := (hs_.cell _ (.head _)).1; have iM := (hs_.cell _ (.tail _ (.head _))).1; have iO := (hs_.cell _ (.tail _ (.tail _ (.head _)))).1; have iC := (hs_.cell _ (.tail _ (.tail _ (.tail _ (.head _))))).1; have iD := (hs_.cell _ (.tail _ (.tail _ (.tail _ (.tail _ (.head _)))))).1; have jv := (hs_.cell _ (.tail _ (.tail _ (.tail _ (.tail _ (.tail _ (.head _))))))).1; have jw := (hs_.cell _ (.tail _ (.tail _ (.tail _ (.tail _ (.tail _ (.tail _ (.head _)))))))).1; go_simp; with_reducible rfl)
      refine gU (i := 10) (N := some 50) (bA 12 2047) rfl rfl (bY ak.out (by kernel_rfl)) (by decide) (fun K hK => ?_)
      refine fK Try.func64 (by kernel_rfl) rfl #[.agg #[.int .u8 k.f0, .int .i64 k.f1.f0, .int .i64 k.f1.f1, .int .i64 k.f1.f2, .int .i64 k.f1.f3, .int .i64 k.f2, .slice ua k.f3.length uc], .agg #[.int .u8 q.f0, .int .i64 q.f1.f0, .int .i64 q.f1.f1, .int .i64 q.f1.f2, .int .i64 q.f1.f3, .int .i64 q.f2, .slice va q.f3.length vc]] (by rfl) rfl rfl (by (try simp only [List.map_toArray, List.map_cons, List.map_nil]); first | done | rfl) ?_
      refine (Vd HS.out (IH.out k HK.out q _ ua uc va vc _ (dO (S.out.tree _ (.tail _ (.head _)))) (dO (S.out.tree _ (.head _))))).mono ?_
      rintro e jB ⟨rfl, hb⟩
      refine ⟨_, rfl, ?_⟩
      replace S := ae.mk (S.out.call hb)
      clear hb
      refine hK.out _ _ S.out (fun hHeld => ?_)
      clear hK K
      refine dR 50 ?_
      refine au 11 51 (bA 12 4095) ak ?_
      refine jI (gQ ak.out (by kernel_rfl)) ?_
      clear hHeld
      go_wp2
      go_ret
      refine ⟨?_, S.out.below⟩
      rw [GI.out, ← HE.out, ← HE2.out, J5 _ _ _ _ xy.out, wF, HS.out, Bool.false_and, Bool.and_false, Bool.and_false, Bool.and_false, Bool.and_false, Bool.and_false]
      rfl
     | true =>
      have HS := ae.mk hsm
      clear hsm
      go_wp2
      refine iR (n := 12) (S := fun w' => St w _ _ _ _ _ w') (ds := []) (bA 12 0) (by kernel_rfl) rfl rfl (S.out.call (bC (Below.refl _ _))) (fun hHeld => ?_); refine fJ xu.tab6 xu.yH (fun ak dZ => ?_)
      replace S := ae.mk (S.out.call (bC (Below.refl _ _)))
      generalize wr.drew = wd5 at S hHeld ⊢
      refine au 0 40 (bA 12 1) ak ?_
      refine dE 1 41 (bA 12 3) ak dZ hHeld ?_ (hv := by intro w' hs_; have bu := (hs_.at (.tail _ (.head _)) 6).trans rfl; go_simp; with_reducible rfl)
      refine au 2 42 (bA 12 7) ak ?_
      refine au 3 43 (bA 12 15) ak ?_
      refine dE 4 44 (bA 12 31) ak dZ hHeld ?_ (hv := by intro w' hs_; have wK := (hs_.cell _ (.tail _ (.tail _ (.tail _ (.tail _ (.tail _ (.tail _ (.tail _ (.head _))))))))).1; have y8_ := (hs_.cell _ (.tail _ (.tail _ (.tail _ (.tail _ (.tail _ (.tail _ (.tail _ (.tail _ (.head _)))))))))).1; have y9_ := (hs_.cell _ (.tail _ (.tail _ (.tail _ (.tail _ (.tail _ (.tail _ (.tail _ (.tail _ (.tail _ (.head _))))))))))).1; have ahY := (hs_.cell _ (.tail _ (.tail _ (.tail _ (.tail _ (.tail _ (.tail _ (.tail _ (.tail _ (.tail _ (.tail _ (.head _)))))))))))).1; have ahZ := (hs_.cell _ (.tail _ (.tail _ (.tail _ (.tail _ (.tail _ (.tail _ (.tail _ (.tail _ (.tail _ (.tail _ (.tail _ (.head _))))))))))))).1; have Oy := (hs_.cell _ (.tail _ (.tail _ (.tail _ (.tail _ (.tail _ (.tail _ (.tail _ (.tail _ (.tail _ (.tail _ (.tail _ (.tail _ (.head _)))))))))))))).1; have ah0 := (hs_.cell _ (.tail _ (.tail _ (.tail _ (.tail _ (.tail _ (.tail _ (.tail _ (.tail _ (.tail _ (.tail _ (.tail _ (.tail _ (.tail _ (.head _))))))))))))))).1; go_simp; with_reducible rfl)
      refine au 5 45 (bA 12 63) ak ?_
      refine dE 6 46 (bA 12 127) ak dZ hHeld ?_ (hv := by intro w' hs_; have bg := (hs_.at (.head _) 6).trans rfl; go_simp; with_reducible rfl)
      refine au 7 47 (bA 12 255) ak ?_
      refine au 8 48 (bA 12 511) ak ?_
      refine dE 9 49 (bA 12 1023) ak dZ hHeld ?_ (hv := by intro w' hs_; have gY := (hs_.cell _ (.head _)).1; have iM := (hs_.cell _ (.tail _ (.head _))).1; have iO := (hs_.cell _ (.tail _ (.tail _ (.head _)))).1; have iC := (hs_.cell _ (.tail _ (.tail _ (.tail _ (.head _))))).1; have iD := (hs_.cell _ (.tail _ (.tail _ (.tail _ (.tail _ (.head _)))))).1; have jv := (hs_.cell _ (.tail _ (.tail _ (.tail _ (.tail _ (.tail _ (.head _))))))).1; have jw := (hs_.cell _ (.tail _ (.tail _ (.tail _ (.tail _ (.tail _ (.tail _ (.head _)))))))).1; go_simp; with_reducible rfl)
      refine gU (i := 10) (N := some 50) (bA 12 2047) rfl rfl (bY ak.out (by kernel_rfl)) (by decide) (fun K hK => ?_)
      refine fK Try.func64 (by kernel_rfl) rfl #[.agg #[.int .u8 k.f0, .int .i64 k.f1.f0, .int .i64 k.f1.f1, .int .i64 k.f1.f2, .int .i64 k.f1.f3, .int .i64 k.f2, .slice ua k.f3.length uc], .agg #[.int .u8 q.f0, .int .i64 q.f1.f0, .int .i64 q.f1.f1, .int .i64 q.f1.f2, .int .i64 q.f1.f3, .int .i64 q.f2, .slice va q.f3.length vc]] (by rfl) rfl rfl (by (try simp only [List.map_toArray, List.map_cons, List.map_nil]); first | done | rfl) ?_
      refine (Vd HS.out (IH.out k HK.out q _ ua uc va vc _ (dO (S.out.tree _ (.tail _ (.head _)))) (dO (S.out.tree _ (.head _))))).mono ?_
      rintro e rG ⟨rfl, hb⟩
      refine ⟨_, rfl, ?_⟩
      replace S := ae.mk (S.out.call hb)
      clear hb
      refine hK.out _ _ S.out (fun hHeld => ?_)
      clear hK K
      refine dR 50 ?_
      refine au 11 51 (bA 12 4095) ak ?_
      refine jI (gQ ak.out (by kernel_rfl)) ?_
      clear hHeld
      go_wp2
      have hw1 := HW1.out
      go_wp2
      go_roundg rest.length
      case measure => exact Nat.lt_of_lt_of_le (Nat.lt_succ_self _) jh.out
      case rel => exact ⟨pre ++ [k], rest, pb ++ [q], rb, (by rw [hw1]), ⟨by rw [List.append_assoc]; exact HE.out⟩, ⟨by rw [List.append_assoc]; exact HE2.out⟩, ⟨by rw [List.length_append, List.length_append, xy.out]; rfl⟩, ⟨by rw [J5 _ _ _ _ xy.out, OO.out, wF, HS.out, xO]; rfl⟩, Nat.le_refl _, ⟨S.out.bW.bW.aT.aT.aT.aT.aT.aT.aT.aT.aT.aT.aT.aT.aT.aT⟩⟩
theorem Iy : ∀ (is : List Int) (c x : ai), rP c is = some x → sz x ≤ sz c := by
 intro is
 induction is with
 | nil => intro c x h; injection h with h; rw [h]; exact Nat.le_refl _
 | cons i is ih =>
  intro c x h
  simp only [rP] at h
  split at h
  ·cases h
  ·rename_i hi
   have h1 := ih _ x h
   have h2 := xQ (H6 c.f3 i (by omega) (by omega))
   have h3 := dL c
   omega
def ny.T5 : Bool × List (List Nat × List Nat) := (true, [([], []), ([0], [0]), ([], []), ([], []), ([3], [3]), ([1, 2, 0, 1, 2, 3, 4], [1, 2]), ([5, 4, 4, 0, 1, 2, 3, 4], [4, 5])])
def ny.B5 : List Nat := [0, 1, 0, 0, 8, 31, 63]
theorem ny.yA : iY .any (opsOf Try.f151 5) = ny.T5 := by kernel_rfl
theorem ny.uD : iI ny.T5.2 ny.B5 = true := by kernel_rfl
theorem FT : ∀ (N : Nat) (c : ai), sz c ≤ N → N ≤ 1000000 → ∀ (P : Nat → Prop) (A : Option Addr) (cc : Nat) (w : World), Kd.V k26 26 w w.heap.size P (.slice A c.f3.length cc) c.f3 →
  Calls Try.prog 151 #[.agg #[.int .u8 c.f0, .int .i64 c.f1.f0, .int .i64 c.f1.f1, .int .i64 c.f1.f2, .int .i64 c.f1.f3, .int .i64 c.f2, .slice A c.f3.length cc]] w
   fun e w' => ∃ v : Value, e = .returned (.agg #[.int .u8 c.f0, .int .i64 c.f1.f0, .int .i64 c.f1.f1, .int .i64 c.f1.f2, .int .i64 c.f1.f3, .int .i64 c.f2, v]) ∧ Kd.N k26 26 w' w.heap.size (fun k => P k ∨ w.heap.size ≤ k) v c.f3 ∧ Below w.heap.size w w' := by
 intro N
 induction N with
 | zero => intro c h; rw [dL] at h; omega
 | succ N ih =>
  intro c hc hN P A cc w hs
  have hsz := dL c
  have hlen := jR c.f3
  have IH := ae.mk fun (k : ai) (hk : k ∈ c.f3) => ih k (by
   have : sz k ≤ gy c.f3 := by
    obtain ⟨p, q, e⟩ := List.append_of_mem hk
    rw [e, nJ, eG]; omega
   omega) (by omega)
  have KX := ae.mk fun (W : World) (P' : Nat → Prop) (hV : Kd.V k26 26 W w.heap.size P' (.slice A c.f3.length cc) c.f3) => pY.calls P' A cc c.f3 c.f3 W hV (if_pos (by omega))
  have HO := ae.mk hs
  have HL := ae.mk (show c.f3.length ≤ 1000000 by omega)
  have HB := ae.mk (Below.refl w.heap.size w)
  clear ih hs hc hN hsz hlen
  obtain ⟨ck, ⟨cx, cy, cw, ch⟩, ay, l⟩ := c
  simp only [] at HO HL IH KX ⊢
  go_enter Try.func151, Try.ntmps151
  go_upto_region 1 with (first
   | ((with_reducible refine aC (N := 1) rfl ?_); refine aQ ?hg (N := 1) ?hd (cs := #[.int .u8 ck, .int .i64 cx, .int .i64 cy, .int .i64 cw, .int .i64 ch, .int .i64 ay, .slice A l.length cc]) (t := 26) ?hr ?_; (case hd => rfl); (case hg => rfl); (case hr => first | (go_simp; done) | (go_simp; rfl)); intro b3 hg Vy hbox hb; have RP := ae.mk (show w.heap.size ≤ b3 by rw [hg]; exact HB.out.size); have lH := ae.mk (az HB.out hb); have sD := ae.mk (Kd.jQ (Kd.nO HO.out b3 (by rw [hg]; exact Nat.le_refl _)) hb); clear HB HO; have HB := lH; have HO := sD; clear lH sD; have dI := ae.mk hbox; clear hb hbox hg)
   | ((with_reducible refine aC (N := 2) rfl ?_); refine aQ ?hg (N := 2) ?hd (cs := #[.int .u8 0, .int .i64 0, .int .i64 0, .int .i64 0, .int .i64 0, .int .i64 0, .slice none 0 0]) (t := 26) ?hr ?_; (case hd => rfl); (case hg => rfl); (case hr => first | (go_simp; done) | (go_simp; rfl)); intro b6 hg wb6 hbox hb; have Gb6 := ae.mk (show w.heap.size ≤ b6 by rw [hg]; exact HB.out.size); have uH := ae.mk (show b3 ≠ b6 by rw [hg]; exact Nat.ne_of_lt (gu dI.out)); have lH := ae.mk (az HB.out hb); have sD := ae.mk (Kd.jQ (Kd.nO HO.out b6 (by rw [hg]; exact Nat.le_refl _)) hb); have jb := ae.mk (aV dI.out hb); clear HB HO dI; have HB := lH; have HO := sD; have dI := jb; clear lH sD jb; have g_ := ae.mk hbox; clear hb hbox hg)
   | fail)
  have Ha : _ = some (Value.slice A l.length cc) := (af dI.out 6).trans rfl
  go_upto_region 2 with (first
   | ((with_reducible refine gW (f := 137) rfl ?_); refine jL (some 7) rfl rfl Try.func137 (by kernel_rfl) rfl #[.slice A l.length cc] rfl (by (try simp only [List.map_toArray, List.map_cons, List.map_nil]); first | done | rfl) ?_; refine (KX.out _ _ HO.out).mono ?_; rintro e wc1 ⟨v1, rfl, ho, hb⟩; refine ⟨_, rfl, ?_⟩; have HN := ae.mk (Lu ho (gu dI.out) (gu g_.out) HB.out.size); clear ho HO; obtain ⟨A1, c1, e1⟩ := Kd.jE HN.out; subst e1; have lH := ae.mk (az HB.out hb); have jb := ae.mk (aV dI.out hb); have jc := ae.mk (aV g_.out hb); clear HB dI g_; have HB := lH; have dI := jb; have g_ := jc; clear lH jb jc; clear hb)
   | ((with_reducible refine lG (.store 24 (.tmp 8) (.tmp 7)) rfl ?_); go_loud (refine iF (w0 := w) rfl rfl 24 (.tmp 8) (.tmp 7) rfl (g := b3) (j := 6) (base := w.heap.size) #[.int .u8 ck, .int .i64 cx, .int .i64 cy, .int .i64 cw, .int .i64 ch, .int .i64 ay, .slice A1 l.length c1] (u := .slice A1 l.length c1) (bP := [.slice A1 l.length c1]) ?sA ?sX rfl ?sT ?s1 dI.out ?sJ rfl HB.out HB.out.size RP.out ?_; (case sA => rfl); (case sX => rfl); (case sT => rfl); (case s1 => (simp [Value.oneCell'])); (case sJ => (first | decide | simp)); intro ws1 hbk hbb hgg; have jc := ae.mk (dJ g_.out hgg (fun e_ => absurd (Option.some.inj e_) (by first | exact VO.out | exact (fun Bh => uH.out Bh.symm)))); have lI := ae.mk (Kd.uS HN.out hgg (fun k_ hk e_ => absurd (Option.some.inj e_) (by first | exact hk.2 | exact hk.1.2 | exact hk.1.1.2 | exact hk.1.1.1.2 | exact hk.2.2 | exact hk.2.1 | exact hk.2.2.1 | exact hk.2.2.2))); clear g_ HN; have g_ := jc; have HN := lI; clear jc lI; clear dI HB; have dI := ae.mk hbk; have HB := ae.mk hbb; clear hbk hbb hgg))
   | fail)
  clear Ha
  have Ha : _ = some (Value.slice A1 l.length c1) := (af dI.out 6).trans rfl
  go_wp2
  clear Ha
  go_loopg [12] l.length (fun gg v22 wr => ∃ (pre rest : List ai), v22 = .int .i64 (pre.length : Int) ∧ ae (pre ++ rest = l) ∧ rest.length ≤ gg ∧ ae (Kd.N k26 26 wr w.heap.size (fun q => ((P q ∨ w.heap.size ≤ q) ∧ q ≠ b3) ∧ q ≠ b6) (.slice A1 l.length c1) l) ∧ ae (wr.heap[b3]? = some (.cells #[.int .u8 ck, .int .i64 cx, .int .i64 cy, .int .i64 cw, .int .i64 ch, .int .i64 ay, .slice A1 l.length c1] 26 (0, 0))) ∧ ae (wr.heap[b6]? = some (.cells #[.int .u8 0, .int .i64 0, .int .i64 0, .int .i64 0, .int .i64 0, .int .i64 0, .slice none 0 0] 26 (0, 0))) ∧ ae (Below w.heap.size w wr))
  case atStart => exact ⟨[], l, rfl, ⟨rfl⟩, Nat.le_refl _, HN, dI, g_, HB⟩
  case round =>
   clear HN dI g_ HB
   obtain ⟨pre, rest, rfl, HE, hgg, HN, dI, g_, HB⟩ := hrel
   cases rest with
   | nil =>
    have hpl : pre = l := by have := HE.out; rwa [List.append_nil] at this
    have hlt : ¬ ((pre.length : Int) < (l.length : Int)) := by rw [hpl]; omega
    clear hpl hgg
    have c30 := (af dI.out 0).trans rfl
    have c31 := (af dI.out 1).trans rfl
    have c32 := (af dI.out 2).trans rfl
    have c33 := (af dI.out 3).trans rfl
    have c34 := (af dI.out 4).trans rfl
    have c35 := (af dI.out 5).trans rfl
    have Ha := (af dI.out 6).trans rfl
    go_wp2_with (first
   | ((with_reducible refine lG (.store 26 (.tmp 2) (.tmp 24)) rfl ?_); go_loud (refine iF (w0 := w) rfl rfl 26 (.tmp 2) (.tmp 24) rfl (g := b6) (j := 0) (base := w.heap.size) #[.int .u8 ck, .int .i64 cx, .int .i64 cy, .int .i64 cw, .int .i64 ch, .int .i64 ay, .slice A1 l.length c1] (u := .agg #[.int .u8 ck, .int .i64 cx, .int .i64 cy, .int .i64 cw, .int .i64 ch, .int .i64 ay, .slice A1 l.length c1]) (bP := [.int .u8 ck, .int .i64 cx, .int .i64 cy, .int .i64 cw, .int .i64 ch, .int .i64 ay, .slice A1 l.length c1]) ?sA ?sX rfl ?sT ?s1 g_.out ?sJ rfl HB.out HB.out.size Gb6.out ?_; (case sA => rfl); (case sX => rfl); (case sT => rfl); (case s1 => (simp [Value.oneCell'])); (case sJ => (first | decide | simp)); intro ahX hbk hbb hgg; have lI := ae.mk (Kd.uS HN.out hgg (fun k_ hk e_ => absurd (Option.some.inj e_) (by first | exact hk.2 | exact hk.1.2 | exact hk.1.1.2 | exact hk.1.1.1.2 | exact hk.2.2 | exact hk.2.1 | exact hk.2.2.1 | exact hk.2.2.2))); have jb := ae.mk (dJ dI.out hgg (fun e_ => absurd (Option.some.inj e_) (by first | exact uH.out | exact (fun Bh => VO.out Bh.symm)))); clear HN dI; have HN := lI; have dI := jb; clear lI jb; clear g_ HB; have g_ := ae.mk hbk; have HB := ae.mk hbb; clear hbk hbb hgg))
   | fail)
    refine bodyPost_ret (results_cell_row rfl _ _ b6 26 #[.int .u8 ck, .int .i64 cx, .int .i64 cy, .int .i64 cw, .int .i64 ch, .int .i64 ay, .slice A1 l.length c1] (0, 0) _ rfl g_.out Try.underlying26 rfl (by kernel_rfl)) rfl ?_
    exact ⟨_, rfl, Kd.jg HN.out (fun q hq => hq.1.1), HB.out⟩
   | cons k rest =>
    have hk : k ∈ l := by rw [← HE.out]; simp
    have hlt : (pre.length : Int) < (l.length : Int) := by rw [← HE.out, List.length_append, List.length_cons]; omega
    have hw : wrap64 ((pre.length : Int) + 1) = ((pre ++ [k]).length : Int) := by rw [List.length_append, List.length_singleton]; unfold wrap64; have := HL.out; omega
    obtain ⟨g, cap, he, hgb, WU, _⟩ := Kd.yU HN.out (by omega)
    injection he with ea en ec
    subst ea
    subst ec
    clear en
    have HGB := ae.mk hgb
    obtain ⟨ce, hcl, hM, hcc, hfr⟩ := Kd.xE HN.out z26 (pre.length : Int) (Int.natCast_nonneg _) hlt
    have hrd : l.getD (pre.length : Int).toNat z26 = k := by rw [← HE.out, Int.toNat_natCast]; simp [List.getD_eq_getElem?_getD]
    rw [hrd] at hM
    obtain ⟨ua, uc, rfl, ul, ge⟩ := nI hM
    have HV := ae.mk (show Kd.V k26 26 wr w.heap.size _ (.slice ua k.f3.length uc) k.f3 from Kd.uJ ul ge)
    have HRD := ae.mk hrd
    have x0 : wr.cell? ⟨g, pre.length * 7, none⟩ = some (.int .u8 k.f0) := hcc 0 _ rfl
    have x1 : wr.cell? ⟨g, pre.length * 7 + 1, none⟩ = some (.int .i64 k.f1.f0) := hcc 1 _ rfl
    have x2 : wr.cell? ⟨g, pre.length * 7 + 2, none⟩ = some (.int .i64 k.f1.f1) := hcc 2 _ rfl
    have x3 : wr.cell? ⟨g, pre.length * 7 + 3, none⟩ = some (.int .i64 k.f1.f2) := hcc 3 _ rfl
    have x4 : wr.cell? ⟨g, pre.length * 7 + 4, none⟩ = some (.int .i64 k.f1.f3) := hcc 4 _ rfl
    have x5 : wr.cell? ⟨g, pre.length * 7 + 5, none⟩ = some (.int .i64 k.f2) := hcc 5 _ rfl
    have x6 : wr.cell? ⟨g, pre.length * 7 + 6, none⟩ = some (.slice ua k.f3.length uc) := hcc 6 _ rfl
    have HW1 := ae.mk hw
    have HK := ae.mk hk
    have jh := ae.mk hgg
    clear hcl hM hcc hfr hrd ul ge hgb WU hw hk hgg
    go_upto_region 5 with (first
   | ((with_reducible refine aC (N := 4) rfl ?_); refine aQ ?hg (N := 4) ?hd (cs := #[.int .u8 0, .int .i64 0, .int .i64 0, .int .i64 0, .int .i64 0, .int .i64 0, .slice none 0 0]) (t := 26) ?hr ?_; (case hd => rfl); (case hg => rfl); (case hr => first | (go_simp; done) | (go_simp; rfl)); intro b8 hg wb8 hbox hb; have Gb8 := ae.mk (show w.heap.size ≤ b8 by rw [hg]; exact HB.out.size); have FM := ae.mk (show b3 ≠ b8 by rw [hg]; exact Nat.ne_of_lt (gu dI.out)); have FN := ae.mk (show b6 ≠ b8 by rw [hg]; exact Nat.ne_of_lt (gu g_.out)); have lH := ae.mk (az HB.out hb); have lI := ae.mk (Kd.pW (Kd.BJ HN.out b8 (by rw [hg]; exact Nat.le_refl _)) hb); have sF := ae.mk (Kd.jQ (Kd.nO HV.out b8 (by rw [hg]; exact Nat.le_refl _)) hb); have jb := ae.mk (aV dI.out hb); have jc := ae.mk (aV g_.out hb); clear HB HN HV dI g_; have HB := lH; have HN := lI; have HV := sF; have dI := jb; have g_ := jc; clear lH lI sF jb jc; have Kb8 := ae.mk hbox; clear hb hbox hg)
   | ((with_reducible refine lG (.store 26 (.tmp 4) (.tmp 16)) rfl ?_); go_loud (refine iF (w0 := w) rfl rfl 26 (.tmp 4) (.tmp 16) rfl (g := b8) (j := 0) (base := w.heap.size) #[.int .u8 k.f0, .int .i64 k.f1.f0, .int .i64 k.f1.f1, .int .i64 k.f1.f2, .int .i64 k.f1.f3, .int .i64 k.f2, .slice ua k.f3.length uc] (u := .agg #[.int .u8 k.f0, .int .i64 k.f1.f0, .int .i64 k.f1.f1, .int .i64 k.f1.f2, .int .i64 k.f1.f3, .int .i64 k.f2, .slice ua k.f3.length uc]) (bP := [.int .u8 k.f0, .int .i64 k.f1.f0, .int .i64 k.f1.f1, .int .i64 k.f1.f2, .int .i64 k.f1.f3, .int .i64 k.f2, .slice ua k.f3.length uc]) ?sA ?sX rfl ?sT ?s1 Kb8.out ?sJ rfl HB.out HB.out.size Gb8.out ?_; (case sA => rfl); (case sX => rfl); (case sT => rfl); (case s1 => (simp [Value.oneCell'])); (case sJ => (first | decide | simp)); intro XZ hbk hbb hgg; have lI := ae.mk (Kd.uS HN.out hgg (fun k_ hk e_ => absurd (Option.some.inj e_) (by first | exact hk.2 | exact hk.1.2 | exact hk.1.1.2 | exact hk.1.1.1.2 | exact hk.2.2 | exact hk.2.1 | exact hk.2.2.1 | exact hk.2.2.2))); have sF := ae.mk (Kd.uT HV.out hgg (fun k_ hk e_ => absurd (Option.some.inj e_) (by first | exact hk.2 | exact hk.1.2 | exact hk.1.1.2 | exact hk.1.1.1.2 | exact hk.2.2 | exact hk.2.1 | exact hk.2.2.1 | exact hk.2.2.2))); have jb := ae.mk (dJ dI.out hgg (fun e_ => absurd (Option.some.inj e_) (by first | exact FM.out | exact (fun Bh => ahb.out Bh.symm)))); have jc := ae.mk (dJ g_.out hgg (fun e_ => absurd (Option.some.inj e_) (by first | exact FN.out | exact (fun Bh => ahc.out Bh.symm)))); clear HN HV dI g_; have HN := lI; have HV := sF; have dI := jb; have g_ := jc; clear lI sF jb jc; clear Kb8 HB; have Kb8 := ae.mk hbk; have HB := ae.mk hbb; clear hbk hbb hgg))
   | fail)
    clear x0 x1 x2 x3 x4 x5 x6
    have q_ := ae.mk (uf HB.out)
    clear HB
    have HB := q_
    clear q_
    have q_ := ae.mk (Kd.Sv HN.out)
    clear HN
    have HN := q_
    clear q_
    have q_ := ae.mk (Kd.LH HV.out)
    clear HV
    have HV := q_
    clear q_
    have q_ := ae.mk (uK dI.out)
    clear dI
    have dI := q_
    clear q_
    have q_ := ae.mk (uK g_.out)
    clear g_
    have g_ := q_
    clear q_
    have q_ := ae.mk (uK Kb8.out)
    clear Kb8
    have Kb8 := q_
    clear q_
    refine iR (n := 7) (S := fun w' => w'.heap[b3]? = some (.cells #[.int .u8 ck, .int .i64 cx, .int .i64 cy, .int .i64 cw, .int .i64 ch, .int .i64 ay, .slice (some ⟨g, 0, none⟩) l.length c1] 26 (0, 0)) ∧ w'.heap[b8]? = some (.cells #[.int .u8 k.f0, .int .i64 k.f1.f0, .int .i64 k.f1.f1, .int .i64 k.f1.f2, .int .i64 k.f1.f3, .int .i64 k.f2, .slice ua k.f3.length uc] 26 (0, 0))) (ds := [6]) #[false, false, false, false, false, false, false] (by kernel_rfl) rfl rfl ⟨dI.out, Kb8.out⟩ (fun hHeld => ?_); refine fJ ny.yA ny.uD (fun ak dZ => ?_)
    generalize XZ.drew = wd at HB HN HV dI g_ Kb8 hHeld ⊢
    refine rE (i := 0) (N := some 17) (v := ?_) (a' := ?_) #[true, false, false, false, false, false, false] rfl rfl (oQ ak.out (by kernel_rfl)) (fun _ _ _ h => h) (Or.inl ⟨by rfl, ?_⟩) ?_ ?_
    rotate_left
    ·intro w'; go_simp; with_reducible rfl
    rotate_left
    ·simp only [Act.put, List.setIfInBounds_toArray, List.set_cons_zero, List.set_cons_succ, kT, kS]
     rfl
    refine yO (i := 1) (N := some 18) (v := ?_) (a' := ?_) #[true, true, false, false, false, false, false] rfl rfl (uO ak.out dZ.out (by kernel_rfl)) (fun _ _ _ h => h) (Or.inl ⟨by rfl, ?_⟩) hHeld ?_ ?_
    rotate_left
    ·intro w' hs_
     have c := (af hs_.1 6).trans rfl
     go_simp; with_reducible rfl
    rotate_left
    ·simp only [Act.put, List.setIfInBounds_toArray, List.set_cons_zero, List.set_cons_succ, kT, kS]
     rfl
    refine rE (i := 2) (N := some 19) (v := ?_) (a' := ?_) #[true, true, true, false, false, false, false] rfl rfl (oQ ak.out (by kernel_rfl)) (fun _ _ _ h => h) (Or.inl ⟨by rfl, ?_⟩) ?_ ?_
    rotate_left
    ·intro w'; go_simp; with_reducible rfl
    rotate_left
    ·simp only [Act.put, List.setIfInBounds_toArray, List.set_cons_zero, List.set_cons_succ, kT, kS]
     rfl
    refine yO (i := 3) (N := some 20) (v := ?_) (a' := ?_) #[true, true, true, true, false, false, false] rfl rfl (uO ak.out dZ.out (by kernel_rfl)) (fun _ _ _ h => h) (Or.inl ⟨by rfl, ?_⟩) hHeld ?_ ?_
    rotate_left
    ·intro w' hs_
     have c0 := (af hs_.2 0).trans rfl
     have c1 := (af hs_.2 1).trans rfl
     have c2 := (af hs_.2 2).trans rfl
     have c3 := (af hs_.2 3).trans rfl
     have c4 := (af hs_.2 4).trans rfl
     have c5 := (af hs_.2 5).trans rfl
     have c6 := (af hs_.2 6).trans rfl
     go_simp; with_reducible rfl
    rotate_left
    ·simp only [Act.put, List.setIfInBounds_toArray, List.set_cons_zero, List.set_cons_succ, kT, kS]
     rfl
    refine gU (i := 4) (N := some 21) #[true, true, true, true, true, false, false] rfl rfl (bY ak.out (by kernel_rfl)) (by decide) (fun K hK => ?_)
    refine fK Try.func151 (by kernel_rfl) rfl #[.agg #[.int .u8 k.f0, .int .i64 k.f1.f0, .int .i64 k.f1.f1, .int .i64 k.f1.f2, .int .i64 k.f1.f3, .int .i64 k.f2, .slice ua k.f3.length uc]] (by rfl) rfl rfl (by (try simp only [List.map_toArray, List.map_cons, List.map_nil]); first | done | rfl) ?_
    refine (IH.out k HK.out _ ua uc wd HV.out).mono ?_
    rintro e wk ⟨v, rfl, ho, hb⟩
    refine ⟨_, rfl, ?_⟩
    have HE3 := ae.mk (gu dI.out)
    have HE6 := ae.mk (gu g_.out)
    have HE8 := ae.mk (gu Kb8.out)
    have HEG := ae.mk (Kd.DD HN.out g rfl)
    have HS := ae.mk HB.out.size
    have lH := ae.mk (az HB.out hb); have lI := ae.mk (Kd.pW HN.out hb); have sF := ae.mk (Kd.jQ HV.out hb); have jb := ae.mk (aV dI.out hb); have jc := ae.mk (aV g_.out hb); have HY := ae.mk (aV Kb8.out hb); clear HB HN HV dI g_ Kb8; have HB := lH; have HN := lI; have HV := sF; have dI := jb; have g_ := jc; have Kb8 := HY; clear lH lI sF jb jc HY
    clear HV hb
    obtain ⟨Av, cv, ev⟩ := Kd.jE ho
    subst ev
    have pV := ae.mk ho
    clear ho
    refine hK.out _ _ ⟨dI.out, Kb8.out⟩ (fun hHeld => ?_)
    clear hK K
    refine mr (a' := ?_) ?_ ?_
    rotate_left
    ·show Act.put _ (some 21) _ = _
     simp only [Act.put, List.setIfInBounds_toArray, List.set_cons_zero, List.set_cons_succ, kT, kS]
     rfl
    refine rE (i := 5) (N := some 22) (v := ?_) (a' := ?_) #[true, true, true, true, true, true, false] rfl rfl (oQ ak.out (by kernel_rfl)) (fun _ _ _ h => h) (Or.inl ⟨by rfl, ?_⟩) ?_ ?_
    rotate_left
    ·intro w'; go_simp; with_reducible rfl
    rotate_left
    ·simp only [Act.put, List.setIfInBounds_toArray, List.set_cons_zero, List.set_cons_succ, kT, kS]
     rfl
    refine mO (i := 6) (N := none) #[true, true, true, true, true, true, true] rfl rfl (bY ak.out (by kernel_rfl)) (by decide) (fun K hK => ?_)
    obtain ⟨ce, hcl, hM, hcc, hfr⟩ := Kd.xE HN.out z26 (pre.length : Int) (Int.natCast_nonneg _) hlt
    rw [HRD.out] at hM
    obtain ⟨ub, ud, rfl, _, _⟩ := nI hM
    have x0 : wk.cell? ⟨g, pre.length * 7, none⟩ = some (.int .u8 k.f0) := hcc 0 _ rfl
    have f0 : wk.frozen? ⟨g, pre.length * 7, none⟩ = false := hfr 0
    have x1 : wk.cell? ⟨g, pre.length * 7 + 1, none⟩ = some (.int .i64 k.f1.f0) := hcc 1 _ rfl
    have f1 : wk.frozen? ⟨g, pre.length * 7 + 1, none⟩ = false := hfr 1
    have x2 : wk.cell? ⟨g, pre.length * 7 + 2, none⟩ = some (.int .i64 k.f1.f1) := hcc 2 _ rfl
    have f2 : wk.frozen? ⟨g, pre.length * 7 + 2, none⟩ = false := hfr 2
    have x3 : wk.cell? ⟨g, pre.length * 7 + 3, none⟩ = some (.int .i64 k.f1.f2) := hcc 3 _ rfl
    have f3 : wk.frozen? ⟨g, pre.length * 7 + 3, none⟩ = false := hfr 3
    have x4 : wk.cell? ⟨g, pre.length * 7 + 4, none⟩ = some (.int .i64 k.f1.f3) := hcc 4 _ rfl
    have f4 : wk.frozen? ⟨g, pre.length * 7 + 4, none⟩ = false := hfr 4
    have x5 : wk.cell? ⟨g, pre.length * 7 + 5, none⟩ = some (.int .i64 k.f2) := hcc 5 _ rfl
    have f5 : wk.frozen? ⟨g, pre.length * 7 + 5, none⟩ = false := hfr 5
    have x6 : wk.cell? ⟨g, pre.length * 7 + 6, none⟩ = some (.slice ub k.f3.length ud) := hcc 6 _ rfl
    have f6 : wk.frozen? ⟨g, pre.length * 7 + 6, none⟩ = false := hfr 6
    have ku : ∀ q, (((fun q => ((P q ∨ w.heap.size ≤ q) ∧ q ≠ b3) ∧ q ≠ b6) q ∧ q ≠ g) ∧ q ≠ b8) ∨ wd.heap.size ≤ q → ((fun q => ((P q ∨ w.heap.size ≤ q) ∧ q ≠ b3) ∧ q ≠ b6) q ∧ q ≠ b8) ∧ q ≠ g := fun q hq => hq.elim (fun h => ⟨⟨h.1.1, h.2⟩, h.1.2⟩) (fun hn => ⟨⟨⟨⟨.inr (Nat.le_trans HS.out hn), Nat.ne_of_gt (Nat.lt_of_lt_of_le HE3.out hn)⟩, Nat.ne_of_gt (Nat.lt_of_lt_of_le HE6.out hn)⟩, Nat.ne_of_gt (Nat.lt_of_lt_of_le HE8.out hn)⟩, Nat.ne_of_gt (Nat.lt_of_lt_of_le HEG.out hn)⟩)
    have JQ := qh wk _ k (A6 := Av) (c6 := cv) (Kd.jl pV.out).2.1 (Kd.Yh pV.out)
    have hseg := Kd.Qo HN.out (pre.length : Int) (Int.natCast_nonneg _) hlt (bP := [.int .u8 k.f0, .int .i64 k.f1.f0, .int .i64 k.f1.f1, .int .i64 k.f1.f2, .int .i64 k.f1.f3, .int .i64 k.f2, .slice Av k.f3.length cv]) (j := 0) hcl hcc (show 0 + 7 ≤ 7 from by decide) (x' := k) JQ ku
    rw [show l.set (pre.length : Int).toNat k = l from by rw [← HE.out, Int.toNat_natCast]; simp] at hseg
    obtain ⟨w9, D9⟩ : ∃ w9, w9 = wk.setCells g ((pre.length : Int).toNat * 7 + 0) [.int .u8 k.f0, .int .i64 k.f1.f0, .int .i64 k.f1.f1, .int .i64 k.f1.f2, .int .i64 k.f1.f3, .int .i64 k.f2, .slice Av k.f3.length cv] := ⟨_, rfl⟩
    replace hseg : Kd.N k26 26 w9 w.heap.size (fun q => (fun q => ((P q ∨ w.heap.size ≤ q) ∧ q ≠ b3) ∧ q ≠ b6) q ∧ q ≠ b8) (.slice (some ⟨g, 0, none⟩) l.length c1) l ∧ wk.grownBy w9 (some g) := by rw [D9]; exact hseg
    have RZ := ae.mk (Kd.Sz hseg.1)
    have KY := ae.mk (grown_below HB.out hseg.2 HGB.out HB.out.size)
    have yh := ae.mk (dJ dI.out hseg.2 (fun e_ => (HN.out.1 g rfl).1.1.2 (Option.some.inj e_).symm))
    have Lj := ae.mk (dJ g_.out hseg.2 (fun e_ => (HN.out.1 g rfl).1.2 (Option.some.inj e_).symm))
    clear hseg JQ ku hcl hcc hfr hM HN HB dI g_ Kb8 hHeld pV
    refine Ic (w1 := w9) (by rfl) rfl ?_ ?_
    ·rw [D9]; go_simp; rfl
    refine hK.out _ _ ?_
    clear hK K x0 x1 x2 x3 x4 x5 x6 f0 f1 f2 f3 f4 f5 f6 D9
    refine jI (gQ ak.out (by kernel_rfl)) ?_
    have hw := HW1.out
    go_wp2
    go_roundg rest.length
    case measure => exact Nat.lt_of_lt_of_le (Nat.lt_succ_self _) jh.out
    case rel => exact ⟨pre ++ [k], rest, (by rw [hw]), ⟨by rw [List.append_assoc]; exact HE.out⟩, Nat.le_refl _, RZ, yh, Lj, KY⟩
def ny.f (a0 a1 a2 a3 a4 a5 : Int) (l : List ai) : Option (Int × Int × Int × Int × Int × Int × List ai) := if sz ⟨a0, ⟨a1, a2, a3, a4⟩, a5, l⟩ ≤ 1000000 then some (a0, a1, a2, a3, a4, a5, l) else none
def AtN (w : World) (P : Nat → Prop) : Option ai → Ending → World → Prop
 | none, e, w' => ∃ A2 c2, e = .returned (.tuple #[.agg #[.int .u8 0, .int .i64 0, .int .i64 0, .int .i64 0, .int .i64 0, .int .i64 0, .slice A2 0 c2], .bool false]) ∧ Kd.N k26 26 w' w.heap.size (fun k => P k ∨ w.heap.size ≤ k) (.slice A2 0 c2) [] ∧ Below w.heap.size w w'
 | some z, e, w' => ∃ A2 c2, e = .returned (.tuple #[.agg #[.int .u8 z.f0, .int .i64 z.f1.f0, .int .i64 z.f1.f1, .int .i64 z.f1.f2, .int .i64 z.f1.f3, .int .i64 z.f2, .slice A2 z.f3.length c2], .bool true]) ∧ Kd.N k26 26 w' w.heap.size (fun k => P k ∨ w.heap.size ≤ k) (.slice A2 z.f3.length c2) z.f3 ∧ Below w.heap.size w w'
theorem acJ (c : ai) (path : List Int) (r : Option ai) (hr : rP c path = r) (hp : path.length ≤ 1048576) (hc : sz c ≤ 1000000) (b : Nat) (P : Nat → Prop) (A : Option Addr) (cc : Nat) (B : Option Addr) (cb : Nat) (w : World) (hv : Kd.V k26 26 w b P (.slice A c.f3.length cc) c.f3) (hi : Kd.C (Kd.int .i64) w B path.length path) :
  Calls Try.prog 91 #[.agg #[.int .u8 c.f0, .int .i64 c.f1.f0, .int .i64 c.f1.f1, .int .i64 c.f1.f2, .int .i64 c.f1.f3, .int .i64 c.f2, .slice A c.f3.length cc], .slice B path.length cb] w (AtN w P r) := by
 have S := ae.mk (St.start (ts := [(.slice A c.f3.length cc, c.f3)]) (b0 := w.heap.size) (w := w) (P := P) (fun t ht => by rw [List.mem_singleton.1 ht]; exact dO hv))
 have HI := ae.mk hi
 have gX := ae.mk hp
 have HZ := ae.mk hc
 have HR := ae.mk hr
 clear hi hp hc hr hv
 go_enter Try.func91, Try.ntmps91
 go_wp2_with (first
  | ((with_reducible refine aj 2 rfl ?_); refine boxS 2 #[.int .u8 c.f0, .int .i64 c.f1.f0, .int .i64 c.f1.f1, .int .i64 c.f1.f2, .int .i64 c.f1.f3, .int .i64 c.f2, .slice A c.f3.length cc] 26 S ?_; clear S; intro b2 eH S)
  | ((with_reducible refine aj 4 rfl ?_); refine boxS 4 #[.int .u8 0, .int .i64 0, .int .i64 0, .int .i64 0, .int .i64 0, .int .i64 0, .slice none 0 0] 26 S ?_; clear S; intro b4 fG S)
  | fail)
 go_loopg [10] path.length (fun gg v10 wr => ∃ (pre rest : List Int) (z : ai) (Az : Option Addr) (cz : Nat), v10 = .int .i64 (pre.length : Int) ∧ ae (pre ++ rest = path) ∧ ae (rP z rest = r) ∧ ae (sz z ≤ 1000000) ∧ rest.length ≤ gg ∧ ae (St w P [(some b4, .cells #[.int .u8 0, .int .i64 0, .int .i64 0, .int .i64 0, .int .i64 0, .int .i64 0, .slice none 0 0] 26 (0, 0)), (some b2, .cells #[.int .u8 z.f0, .int .i64 z.f1.f0, .int .i64 z.f1.f1, .int .i64 z.f1.f2, .int .i64 z.f1.f3, .int .i64 z.f2, .slice Az z.f3.length cz] 26 (0, 0))] [] [(.slice Az z.f3.length cz, z.f3)] [] wr))
 case atStart => exact ⟨[], path, c, A, cc, rfl, ⟨rfl⟩, HR, HZ, Nat.le_refl _, S⟩
 case round =>
  clear S HR HZ
  obtain ⟨pre, rest, z, Az, cz, rfl, HE, HR, HZ, hgg, S⟩ := hrel
  cases rest with
  | nil =>
   have hr := HR.out
   simp only [rP] at hr
   subst hr
   clear HR
   have hE := HE.out
   rw [List.append_nil] at hE
   have hE2 := hE.symm
   subst hE2
   clear hE HE hgg
   have hlt : ¬ ((path.length : Int) < (path.length : Int)) := by omega
   obtain ⟨bQ, bU, bV, cZ, df, di, bu⟩ := St.eY S (.tail _ (.head _))
   go_wp2_with (first
    | ((with_reducible refine aj 31 rfl ?_); refine kR (some 31) Try.func151 (FT 1000000 z HZ.out (Nat.le_refl _) _ Az cz _ (S.out.tree _ (.head _))) ?_; rintro e gV ⟨v, rfl, h1, hb⟩; refine ⟨_, rfl, ?_⟩; obtain ⟨Ac, cc', ev⟩ := Kd.jE h1; subst ev; replace S := ae.mk (S.out.Df h1 hb); clear h1 hb; clear bQ bU bV cZ df di bu)
    | ((with_reducible refine dB 26 (.tmp 4) (.tmp 31) rfl ?_); refine gI 26 4 31 #[.int .u8 z.f0, .int .i64 z.f1.f0, .int .i64 z.f1.f1, .int .i64 z.f1.f2, .int .i64 z.f1.f3, .int .i64 z.f2, .slice Ac z.f3.length cc'] 0 7 S ?_; clear S; intro jB S)
    | fail)
   refine bodyPost_ret (bK rfl _ _ b4 26 #[.int .u8 z.f0, .int .i64 z.f1.f0, .int .i64 z.f1.f1, .int .i64 z.f1.f2, .int .i64 z.f1.f3, .int .i64 z.f2, .slice Ac z.f3.length cc'] (0, 0) _ rfl (S.out.blk _ (.head _) _ rfl) Try.underlying26 rfl (by kernel_rfl)) rfl ?_
   exact ⟨_, _, rfl, S.out.tK, S.out.below⟩
  | cons i is =>
   have hlt : (pre.length : Int) < (path.length : Int) := by rw [← HE.out, List.length_append, List.length_cons]; omega
   have aep : pre.length < path.length := by omega
   have hw1 : wrap64 ((pre.length : Int) + 1) = ((pre ++ [i]).length : Int) := by have := gX.out; rw [List.length_append, List.length_singleton]; unfold wrap64; omega
   have HW1 := ae.mk hw1
   have jh := ae.mk hgg
   have OM := ae.mk hlt
   have hrd : rd path (pre.length : Int) = i := by rw [← HE.out]; simp [rd, List.getD_eq_getElem?_getD]
   obtain ⟨Yn, ek, xi⟩ := Kd.iq (Kd.fC HI.out S.out.below) (pre.length : Int) (Int.natCast_nonneg _) hlt
   subst ek
   have A_ := ae.mk (fun (W : World) (h : Below w.heap.size w W) => (show W.cell? (Yn.add pre.length) = some (.int .i64 i) by have h2 := Kd.iq (Kd.fC HI.out h) (pre.length : Int) (Int.natCast_nonneg _) OM.out; obtain ⟨ad, e1, e2⟩ := h2; injection e1 with e1; subst e1; simp only [Int.toNat_natCast] at e2; rw [e2, hrd]))
   clear hrd xi hgg hw1
   have hr := HR.out
   simp only [rP] at hr
   by_cases h0 : i < 0
   case pos =>
    rw [if_pos (.inl h0)] at hr
    subst hr
    clear HR
    have Dt : decide (i < 0) = true := decide_eq_true (by omega)
    have uk : decide (0 > i) = true := decide_eq_true (by omega)
    have xi := A_.out _ S.out.below
    go_wp2_with (first
     | ((with_reducible refine dB 26 (.tmp 4) (.tmp 23) rfl ?_); refine gI 26 4 23 #[.int .u8 0, .int .i64 0, .int .i64 0, .int .i64 0, .int .i64 0, .int .i64 0, .slice none 0 0] 0 7 S ?_; clear S; intro eH S; clear xi)
     | fail)
    refine bodyPost_ret (bK rfl _ _ b4 26 #[.int .u8 0, .int .i64 0, .int .i64 0, .int .i64 0, .int .i64 0, .int .i64 0, .slice none 0 0] (0, 0) _ rfl (S.out.blk _ (.head _) _ rfl) Try.underlying26 rfl (by kernel_rfl)) rfl ?_
    exact ⟨none, 0, rfl, Kd.kN _ _ _ _ _, S.out.below⟩
   by_cases h1 : i ≥ (z.f3.length : Int)
   case pos =>
    rw [if_pos (.inr h1)] at hr
    subst hr
    clear HR
    have Dt : decide (i < 0) = false := decide_eq_false (by omega)
    have uk : decide (0 > i) = false := decide_eq_false (by omega)
    have h1b : decide (i ≥ (z.f3.length : Int)) = true := decide_eq_true h1
    have h1c : decide ((z.f3.length : Int) ≤ i) = true := decide_eq_true h1
    have xi := A_.out _ S.out.below
    have bu := (S.out.at (.tail _ (.head _)) 6).trans rfl
    go_wp2_with (first
     | ((with_reducible refine dB 26 (.tmp 4) (.tmp 23) rfl ?_); refine gI 26 4 23 #[.int .u8 0, .int .i64 0, .int .i64 0, .int .i64 0, .int .i64 0, .int .i64 0, .slice none 0 0] 0 7 S ?_; clear S; intro eH S; clear xi bu)
     | fail)
    refine bodyPost_ret (bK rfl _ _ b4 26 #[.int .u8 0, .int .i64 0, .int .i64 0, .int .i64 0, .int .i64 0, .int .i64 0, .slice none 0 0] (0, 0) _ rfl (S.out.blk _ (.head _) _ rfl) Try.underlying26 rfl (by kernel_rfl)) rfl ?_
    exact ⟨none, 0, rfl, Kd.kN _ _ _ _ _, S.out.below⟩
   rw [if_neg (fun h => h.elim h0 h1)] at hr
   have Dt : decide (i < 0) = false := decide_eq_false (by omega)
   have uk : decide (0 > i) = false := decide_eq_false (by omega)
   have h1b : decide (i ≥ (z.f3.length : Int)) = false := decide_eq_false h1
   have h1c : decide ((z.f3.length : Int) ≤ i) = false := decide_eq_false h1
   have hi0 : 0 ≤ i := by omega
   have hi1 : i < (z.f3.length : Int) := by omega
   obtain ⟨dM, ua, uc, ek, S1⟩ := S.out.elem (.head _) i hi0 hi1
   subst ek
   have hkz : sz (aG z.f3 i) ≤ 1000000 := by have h2 := xQ (H6 z.f3 i hi0 hi1); have h3 := dL z; have := HZ.out; omega
   obtain ⟨k, hk⟩ : ∃ k, k = aG z.f3 i := ⟨_, rfl⟩
   rw [← hk] at S1 hr hkz
   replace S := ae.mk S1
   replace HR := ae.mk hr
   have tq := ae.mk hkz
   clear S1 hk hr hkz
   obtain ⟨gY, iM, iO, iC, iD, jv, jw⟩ := St.yD S
   have xi := A_.out _ S.out.below
   have bu := (S.out.at (.tail _ (.head _)) 6).trans rfl
   go_wp2_with (first
    | ((with_reducible refine dB 26 (.tmp 2) (.tmp 28) rfl ?_); refine oh 26 2 28 #[.int .u8 k.f0, .int .i64 k.f1.f0, .int .i64 k.f1.f1, .int .i64 k.f1.f2, .int .i64 k.f1.f3, .int .i64 k.f2, .slice ua k.f3.length uc] 0 7 S ?_; clear S; intro eH S; clear gY iM iO iC iD jv jw xi bu)
    | fail)
   have hw1 := HW1.out
   go_wp2
   go_roundg is.length
   case measure => exact Nat.lt_of_lt_of_le (Nat.lt_succ_self _) jh.out
   case rel => exact ⟨pre ++ [i], is, k, ua, uc, (by rw [hw1]), ⟨by rw [List.append_assoc]; exact HE.out⟩, HR, tq, Nat.le_refl _, ⟨S.out.aT.aT.aT.aT.aT.aT.aT.agl (.head _)⟩⟩
section
variable {W : World} {b : Nat} {P : Nat → Prop} {A : Option Addr} {cc cb : Nat}
theorem acL (c : ai) (path : List Int) (z : ai) (hz : rP c path = some z) (hp : path.length ≤ 1048576) (hc : sz c ≤ 1000000) {B : Option Addr} (hV : Kd.V k26 26 W b P (.slice A c.f3.length cc) c.f3) (hi : Kd.C (Kd.int .i64) W B path.length path) (_ : path.length ≤ cb) :
  Calls Try.prog 91 #[.agg #[.int .u8 c.f0, .int .i64 c.f1.f0, .int .i64 c.f1.f1, .int .i64 c.f1.f2, .int .i64 c.f1.f3, .int .i64 c.f2, .slice A c.f3.length cc], .slice B path.length cb] W fun e w' => ∃ A2 c2, e = .returned (.tuple #[.agg #[.int .u8 z.f0, .int .i64 z.f1.f0, .int .i64 z.f1.f1, .int .i64 z.f1.f2, .int .i64 z.f1.f3, .int .i64 z.f2, .slice A2 z.f3.length c2], .bool true]) ∧ Kd.N k26 26 w' W.heap.size (fun k => P k ∨ W.heap.size ≤ k) (.slice A2 z.f3.length c2) z.f3 ∧ Below W.heap.size W w' := acJ c path (some z) hz hp hc b P A cc B cb W hV hi
theorem Zi (c : ai) (path : List Int) (hz : rP c path = none) (hp : path.length ≤ 1048576) (hc : sz c ≤ 1000000) {B : Option Addr} (hV : Kd.V k26 26 W b P (.slice A c.f3.length cc) c.f3) (hi : Kd.C (Kd.int .i64) W B path.length path) (_ : path.length ≤ cb) :
  Calls Try.prog 91 #[.agg #[.int .u8 c.f0, .int .i64 c.f1.f0, .int .i64 c.f1.f1, .int .i64 c.f1.f2, .int .i64 c.f1.f3, .int .i64 c.f2, .slice A c.f3.length cc], .slice B path.length cb] W fun e w' => ∃ A2 c2, e = .returned (.tuple #[.agg #[.int .u8 0, .int .i64 0, .int .i64 0, .int .i64 0, .int .i64 0, .int .i64 0, .slice A2 0 c2], .bool false]) ∧ Kd.N k26 26 w' W.heap.size (fun k => P k ∨ W.heap.size ≤ k) (.slice A2 0 c2) [] ∧ Below W.heap.size W w' := acJ c path none hz hp hc b P A cc B cb W hV hi
end
section
variable {W : World} {b b' : Nat} {P P' : Nat → Prop} {A A' : Option Addr} {cc cc' : Nat}
theorem EO (c : ai) (g : Bool) (hg : ∃ k, jA.f k c.f0 c.f1.f0 c.f1.f1 c.f1.f2 c.f1.f3 c.f2 c.f3 = some g) (hV : Kd.V k26 26 W b P (.slice A c.f3.length cc) c.f3) :
  Calls Try.prog 34 #[.agg #[.int .u8 c.f0, .int .i64 c.f1.f0, .int .i64 c.f1.f1, .int .i64 c.f1.f2, .int .i64 c.f1.f3, .int .i64 c.f2, .slice A c.f3.length cc]] W fun e w' => e = .returned (.bool g) ∧ Below W.heap.size W w' := by
 obtain ⟨k, hk⟩ := hg
 have h := Kd.jY hV
 exact jA.calls k _ _ _ _ _ _ A cc c.f3 g W h.2.2 h.2.1 hk
theorem aeZ (x y : ai) (hx : sz x ≤ 1048576) (hV : Kd.V k26 26 W b P (.slice A x.f3.length cc) x.f3) (hV' : Kd.V k26 26 W b' P' (.slice A' y.f3.length cc') y.f3) :
  Calls Try.prog 64 #[.agg #[.int .u8 x.f0, .int .i64 x.f1.f0, .int .i64 x.f1.f1, .int .i64 x.f1.f2, .int .i64 x.f1.f3, .int .i64 x.f2, .slice A x.f3.length cc], .agg #[.int .u8 y.f0, .int .i64 y.f1.f0, .int .i64 y.f1.f1, .int .i64 y.f1.f2, .int .i64 y.f1.f3, .int .i64 y.f2, .slice A' y.f3.length cc']] W fun e w' => e = .returned (.bool (uF x y)) ∧ Below W.heap.size W w' := by
 exact aeY (sz x) x (Nat.le_refl _) hx y (fun _ => True) A cc A' cc' W (Kd.ik (dO hV) (fun _ _ => trivial)) (Kd.ik (dO hV') (fun _ _ => trivial))
theorem Va (x : ai) (_ : sz x ≤ 1048576) : uF x x = true := (Rk (sz x)).1 x (Nat.le_refl _)
theorem Vb (x : ai) (hx : sz x ≤ 1048576) (hV : Kd.V k26 26 W b P (.slice A x.f3.length cc) x.f3) (hV' : Kd.V k26 26 W b' P' (.slice A' x.f3.length cc') x.f3) :
  Calls Try.prog 64 #[.agg #[.int .u8 x.f0, .int .i64 x.f1.f0, .int .i64 x.f1.f1, .int .i64 x.f1.f2, .int .i64 x.f1.f3, .int .i64 x.f2, .slice A x.f3.length cc], .agg #[.int .u8 x.f0, .int .i64 x.f1.f0, .int .i64 x.f1.f1, .int .i64 x.f1.f2, .int .i64 x.f1.f3, .int .i64 x.f2, .slice A' x.f3.length cc']] W fun e w' => e = .returned (.bool true) ∧ Below W.heap.size W w' := by
 have h := aeZ x x hx hV hV'
 rw [Va x hx] at h
 exact h
abbrev ala (w : World) (P : Nat → Prop) : Option ai → Ending → World → Prop
 | none, e, w' => e = .returned (.tuple #[.agg #[.int .u8 0, .int .i64 0, .int .i64 0, .int .i64 0, .int .i64 0, .int .i64 0, .slice none 0 0], .bool false]) ∧ Below w.heap.size w w'
 | some z, e, w' => ∃ A c, e = .returned (.tuple #[.agg #[.int .u8 z.f0, .int .i64 z.f1.f0, .int .i64 z.f1.f1, .int .i64 z.f1.f2, .int .i64 z.f1.f3, .int .i64 z.f2, .slice A z.f3.length c], .bool true]) ∧ Kd.N k26 26 w' w.heap.size (fun k => P k ∨ w.heap.size ≤ k) (.slice A z.f3.length c) z.f3 ∧ Below w.heap.size w w'
end
section
variable {Pr : Program} {ops : Array Oper} {rest : List Oper} {op : Oper} {a : Act} {Q : Exit → Act → World → Prop} {w W : World} {P : Nat → Prop} {bs : List (Option Nat × Obj)} {ts : List (Value × List ai)} {ro : List (Addr × Value)}
end
theorem Vm {l : List ai} {k : ai} (h : k ∈ l) : sz k ≤ gy l := by
 obtain ⟨p, q, e⟩ := List.append_of_mem h
 rw [e, nJ, eG]
 omega
theorem U3 {a b : dW} : nC a b = true ↔ a.f0 = b.f0 ∧ a.f1 = b.f1 ∧ a.f2 = b.f2 ∧ a.f3 = b.f3 := by
 unfold nC
 simp
theorem OC (ax X Y W H : Int) (hax : ax = 1 ∨ ax = 2) : ∀ (kids : List ai) (ns : List Int) (off : Int), kids.length = ns.length → uj (fun k r => nC k.f1 r) kids (CE ax X Y W H off ns) = true → ∀ x, x ∈ kids → bM (3 - ax) x.f1 = tX ax H W := by
 intro kids
 induction kids with
 | nil => intro _ _ _ _ x hx; cases hx
 | cons k ks ih =>
  intro ns off hl he x hx
  cases ns with
  | nil => simp at hl
  | cons n ns =>
   simp only [CE, uj, Bool.and_eq_true] at he
   rcases List.mem_cons.1 hx with rfl | hx
   ·obtain ⟨_, _, h2, h3⟩ := U3.1 he.1
    simp only [] at h2 h3
    rcases hax with rfl | rfl
    ·unfold bM tX at *
     simp at h3 ⊢
     exact h3
    ·unfold bM tX at *
     simp at h2 ⊢
     exact h2
   ·exact ih ns (off + n + 1) (by simpa using hl) he.2 x hx
theorem W_ {c : ai} (h1 : ru c = true) (hk : c.f0 = 2 ∨ c.f0 = 3) (hl : c.f3.length ≤ 20000) :
  (c.f3.map (fun k => bM (c.f0 - 1) k.f1)).sum + (c.f3.length : Int) - 1 = bM (c.f0 - 1) c.f1 ∧ ∀ x, x ∈ c.f3 → bM (3 - (c.f0 - 1)) x.f1 = bM (3 - (c.f0 - 1)) c.f1 := by
 unfold ru Jh at h1
 rw [show (c.f0 == 1) = false from by simp; omega, Bool.false_or] at h1
 simp only [Bool.and_eq_true] at h1
 obtain ⟨ht, hlen, hE⟩ := h1
 obtain ⟨hax, gp, gs, _⟩ := JK ht
 have e1 : Fb c.f0 = c.f0 - 1 := by unfold Fb; omega
 rw [e1] at hax gp gs
 have e2 : kV c = c.f3.map (fun k => bM (c.f0 - 1) k.f1) := by
  unfold kV
  apply List.map_congr_left
  intro k _
  unfold szK qU bM
  rcases hk with h | h
  ·rw [if_pos h, if_pos (by omega)]
  ·rw [if_neg (by omega), if_neg (by omega), if_pos (by omega)]
 have e3 : ∀ r : dW, tX (c.f0 - 1) r.f2 r.f3 = bM (c.f0 - 1) r ∧ tX (c.f0 - 1) r.f3 r.f2 = bM (3 - (c.f0 - 1)) r := by
  intro r
  rcases hk with h | h <;> simp [tX, bM, h]
 refine ⟨?_, fun x hx => ?_⟩
 ·rw [← e2, ← (e3 c.f1).1, ← gs]
  simp [kV]
 ·rw [gp] at hE
  rw [← (e3 c.f1).2]
  exact OC (c.f0 - 1) _ _ _ _ hax c.f3 (kV c) 0 (by simp [kV]) hE x hx
theorem Bq {c : ai} (h : qi c = true) : n_ c.f1 = true := by
 unfold qi at h
 simp only [Bool.and_eq_true] at h
 exact h.1.1.1
theorem xN {r : dW} (h : n_ r = true) {ax : Int} (hax : ax = 1 ∨ ax = 2) : 1 ≤ bM ax r ∧ bM ax r ≤ 10000 := by
 have := PL.1 h
 unfold bM
 rcases hax with rfl | rfl
 ·rw [if_pos rfl]; omega
 ·rw [if_neg (by omega), if_pos rfl]; omega
theorem AP {c x : ai} (h : lT c = true) (hx : x ∈ c.f3) : lT x = true := by
 rw [Es, Bool.and_eq_true] at h
 exact List.all_eq_true.1 h.2 x hx
theorem Xk {ax u : Int} : ∀ {l : List ai} {m : Int}, m ≤ u → (∀ x, x ∈ l → dX ax x ≤ u) → pU ax m l ≤ u := by
 intro l
 induction l with
 | nil => intro m h _; rw [su]; exact h
 | cons x xs ih =>
  intro m h hx
  rw [qK]
  exact ih (YP h (hx x (by simp))) (fun y hy => hx y (by simp [hy]))
theorem Xj {ax : Int} : ∀ {l : List ai} {m : Int}, m ≤ pU ax m l := by
 intro l
 induction l with
 | nil => intro m; rw [su]; exact Int.le_refl _
 | cons x xs ih =>
  intro m
  rw [qK]
  exact Int.le_trans (UD m (dX ax x)) ih
theorem abn {ax : Int} : ∀ {l : List ai}, (∀ x, x ∈ l → dX ax x ≤ bM ax x.f1) → nH ax l ≤ (l.map (fun k => bM ax k.f1)).sum := by
 intro l
 induction l with
 | nil => intro _; rw [uN]; exact Int.le_refl _
 | cons x xs ih =>
  intro hx
  rw [vk, List.map_cons, List.sum_cons]
  have h1 := hx x (by simp)
  have h2 := ih (fun y hy => hx y (by simp [hy]))
  omega
theorem CV {ax : Int} (hax : ax = 1 ∨ ax = 2) : ∀ (N : Nat) (c : ai), sz c ≤ N → N ≤ 20000 → (iH c).all qi = true → 1 ≤ dX ax c ∧ (lT c = true → dX ax c ≤ bM ax c.f1) := by
 intro N
 induction N with
 | zero => intro c h; rw [dL] at h; omega
 | succ N ih =>
  intro c hc hN hok
  have hs := dL c
  have hlen := jR c.f3
  have hk : ∀ x, x ∈ c.f3 → 1 ≤ dX ax x ∧ (lT x = true → dX ax x ≤ bM ax x.f1) := fun x hx => by
   refine ih x ?_ (by omega) (Jg hok hx)
   have := Vm hx
   omega
  rw [xH]
  rcases NZ (wY hok) with ⟨h1, h2⟩ | ⟨h1, h2⟩
  ·rw [if_pos h1]
   exact ⟨Int.le_refl _, fun _ => (xN (Bq (wY hok)) hax).1⟩
  ·rw [if_neg (by omega)]
   have hsum : ∀ l : List ai, (∀ x, x ∈ l → 1 ≤ dX ax x) → (l.length : Int) ≤ nH ax l := by
    intro l
    induction l with
    | nil => intro _; rw [uN]; simp
    | cons x xs ihl =>
     intro h
     have a1 := h x (by simp)
     have a2 := ihl (fun y hy => h y (by simp [hy]))
     rw [vk, List.length_cons]
     omega
   have aej := fun (ht : lT c = true) => W_ (c := c) (by rw [Es, Bool.and_eq_true] at ht; exact ht.1) h1 (by omega)
   cases ha : jC ax c.f0 with
   | true =>
    have e : c.f0 - 1 = ax := by
     unfold jC at ha
     simp at ha
     omega
    simp only [if_true]
    refine ⟨by have := hsum c.f3 (fun x hx => (hk x hx).1); omega, fun ht => ?_⟩
    obtain ⟨g1, _⟩ := aej ht
    rw [e] at g1
    have := abn (ax := ax) (l := c.f3) (fun x hx => (hk x hx).2 (AP ht hx))
    omega
   | false =>
    have e : 3 - (c.f0 - 1) = ax := by
     unfold jC at ha
     simp at ha
     omega
    simp only [Bool.false_eq_true, if_false]
    refine ⟨?_, fun ht => ?_⟩
    ·cases hl : c.f3 with
     | nil => rw [hl] at h2; simp at h2
     | cons x xs =>
      have := (hk x (by rw [hl]; simp)).1
      rw [qK]
      exact Int.le_trans this (Int.le_trans (aeB 0 _) Xj)
    ·obtain ⟨_, g2⟩ := aej ht
     rw [e] at g2
     have := xN (Bq (wY hok)) hax
     exact Xk (by omega) (fun x hx => by
      have := (hk x hx).2 (AP ht hx)
      rw [g2 x hx] at this
      exact this)
section
variable {W : World} {b : Nat} {P : Nat → Prop} {A : Option Addr} {cc : Nat}
theorem oL (c : ai) (hz : sz c ≤ 1048576) (h1 : Kd.C k26 W A 1 [c]) (h2 : 1 ≤ cc) : Calls Try.prog 148 #[.slice A 1 cc] W fun e w' => e = .returned (.bool (eP c)) ∧ Below W.heap.size W w' := by
 have h := Oq [c] (fun x hx => by rw [List.mem_singleton.1 hx]; exact hz) A cc W h1 h2
 simpa using h
theorem jG {c : ai} {v : Bool} {f : FuncId} {args : Array Value} (h : eP c = v) (hc : Calls Try.prog f args W fun e w' => e = .returned (.bool (eP c)) ∧ Below W.heap.size W w') : Calls Try.prog f args W fun e w' => e = .returned (.bool v) ∧ Below W.heap.size W w' := by
 rw [h] at hc
 exact hc
theorem mY (c : ai) (hz : sz c ≤ 1048576) (hV : Kd.V k26 26 W b P (.slice A c.f3.length cc) c.f3) :
  Calls Try.prog 84 #[.agg #[.int .u8 c.f0, .int .i64 c.f1.f0, .int .i64 c.f1.f1, .int .i64 c.f1.f2, .int .i64 c.f1.f3, .int .i64 c.f2, .slice A c.f3.length cc]] W fun e w' => e = .returned (.bool (eP c)) ∧ Below W.heap.size W w' := by
 obtain ⟨k, hk⟩ := (Og c hz).rounds
 have h := Kd.jY hV
 exact mP.calls k _ _ _ _ _ _ A cc c.f3 _ W h.2.2 h.2.1 hk
theorem BC (r : dW) (ax : Int) : Calls Try.prog 98 #[.agg #[.int .i64 r.f0, .int .i64 r.f1, .int .i64 r.f2, .int .i64 r.f3], .int .u8 ax] W fun e w' => e = .returned (.int .i64 (bM ax r)) ∧ Below W.heap.size W w' :=
 oV.calls r.f0 r.f1 r.f2 r.f3 ax _ W (J8 r ax)
end
section
variable {Pr : Program} {ops : Array Oper} {rest : List Oper} {op : Oper} {a : Act} {Q : Exit → Act → World → Prop} {w W : World} {P P' : Nat → Prop} {bs : List (Option Nat × Obj)} {ow : List (Value × List ai)} {ts : List (Value × List ai)} {ro : List (Addr × Value)}
theorem oI {N : Tmp} (hd : op.dst = some N) (hgd : op.guard = none) (x : ai) {A : Option Addr} {c b : Nat} (S : St w P bs ow ts ro W) (hV : Kd.V k26 26 W b P' (.slice A x.f3.length c) x.f3)
  (hrun : (execOp a.eval op).run Pr W = .ok (.value (.slice (some ⟨W.heap.size, 0, none⟩) 1 1)) (W.alloc (.cells (mZ x A c).toArray 26)))
  (h : ∀ A1 c1 w1, St w P bs ow ts ro w1 → 1 ≤ c1 → Kd.C k26 w1 A1 1 [x] → wpList Pr ops Q rest (a.put op.dst (.slice A1 1 c1)) w1) : wpList Pr ops Q (op :: rest) a W := by
 obtain ⟨_, hl, hF⟩ := Kd.DI hV
 refine Kd.yF k26 (w0 := W) W.heap.size 26 hgd hd (xs := [x]) (inner := mZ x A c) (ok := fun _ => True) (gm := P') hrun (bT.c7 (qh W P' x hl hF) (bT.none _ _)) (fun _ _ => trivial) trivial (Below.refl _ _) (Nat.le_refl _) (by simp) ?_
 intro v1 w1 hN _ hg _
 obtain ⟨A1, c1, rfl⟩ := Kd.jE hN
 exact h A1 c1 w1 (S.call (rY hg)) (Kd.jl hN).2.1 (Kd.jl hN).2.2
end
abbrev pK (w : World) (P : Nat → Prop) (z : ai) (n : Int) (e : Ending) (w' : World) : Prop := ∃ A c, e = .returned (.tuple #[.agg #[.int .u8 z.f0, .int .i64 z.f1.f0, .int .i64 z.f1.f1, .int .i64 z.f1.f2, .int .i64 z.f1.f3, .int .i64 z.f2, .slice A z.f3.length c], .int .i64 n]) ∧ Kd.N k26 26 w' w.heap.size (fun k => P k ∨ w.heap.size ≤ k) (.slice A z.f3.length c) z.f3 ∧ Below w.heap.size w w'
noncomputable def qZ (ax : Int) (c : ai) : Bool := !eP c || (ax != 1 && ax != 2)
noncomputable def yt (ax : Int) (c : ai) (b : Int) : Bool := decide (b < wrap64 (-(fD ax c))) || decide (b > wrap64 (10000 - bM ax ⟨0, 0, wrap64 (c.f1.f0 + c.f1.f2), wrap64 (c.f1.f1 + c.f1.f3)⟩))
noncomputable def aN (ax : Int) (c : ai) (b : Int) : Int := if qZ ax c = true then 1 else if yt ax c b = true then 7 else 0
noncomputable def aZ (ax : Int) (c : ai) (b : Int) : ai := if qZ ax c = true then z26 else if yt ax c b = true then z26 else aX (dV ax c b) c.f1.f0 c.f1.f1
theorem acB {ax : Int} {c : ai} {b : Int} (h1 : qZ ax c = false) (h2 : yt ax c b = false) : eP c = true ∧ (ax = 1 ∨ ax = 2) ∧ sz c ≤ 20000 ∧ -10000 ≤ b ∧ b ≤ 10000 ∧ -(fD ax c) ≤ b ∧ fD ax c = bM ax c.f1 - dX ax c ∧ bM ax c.f1 + b ≤ 10000 := by
 unfold qZ at h1
 simp only [Bool.or_eq_false_iff, Bool.not_eq_false', Bool.and_eq_false_iff, bne_eq_false_iff_eq] at h1
 obtain ⟨ht, hax⟩ := h1
 have hm := qA ht
 have hs := oZ hm
 have hB : lT c = true := by
  unfold eP at ht
  simp only [Bool.and_eq_true] at ht
  exact ht.2
 have f := (CV hax (sz c) c (Nat.le_refl _) hs (xI hm)).2 hB
 have f1 := (CV hax (sz c) c (Nat.le_refl _) hs (xI hm)).1
 have hr := Bq (wY (xI hm))
 have r := xN hr hax
 have hg : fD ax c = bM ax c.f1 - dX ax c := by
  unfold fD
  rw [if_pos ⟨hax, ht⟩]
  unfold wrap64
  omega
 unfold yt at h2
 simp only [Bool.or_eq_false_iff, decide_eq_false_iff_not] at h2
 have hw1 : wrap64 (-(fD ax c)) = -(fD ax c) := by rw [hg]; unfold wrap64; omega
 have hq : 0 ≤ c.f1.f0 ∧ 0 ≤ c.f1.f1 ∧ c.f1.f0 + c.f1.f2 ≤ 10000 ∧ c.f1.f1 + c.f1.f3 ≤ 10000 ∧ 1 ≤ c.f1.f2 ∧ 1 ≤ c.f1.f3 := by
  unfold n_ rZ at hr
  simp only [Bool.and_eq_true, decide_eq_true_eq] at hr
  omega
 have he : bM ax ⟨0, 0, wrap64 (c.f1.f0 + c.f1.f2), wrap64 (c.f1.f1 + c.f1.f3)⟩ = (if ax = 1 then c.f1.f0 else c.f1.f1) + bM ax c.f1 := by
  unfold bM
  rcases hax with rfl | rfl
  ·simp only [if_true]; unfold wrap64; omega
  ·simp only [show ¬ ((2 : Int) = 1) by decide, if_false, if_true]; unfold wrap64; omega
 rw [hw1, he] at h2
 have hw2 : wrap64 (10000 - ((if ax = 1 then c.f1.f0 else c.f1.f1) + bM ax c.f1)) = 10000 - ((if ax = 1 then c.f1.f0 else c.f1.f1) + bM ax c.f1) := by unfold wrap64; split <;> omega
 rw [hw2] at h2
 refine ⟨ht, hax, hs, ?_, ?_, ?_, hg, ?_⟩ <;> (split at h2 <;> omega)
def uu.T6 : Bool × List (List Nat × List Nat) := (true, [([], []), ([0], [0]), ([], []), ([1, 2], [1, 2]), ([3], [3]), ([], []), ([], []), ([6], [6]), ([4, 5, 7], [4, 5, 7]), ([8], [8]), ([9], [9]), ([9], [9]), ([], []), ([12, 10, 8, 0, 1, 2, 3, 4, 5, 6, 7, 8, 9, 10, 12], [10, 12]), ([11, 13, 0, 1, 2, 3, 4, 5, 6, 7, 8, 9, 10, 11, 12, 13], [11])])
def uu.B6 : List Nat := [0, 1, 0, 7, 15, 0, 0, 64, 255, 511, 1023, 1023, 0, 6143, 16383]
theorem uu.tab6 : iY .any (opsOf Try.f102 6) = uu.T6 := by kernel_rfl
theorem uu.yH : iI uu.T6.2 uu.B6 = true := by kernel_rfl
def ry (kid : ai) : List Int → ai → Option ai
 | [], _ => some kid
 | i :: is, c => if i < 0 ∨ i ≥ (c.f3.length : Int) then none else match ry kid is (aG c.f3 i) with
  | none => none
  | some k => some ⟨c.f0, c.f1, c.f2, c.f3.set i.toNat k⟩
abbrev VP (w : World) (P : Nat → Prop) : Option ai → Ending → World → Prop
 | none, e, w' => e = .returned (.tuple #[.agg #[.int .u8 0, .int .i64 0, .int .i64 0, .int .i64 0, .int .i64 0, .int .i64 0, .slice none 0 0], .bool false]) ∧ Below w.heap.size w w'
 | some z, e, w' => ∃ A c, e = .returned (.tuple #[.agg #[.int .u8 z.f0, .int .i64 z.f1.f0, .int .i64 z.f1.f1, .int .i64 z.f1.f2, .int .i64 z.f1.f3, .int .i64 z.f2, .slice A z.f3.length c], .bool true]) ∧ Kd.N k26 26 w' w.heap.size (fun k => P k ∨ w.heap.size ≤ k) (.slice A z.f3.length c) z.f3 ∧ Below w.heap.size w w'
theorem aeL : ∀ (is : List Int) (c kid : ai) (P : Nat → Prop) (A : Option Addr) (cc : Nat) (Ak : Option Addr) (jJ : Nat) (B : Option Addr) (cb : Nat) (w : World), sz c ≤ 1000000 → sz kid ≤ 1000000 →
  Kd.V k26 26 w w.heap.size P (.slice A c.f3.length cc) c.f3 → Kd.V k26 26 w w.heap.size P (.slice Ak kid.f3.length jJ) kid.f3 → Kd.C (Kd.int .i64) w B is.length is → is.length ≤ cb →
  Calls Try.prog 102 #[.agg #[.int .u8 c.f0, .int .i64 c.f1.f0, .int .i64 c.f1.f1, .int .i64 c.f1.f2, .int .i64 c.f1.f3, .int .i64 c.f2, .slice A c.f3.length cc], .agg #[.int .u8 kid.f0, .int .i64 kid.f1.f0, .int .i64 kid.f1.f1, .int .i64 kid.f1.f2, .int .i64 kid.f1.f3, .int .i64 kid.f2, .slice Ak kid.f3.length jJ], .slice B is.length cb] w (VP w P (ry kid is c)) := by
 intro is
 induction is with
 | nil =>
  intro c kid P A cc Ak jJ B cb w hz Ux hv hvk hi hb
  show Calls Try.prog 102 #[.agg #[.int .u8 c.f0, .int .i64 c.f1.f0, .int .i64 c.f1.f1, .int .i64 c.f1.f2, .int .i64 c.f1.f3, .int .i64 c.f2, .slice A c.f3.length cc], .agg #[.int .u8 kid.f0, .int .i64 kid.f1.f0, .int .i64 kid.f1.f1, .int .i64 kid.f1.f2, .int .i64 kid.f1.f3, .int .i64 kid.f2, .slice Ak kid.f3.length jJ], .slice B 0 cb] w (VP w P (some kid))
  have S := ae.mk (St.start (ts := [(.slice A c.f3.length cc, c.f3), (.slice Ak kid.f3.length jJ, kid.f3)]) (b0 := w.heap.size) (w := w) (P := P) (fun t ht => by
   rcases List.mem_cons.1 ht with rfl | ht
   ·exact hv
   ·rw [List.mem_singleton.1 ht]; exact hvk))
  have HZ := ae.mk hz
  have HZK := ae.mk Ux
  clear hz Ux hv hvk hi hb
  obtain ⟨ck, ⟨cx, cy, cw, ch⟩, ay, l⟩ := c
  obtain ⟨kk, ⟨kx, ky, kw, kh⟩, kid, m⟩ := kid
  simp only [] at S ⊢
  go_enter Try.func102, Try.ntmps102
  go_wp2_with (first
   | ((with_reducible refine aj 3 rfl ?_); refine boxS 3 #[.int .u8 ck, .int .i64 cx, .int .i64 cy, .int .i64 cw, .int .i64 ch, .int .i64 ay, .slice A l.length cc] 26 S ?_; clear S; intro b3 eH S)
   | ((with_reducible refine aj 4 rfl ?_); refine boxS 4 #[.int .u8 kk, .int .i64 kx, .int .i64 ky, .int .i64 kw, .int .i64 kh, .int .i64 kid, .slice Ak m.length jJ] 26 S ?_; clear S; intro b4 fG S)
   | ((with_reducible refine aj 6 rfl ?_); refine boxS 6 #[.int .u8 0, .int .i64 0, .int .i64 0, .int .i64 0, .int .i64 0, .int .i64 0, .slice none 0 0] 26 S ?_; clear S; intro b6 gV S; obtain ⟨BU, BV, BX, BZ, B_, Cb, Cc⟩ := St.eY S (.tail _ (.head _)))
   | ((with_reducible refine aj 15 rfl ?_); refine kR (some 15) Try.func151 (FT 1000000 ⟨kk, ⟨kx, ky, kw, kh⟩, kid, m⟩ HZK.out (Nat.le_refl _) _ Ak jJ _ (S.out.tree _ (.tail _ (.head _)))) ?_; rintro e jB ⟨v, rfl, h1, hb⟩; refine ⟨_, rfl, ?_⟩; obtain ⟨abT, ac7, ev⟩ := Kd.jE h1; subst ev; replace S := ae.mk (S.out.Df h1 hb); clear h1 hb; clear BU BV BX BZ B_ Cb Cc)
   | ((with_reducible refine dB 26 (.tmp 6) (.tmp 15) rfl ?_); refine gI 26 6 15 #[.int .u8 kk, .int .i64 kx, .int .i64 ky, .int .i64 kw, .int .i64 kh, .int .i64 kid, .slice abT m.length ac7] 0 7 S ?_; clear S; intro lQ S)
   | fail)
  refine bodyPost_ret (bK rfl _ _ b6 26 #[.int .u8 kk, .int .i64 kx, .int .i64 ky, .int .i64 kw, .int .i64 kh, .int .i64 kid, .slice abT m.length ac7] (0, 0) _ rfl (S.out.blk _ (.head _) _ rfl) Try.underlying26 rfl (by kernel_rfl)) rfl ?_
  exact ⟨_, _, rfl, S.out.tK, S.out.below⟩
 | cons i is ih =>
  intro c kid P A cc Ak jJ B cb w hz Ux hv hvk hi hb
  have IH := ae.mk ih
  have HI := ae.mk hi
  have LI := ae.mk hb
  have S := ae.mk (St.start (ts := [(.slice A c.f3.length cc, c.f3), (.slice Ak kid.f3.length jJ, kid.f3)]) (b0 := w.heap.size) (w := w) (P := P) (fun t ht => by
   rcases List.mem_cons.1 ht with rfl | ht
   ·exact hv
   ·rw [List.mem_singleton.1 ht]; exact hvk))
  obtain ⟨wJ, rfl, xi⟩ := Kd.iq hi 0 (by omega) (by simp)
  rw [show ((0 : Int)).toNat = 0 from rfl, Addr.add_zero'] at xi
  have xi : w.cell? wJ = some (.int .i64 i) := xi
  replace S := ae.mk (S.out.Ir xi)
  have hlen0 : (0 : Int) < ((is.length : Int) + 1) := by omega
  have hl0 : ((is.length + 1 : Nat) : Int) = (is.length : Int) + 1 := by omega
  have HZ := ae.mk hz
  have HZK := ae.mk Ux
  clear ih hv hvk hi hb xi hz Ux
  simp only [ry]
  obtain ⟨ck, ⟨cx, cy, cw, ch⟩, ay, l⟩ := c
  obtain ⟨kk, ⟨kx, ky, kw, kh⟩, kid, m⟩ := kid
  simp only [] at S ⊢
  simp only [List.length_cons] at HI LI ⊢
  by_cases h0 : i < 0
  ·rw [if_pos (.inl h0)]
   have uk : decide (i < 0) = true := decide_eq_true h0
   go_enter Try.func102, Try.ntmps102
   go_wp2_with (first
    | ((with_reducible refine aj 3 rfl ?_); refine boxS 3 #[.int .u8 ck, .int .i64 cx, .int .i64 cy, .int .i64 cw, .int .i64 ch, .int .i64 ay, .slice A l.length cc] 26 S ?_; clear S; intro b3 eH S)
    | ((with_reducible refine aj 4 rfl ?_); refine boxS 4 #[.int .u8 kk, .int .i64 kx, .int .i64 ky, .int .i64 kw, .int .i64 kh, .int .i64 kid, .slice Ak m.length jJ] 26 S ?_; clear S; intro b4 fG S)
    | ((with_reducible refine aj 6 rfl ?_); refine boxS 6 #[.int .u8 0, .int .i64 0, .int .i64 0, .int .i64 0, .int .i64 0, .int .i64 0, .slice none 0 0] 26 S ?_; clear S; intro b6 gV S; have gY := (S.out.cell _ (.head _)).1)
    | ((with_reducible refine dB 26 (.tmp 6) (.tmp 28) rfl ?_); refine gI 26 6 28 #[.int .u8 0, .int .i64 0, .int .i64 0, .int .i64 0, .int .i64 0, .int .i64 0, .slice none 0 0] 0 7 S ?_; clear S; intro jB S; clear gY)
    | fail)
   refine bodyPost_ret (bK rfl _ _ b6 26 #[.int .u8 0, .int .i64 0, .int .i64 0, .int .i64 0, .int .i64 0, .int .i64 0, .slice none 0 0] (0, 0) _ rfl (S.out.blk _ (.head _) _ rfl) Try.underlying26 rfl (by kernel_rfl)) rfl ?_
   exact ⟨rfl, S.out.below⟩
  ·by_cases h1 : i ≥ (l.length : Int)
   ·rw [if_pos (.inr h1)]
    have uk : decide (i < 0) = false := decide_eq_false h0
    have h1b : decide (i ≥ (l.length : Int)) = true := decide_eq_true h1
    have h1c : decide ((l.length : Int) ≤ i) = true := decide_eq_true h1
    go_enter Try.func102, Try.ntmps102
    go_wp2_with (first
     | ((with_reducible refine aj 3 rfl ?_); refine boxS 3 #[.int .u8 ck, .int .i64 cx, .int .i64 cy, .int .i64 cw, .int .i64 ch, .int .i64 ay, .slice A l.length cc] 26 S ?_; clear S; intro b3 eH S)
     | ((with_reducible refine aj 4 rfl ?_); refine boxS 4 #[.int .u8 kk, .int .i64 kx, .int .i64 ky, .int .i64 kw, .int .i64 kh, .int .i64 kid, .slice Ak m.length jJ] 26 S ?_; clear S; intro b4 fG S)
     | ((with_reducible refine aj 6 rfl ?_); refine boxS 6 #[.int .u8 0, .int .i64 0, .int .i64 0, .int .i64 0, .int .i64 0, .int .i64 0, .slice none 0 0] 26 S ?_; clear S; intro b6 gV S; have gY := (S.out.cell _ (.head _)).1; have bg := (S.out.at (.tail _ (.tail _ (.head _))) 6).trans rfl)
     | ((with_reducible refine dB 26 (.tmp 6) (.tmp 28) rfl ?_); refine gI 26 6 28 #[.int .u8 0, .int .i64 0, .int .i64 0, .int .i64 0, .int .i64 0, .int .i64 0, .slice none 0 0] 0 7 S ?_; clear S; intro jB S; clear gY bg)
     | fail)
    refine bodyPost_ret (bK rfl _ _ b6 26 #[.int .u8 0, .int .i64 0, .int .i64 0, .int .i64 0, .int .i64 0, .int .i64 0, .slice none 0 0] (0, 0) _ rfl (S.out.blk _ (.head _) _ rfl) Try.underlying26 rfl (by kernel_rfl)) rfl ?_
    exact ⟨rfl, S.out.below⟩
   ·rw [if_neg (fun h => h.elim h0 h1)]
    have uk : decide (i < 0) = false := decide_eq_false h0
    have h1b : decide (i ≥ (l.length : Int)) = false := decide_eq_false h1
    have h1c : decide ((l.length : Int) ≤ i) = false := decide_eq_false h1
    have h0z : 0 ≤ i := by omega
    have h1z : i < (l.length : Int) := by omega
    obtain ⟨dM, ua, uc, ek, S1⟩ := S.out.elem (.head _) i h0z h1z
    subst ek
    replace S := ae.mk S1
    have tq := ae.mk (show sz (aG l i) ≤ 1000000 by have := xQ (H6 l i h0z h1z); have := HZ.out; rw [dL] at this; simp only [] at this; omega)
    clear S1
    generalize aG l i = k at S tq ⊢
    obtain ⟨i0, hi0, _, hsz, _⟩ := info_parts info3
    have hcut := FW (P := Try.prog) 41 3 .i64 Try.underlying41 hi0 1 hsz (some wJ) (is.length + 1) cb 1 (by omega) (by omega)
    have hdrop := Kd.KP HI.out (m := 1) (by rw [List.length_cons]; omega) LI.out
    obtain ⟨A2, hA2⟩ : ∃ A2, A2 = (if cb = (1 : Int).toNat then (some wJ) else ((some wJ) : Option Addr).map (·.add ((1 : Int).toNat * 1))) := ⟨_, rfl⟩
    obtain ⟨c2, hc2⟩ : ∃ c2, c2 = cb - (1 : Int).toNat := ⟨_, rfl⟩
    rw [← hA2, ← hc2, show is.length + 1 - (1 : Int).toNat = is.length by simp] at hcut
    have HI2 := ae.mk (show Kd.C (Kd.int .i64) w A2 is.length is by rw [hA2]; exact hdrop)
    have Sm := ae.mk (show is.length ≤ c2 by have h3 := LI.out; rw [hc2]; simp; omega)
    have Dy := ae.mk hcut
    clear hdrop hA2 hc2 hi0 hsz hcut h0 h1
    have RQ := ae.mk h0z
    have RS := ae.mk h1z
    have wI := fun Q W h1 h2 h3 => IH.out k ⟨kk, ⟨kx, ky, kw, kh⟩, kid, m⟩ Q ua uc Ak jJ A2 c2 W tq.out HZK.out h1 h2 h3 Sm.out
    cases hp : ry ⟨kk, ⟨kx, ky, kw, kh⟩, kid, m⟩ is k with
    | none =>
     simp only [hp] at wI ⊢
     have hcut := Dy.out
     go_enter Try.func102, Try.ntmps102
     go_wp2_with (first
      | ((with_reducible refine aj 3 rfl ?_); refine boxS 3 #[.int .u8 ck, .int .i64 cx, .int .i64 cy, .int .i64 cw, .int .i64 ch, .int .i64 ay, .slice (some dM) l.length cc] 26 S ?_; clear S; intro b3 eH S)
      | ((with_reducible refine aj 4 rfl ?_); refine boxS 4 #[.int .u8 kk, .int .i64 kx, .int .i64 ky, .int .i64 kw, .int .i64 kh, .int .i64 kid, .slice Ak m.length jJ] 26 S ?_; clear S; intro b4 fG S)
      | ((with_reducible refine aj 6 rfl ?_); refine boxS 6 #[.int .u8 0, .int .i64 0, .int .i64 0, .int .i64 0, .int .i64 0, .int .i64 0, .slice none 0 0] 26 S ?_; clear S; intro b6 gV S; have wK := (S.out.cell _ (.tail _ (.tail _ (.tail _ (.tail _ (.tail _ (.tail _ (.tail _ (.head _))))))))).1; have bg := (S.out.at (.tail _ (.tail _ (.head _))) 6).trans rfl)
      | fail)
     clear wK bg
     refine iR (n := 15) (S := fun w' => St w _ _ _ _ _ w') (ds := [13]) (bA 15 0) (by kernel_rfl) rfl rfl (S.out.call (bC (Below.refl _ _))) (fun hHeld => ?_); refine fJ uu.tab6 uu.yH (fun ak dZ => ?_)
     replace S := ae.mk (S.out.call (bC (Below.refl _ _)))
     generalize gV.drew = wd4 at S hHeld ⊢
     refine au 0 30 (bA 15 1) ak ?_
     refine dE 1 31 (bA 15 3) ak dZ hHeld ?_ (hv := by intro w' hs_; have bg := (hs_.at (.tail _ (.tail _ (.head _))) 6).trans rfl; go_simp; with_reducible rfl)
     refine au 2 32 (bA 15 7) ak ?_
     refine au 3 33 (bA 15 15) ak ?_
     refine dE 4 34 (bA 15 31) ak dZ hHeld ?_ (hv := by intro w' hs_; have gY := (hs_.cell _ (.head _)).1; have iM := (hs_.cell _ (.tail _ (.head _))).1; have iO := (hs_.cell _ (.tail _ (.tail _ (.head _)))).1; have iC := (hs_.cell _ (.tail _ (.tail _ (.tail _ (.head _))))).1; have iD := (hs_.cell _ (.tail _ (.tail _ (.tail _ (.tail _ (.head _)))))).1; have jv := (hs_.cell _ (.tail _ (.tail _ (.tail _ (.tail _ (.tail _ (.head _))))))).1; have jw := (hs_.cell _ (.tail _ (.tail _ (.tail _ (.tail _ (.tail _ (.tail _ (.head _)))))))).1; go_simp; with_reducible rfl)
     refine dE 5 35 (bA 15 63) ak dZ hHeld ?_ (hv := by intro w' hs_; have BU := (hs_.at (.tail _ (.head _)) 0).trans rfl; have BV := (hs_.at (.tail _ (.head _)) 1).trans rfl; have BX := (hs_.at (.tail _ (.head _)) 2).trans rfl; have BZ := (hs_.at (.tail _ (.head _)) 3).trans rfl; have B_ := (hs_.at (.tail _ (.head _)) 4).trans rfl; have Cb := (hs_.at (.tail _ (.head _)) 5).trans rfl; have Cc := (hs_.at (.tail _ (.head _)) 6).trans rfl; go_simp; with_reducible rfl)
     refine au 6 36 (bA 15 127) ak ?_
     refine au 7 37 (bA 15 255) ak ?_
     refine EU (σ := Nat) 2 (bA 15 8191) (fun s_ => [(38, .tuple #[.agg #[.int .u8 0, .int .i64 0, .int .i64 0, .int .i64 0, .int .i64 0, .int .i64 0, .slice none 0 0], .bool false]), (29, .tuple #[.agg #[.int .u8 0, .int .i64 0, .int .i64 0, .int .i64 0, .int .i64 0, .int .i64 0, .slice none 0 0], .bool false]), (39, .agg #[.int .u8 0, .int .i64 0, .int .i64 0, .int .i64 0, .int .i64 0, .int .i64 0, .slice none 0 0]), (40, .bool false), (9, .pointer (some ⟨s_, 0, none⟩))]) (fun s_ w' => St w P [(some s_, .cells #[.int .u8 0, .int .i64 0, .int .i64 0, .int .i64 0, .int .i64 0, .int .i64 0, .slice none 0 0] 26 (0, 0)), (some b6, .cells #[.int .u8 0, .int .i64 0, .int .i64 0, .int .i64 0, .int .i64 0, .int .i64 0, .slice none 0 0] 26 (0, 0)), (some b4, .cells #[.int .u8 kk, .int .i64 kx, .int .i64 ky, .int .i64 kw, .int .i64 kh, .int .i64 kid, .slice Ak m.length jJ] 26 (0, 0)), (some b3, .cells #[.int .u8 ck, .int .i64 cx, .int .i64 cy, .int .i64 cw, .int .i64 ch, .int .i64 ay, .slice (some dM) l.length cc] 26 (0, 0))] [] [(.slice ua k.f3.length uc, k.f3), (.slice (some dM) l.length cc, l), (.slice Ak m.length jJ, m)] [((dM.add (i.toNat * 7)), .int .u8 k.f0), (⟨(dM.add (i.toNat * 7)).block, (dM.add (i.toNat * 7)).off + 1, none⟩, .int .i64 k.f1.f0), (⟨(dM.add (i.toNat * 7)).block, (dM.add (i.toNat * 7)).off + 2, none⟩, .int .i64 k.f1.f1), (⟨(dM.add (i.toNat * 7)).block, (dM.add (i.toNat * 7)).off + 3, none⟩, .int .i64 k.f1.f2), (⟨(dM.add (i.toNat * 7)).block, (dM.add (i.toNat * 7)).off + 4, none⟩, .int .i64 k.f1.f3), (⟨(dM.add (i.toNat * 7)).block, (dM.add (i.toNat * 7)).off + 5, none⟩, .int .i64 k.f2), (⟨(dM.add (i.toNat * 7)).block, (dM.add (i.toNat * 7)).off + 6, none⟩, .slice ua k.f3.length uc), (wJ, .int .i64 i)] w') ?_ ?_
     rotate_left
     ·intro mi
      refine AQ (i := 8) (j := 12) (Ni := some 38) (Nj := some 9) (bA 15 511) (bA 15 4351) rfl rfl rfl rfl (uC ak.out (by kernel_rfl)) (by decide) (by decide) (fun K hK => ?_) (fun K hK => ?_)
      ·skip
       refine fK Try.func102 (by kernel_rfl) rfl #[.agg #[.int .u8 k.f0, .int .i64 k.f1.f0, .int .i64 k.f1.f1, .int .i64 k.f1.f2, .int .i64 k.f1.f3, .int .i64 k.f2, .slice ua k.f3.length uc], .agg #[.int .u8 kk, .int .i64 kx, .int .i64 ky, .int .i64 kw, .int .i64 kh, .int .i64 kid, .slice Ak m.length jJ], .slice A2 is.length c2] (by rfl) rfl rfl (by (try simp only [List.map_toArray, List.map_cons, List.map_nil]); first | done | rfl) ?_
       refine (wI _ _ (dO (S.out.tree _ (.head _))) (dO (S.out.tree _ (.tail _ (.tail _ (.head _))))) (Kd.fC HI2.out S.out.below)).mono ?_
       rintro e lQ ⟨rfl, hb⟩
       refine ⟨_, rfl, ?_⟩
       replace S := ae.mk (S.out.call hb)
       clear hb
       refine hK.out _ _ S.out (fun hHeld => ?_)
       clear hK K
       refine dR 38 ?_
       refine au 9 29 (bA 15 1023) ak ?_
       refine au 10 39 (bA 15 2047) ak ?_
       refine au 11 40 (bA 15 4095) ak ?_
       refine gU (i := 12) (N := some 9) (bA 15 8191) rfl rfl (bY ak.out (by kernel_rfl)) (by decide) (fun K hK => ?_)
       refine kL ?hg (N := 9) ?hd (cs := #[.int .u8 0, .int .i64 0, .int .i64 0, .int .i64 0, .int .i64 0, .int .i64 0, .slice none 0 0]) (t := 26) ?hr ?_; (case hd => rfl); (case hg => rfl); (case hr => first | (go_simp; done) | (go_simp; rfl))
       intro b9 hg rG hbox hb
       replace S := ae.mk (S.out.box hg hbox hb)
       clear hg hbox hb
       refine hK.out _ _ S.out.eF (fun hHeld => ?_)
       clear hK K
       refine dR 9 ?_
       exact mr (by simp only [jM, Act.put, List.setIfInBounds_toArray, List.set_cons_zero, List.set_cons_succ] <;> rfl) (mi b9 _ S.out)
      ·skip
       refine kL ?hg (N := 9) ?hd (cs := #[.int .u8 0, .int .i64 0, .int .i64 0, .int .i64 0, .int .i64 0, .int .i64 0, .slice none 0 0]) (t := 26) ?hr ?_; (case hd => rfl); (case hg => rfl); (case hr => first | (go_simp; done) | (go_simp; rfl))
       intro b9 hg vG hbox hb
       replace S := ae.mk (S.out.box hg hbox hb)
       clear hg hbox hb
       refine hK.out _ _ S.out.eF (fun hHeld => ?_)
       clear hK K
       refine dR 9 ?_
       refine gU (i := 8) (N := some 38) (bA 15 4607) rfl rfl (bY ak.out (by kernel_rfl)) (by decide) (fun K hK => ?_)
       refine fK Try.func102 (by kernel_rfl) rfl #[.agg #[.int .u8 k.f0, .int .i64 k.f1.f0, .int .i64 k.f1.f1, .int .i64 k.f1.f2, .int .i64 k.f1.f3, .int .i64 k.f2, .slice ua k.f3.length uc], .agg #[.int .u8 kk, .int .i64 kx, .int .i64 ky, .int .i64 kw, .int .i64 kh, .int .i64 kid, .slice Ak m.length jJ], .slice A2 is.length c2] (by rfl) rfl rfl (by (try simp only [List.map_toArray, List.map_cons, List.map_nil]); first | done | rfl) ?_
       refine (wI _ _ (dO (S.out.tree _ (.head _))) (dO (S.out.tree _ (.tail _ (.tail _ (.head _))))) (Kd.fC HI2.out S.out.below)).mono ?_
       rintro e yf ⟨rfl, hb⟩
       refine ⟨_, rfl, ?_⟩
       replace S := ae.mk (S.out.call hb)
       clear hb
       refine hK.out _ _ S.out.eF (fun hHeld => ?_)
       clear hK K
       refine dR 38 ?_
       refine au 9 29 (bA 15 5119) ak ?_
       refine au 10 39 (bA 15 6143) ak ?_
       refine au 11 40 (bA 15 8191) ak ?_
       exact mr (by simp only [jM, Act.put, List.setIfInBounds_toArray, List.set_cons_zero, List.set_cons_succ] <;> rfl) (mi b9 _ S.out)
     intro b9 wj9 S1
     simp only [jM, Act.put, List.setIfInBounds_toArray, List.set_cons_zero, List.set_cons_succ]
     replace S := ae.mk S1
     clear S1 hHeld
     have hHeld := S.out.eF
     refine mO (i := 13) (N := none) (bA 15 16383) rfl rfl (bY ak.out (by kernel_rfl)) (by decide) (fun K hK => ?_)
     refine oJ 0 rfl 26 (.tmp 9) (.tmp 39) rfl #[.int .u8 0, .int .i64 0, .int .i64 0, .int .i64 0, .int .i64 0, .int .i64 0, .slice none 0 0] (j := 0) (u := .agg #[.int .u8 0, .int .i64 0, .int .i64 0, .int .i64 0, .int .i64 0, .int .i64 0, .slice none 0 0]) (bP := [.int .u8 0, .int .i64 0, .int .i64 0, .int .i64 0, .int .i64 0, .int .i64 0, .slice none 0 0]) S.out (by rfl) rfl rfl rfl rfl (by kernel_rfl) (by simp [Value.oneCell']) (by first | decide | simp) rfl ?_
     intro zI S1
     simp only [List.set_cons_zero, List.set_cons_succ] at S1
     replace S := ae.mk S1
     clear S1
     refine hK.out _ _ ?_
     clear hK K
     refine au 14 10 (bA 15 32767) ak ?_
     refine jI (gQ ak.out (by kernel_rfl)) ?_
     clear hHeld
     go_wp2_with (first
      | ((with_reducible refine dB 26 (.tmp 6) (.tmp 43) rfl ?_); refine oh 26 6 43 #[.int .u8 0, .int .i64 0, .int .i64 0, .int .i64 0, .int .i64 0, .int .i64 0, .slice none 0 0] 0 7 S ?_; clear S; intro yB S)
      | fail)
     refine bodyPost_ret (bK rfl _ _ b6 26 #[.int .u8 0, .int .i64 0, .int .i64 0, .int .i64 0, .int .i64 0, .int .i64 0, .slice none 0 0] (0, 0) _ rfl (S.out.blk _ (.tail _ (.head _)) _ rfl) Try.underlying26 rfl (by kernel_rfl)) rfl ?_
     exact ⟨rfl, S.out.below⟩
    | some z =>
     simp only [hp] at wI ⊢
     have hcut := Dy.out
     go_enter Try.func102, Try.ntmps102
     go_wp2_with (first
      | ((with_reducible refine aj 3 rfl ?_); refine boxS 3 #[.int .u8 ck, .int .i64 cx, .int .i64 cy, .int .i64 cw, .int .i64 ch, .int .i64 ay, .slice (some dM) l.length cc] 26 S ?_; clear S; intro b3 eH S)
      | ((with_reducible refine aj 4 rfl ?_); refine boxS 4 #[.int .u8 kk, .int .i64 kx, .int .i64 ky, .int .i64 kw, .int .i64 kh, .int .i64 kid, .slice Ak m.length jJ] 26 S ?_; clear S; intro b4 fG S)
      | ((with_reducible refine aj 6 rfl ?_); refine boxS 6 #[.int .u8 0, .int .i64 0, .int .i64 0, .int .i64 0, .int .i64 0, .int .i64 0, .slice none 0 0] 26 S ?_; clear S; intro b6 gV S; have wK := (S.out.cell _ (.tail _ (.tail _ (.tail _ (.tail _ (.tail _ (.tail _ (.tail _ (.head _))))))))).1; have bg := (S.out.at (.tail _ (.tail _ (.head _))) 6).trans rfl)
      | fail)
     clear wK bg
     refine iR (n := 15) (S := fun w' => St w _ _ _ _ _ w') (ds := [13]) (bA 15 0) (by kernel_rfl) rfl rfl (S.out.call (bC (Below.refl _ _))) (fun hHeld => ?_); refine fJ uu.tab6 uu.yH (fun ak dZ => ?_)
     replace S := ae.mk (S.out.call (bC (Below.refl _ _)))
     generalize gV.drew = wd4 at S hHeld ⊢
     refine au 0 30 (bA 15 1) ak ?_
     refine dE 1 31 (bA 15 3) ak dZ hHeld ?_ (hv := by intro w' hs_; have bg := (hs_.at (.tail _ (.tail _ (.head _))) 6).trans rfl; go_simp; with_reducible rfl)
     refine au 2 32 (bA 15 7) ak ?_
     refine au 3 33 (bA 15 15) ak ?_
     refine dE 4 34 (bA 15 31) ak dZ hHeld ?_ (hv := by intro w' hs_; have gY := (hs_.cell _ (.head _)).1; have iM := (hs_.cell _ (.tail _ (.head _))).1; have iO := (hs_.cell _ (.tail _ (.tail _ (.head _)))).1; have iC := (hs_.cell _ (.tail _ (.tail _ (.tail _ (.head _))))).1; have iD := (hs_.cell _ (.tail _ (.tail _ (.tail _ (.tail _ (.head _)))))).1; have jv := (hs_.cell _ (.tail _ (.tail _ (.tail _ (.tail _ (.tail _ (.head _))))))).1; have jw := (hs_.cell _ (.tail _ (.tail _ (.tail _ (.tail _ (.tail _ (.tail _ (.head _)))))))).1; go_simp; with_reducible rfl)
     refine dE 5 35 (bA 15 63) ak dZ hHeld ?_ (hv := by intro w' hs_; have BU := (hs_.at (.tail _ (.head _)) 0).trans rfl; have BV := (hs_.at (.tail _ (.head _)) 1).trans rfl; have BX := (hs_.at (.tail _ (.head _)) 2).trans rfl; have BZ := (hs_.at (.tail _ (.head _)) 3).trans rfl; have B_ := (hs_.at (.tail _ (.head _)) 4).trans rfl; have Cb := (hs_.at (.tail _ (.head _)) 5).trans rfl; have Cc := (hs_.at (.tail _ (.head _)) 6).trans rfl; go_simp; with_reducible rfl)
     refine au 6 36 (bA 15 127) ak ?_
     refine au 7 37 (bA 15 255) ak ?_
     refine EU (σ := Option Addr × Nat × Nat) 2 (bA 15 8191) (fun s_ => [(38, .tuple #[.agg #[.int .u8 z.f0, .int .i64 z.f1.f0, .int .i64 z.f1.f1, .int .i64 z.f1.f2, .int .i64 z.f1.f3, .int .i64 z.f2, .slice s_.1 z.f3.length s_.2.1], .bool true]), (29, .tuple #[.agg #[.int .u8 z.f0, .int .i64 z.f1.f0, .int .i64 z.f1.f1, .int .i64 z.f1.f2, .int .i64 z.f1.f3, .int .i64 z.f2, .slice s_.1 z.f3.length s_.2.1], .bool true]), (39, .agg #[.int .u8 z.f0, .int .i64 z.f1.f0, .int .i64 z.f1.f1, .int .i64 z.f1.f2, .int .i64 z.f1.f3, .int .i64 z.f2, .slice s_.1 z.f3.length s_.2.1]), (40, .bool true), (9, .pointer (some ⟨s_.2.2, 0, none⟩))]) (fun s_ w' => St w P [(some s_.2.2, .cells #[.int .u8 0, .int .i64 0, .int .i64 0, .int .i64 0, .int .i64 0, .int .i64 0, .slice none 0 0] 26 (0, 0)), (some b6, .cells #[.int .u8 0, .int .i64 0, .int .i64 0, .int .i64 0, .int .i64 0, .int .i64 0, .slice none 0 0] 26 (0, 0)), (some b4, .cells #[.int .u8 kk, .int .i64 kx, .int .i64 ky, .int .i64 kw, .int .i64 kh, .int .i64 kid, .slice Ak m.length jJ] 26 (0, 0)), (some b3, .cells #[.int .u8 ck, .int .i64 cx, .int .i64 cy, .int .i64 cw, .int .i64 ch, .int .i64 ay, .slice (some dM) l.length cc] 26 (0, 0))] [] [(.slice s_.1 z.f3.length s_.2.1, z.f3), (.slice ua k.f3.length uc, k.f3), (.slice (some dM) l.length cc, l), (.slice Ak m.length jJ, m)] [((dM.add (i.toNat * 7)), .int .u8 k.f0), (⟨(dM.add (i.toNat * 7)).block, (dM.add (i.toNat * 7)).off + 1, none⟩, .int .i64 k.f1.f0), (⟨(dM.add (i.toNat * 7)).block, (dM.add (i.toNat * 7)).off + 2, none⟩, .int .i64 k.f1.f1), (⟨(dM.add (i.toNat * 7)).block, (dM.add (i.toNat * 7)).off + 3, none⟩, .int .i64 k.f1.f2), (⟨(dM.add (i.toNat * 7)).block, (dM.add (i.toNat * 7)).off + 4, none⟩, .int .i64 k.f1.f3), (⟨(dM.add (i.toNat * 7)).block, (dM.add (i.toNat * 7)).off + 5, none⟩, .int .i64 k.f2), (⟨(dM.add (i.toNat * 7)).block, (dM.add (i.toNat * 7)).off + 6, none⟩, .slice ua k.f3.length uc), (wJ, .int .i64 i)] w') ?_ ?_
     rotate_left
     ·intro mi
      refine AQ (i := 8) (j := 12) (Ni := some 38) (Nj := some 9) (bA 15 511) (bA 15 4351) rfl rfl rfl rfl (uC ak.out (by kernel_rfl)) (by decide) (by decide) (fun K hK => ?_) (fun K hK => ?_)
      ·skip
       refine fK Try.func102 (by kernel_rfl) rfl #[.agg #[.int .u8 k.f0, .int .i64 k.f1.f0, .int .i64 k.f1.f1, .int .i64 k.f1.f2, .int .i64 k.f1.f3, .int .i64 k.f2, .slice ua k.f3.length uc], .agg #[.int .u8 kk, .int .i64 kx, .int .i64 ky, .int .i64 kw, .int .i64 kh, .int .i64 kid, .slice Ak m.length jJ], .slice A2 is.length c2] (by rfl) rfl rfl (by (try simp only [List.map_toArray, List.map_cons, List.map_nil]); first | done | rfl) ?_
       refine (wI _ _ (dO (S.out.tree _ (.head _))) (dO (S.out.tree _ (.tail _ (.tail _ (.head _))))) (Kd.fC HI2.out S.out.below)).mono ?_
       rintro e lQ ⟨FB, FU, rfl, h1, hb⟩
       refine ⟨_, rfl, ?_⟩
       replace S := ae.mk (S.out.res (Kd.rM (base' := 0) h1) hb)
       clear h1 hb
       refine hK.out _ _ S.out.bW (fun hHeld => ?_)
       clear hK K
       refine dR 38 ?_
       refine au 9 29 (bA 15 1023) ak ?_
       refine au 10 39 (bA 15 2047) ak ?_
       refine au 11 40 (bA 15 4095) ak ?_
       refine gU (i := 12) (N := some 9) (bA 15 8191) rfl rfl (bY ak.out (by kernel_rfl)) (by decide) (fun K hK => ?_)
       refine kL ?hg (N := 9) ?hd (cs := #[.int .u8 0, .int .i64 0, .int .i64 0, .int .i64 0, .int .i64 0, .int .i64 0, .slice none 0 0]) (t := 26) ?hr ?_; (case hd => rfl); (case hg => rfl); (case hr => first | (go_simp; done) | (go_simp; rfl))
       intro b9 hg rG hbox hb
       replace S := ae.mk (S.out.box hg hbox hb)
       clear hg hbox hb
       refine hK.out _ _ S.out.eF.bW (fun hHeld => ?_)
       clear hK K
       refine dR 9 ?_
       exact mr (by simp only [jM, Act.put, List.setIfInBounds_toArray, List.set_cons_zero, List.set_cons_succ] <;> rfl) (mi (FB, FU, b9) _ S.out)
      ·skip
       refine kL ?hg (N := 9) ?hd (cs := #[.int .u8 0, .int .i64 0, .int .i64 0, .int .i64 0, .int .i64 0, .int .i64 0, .slice none 0 0]) (t := 26) ?hr ?_; (case hd => rfl); (case hg => rfl); (case hr => first | (go_simp; done) | (go_simp; rfl))
       intro b9 hg vG hbox hb
       replace S := ae.mk (S.out.box hg hbox hb)
       clear hg hbox hb
       refine hK.out _ _ S.out.eF (fun hHeld => ?_)
       clear hK K
       refine dR 9 ?_
       refine gU (i := 8) (N := some 38) (bA 15 4607) rfl rfl (bY ak.out (by kernel_rfl)) (by decide) (fun K hK => ?_)
       refine fK Try.func102 (by kernel_rfl) rfl #[.agg #[.int .u8 k.f0, .int .i64 k.f1.f0, .int .i64 k.f1.f1, .int .i64 k.f1.f2, .int .i64 k.f1.f3, .int .i64 k.f2, .slice ua k.f3.length uc], .agg #[.int .u8 kk, .int .i64 kx, .int .i64 ky, .int .i64 kw, .int .i64 kh, .int .i64 kid, .slice Ak m.length jJ], .slice A2 is.length c2] (by rfl) rfl rfl (by (try simp only [List.map_toArray, List.map_cons, List.map_nil]); first | done | rfl) ?_
       refine (wI _ _ (dO (S.out.tree _ (.head _))) (dO (S.out.tree _ (.tail _ (.tail _ (.head _))))) (Kd.fC HI2.out S.out.below)).mono ?_
       rintro e yf ⟨FB, FU, rfl, h1, hb⟩
       refine ⟨_, rfl, ?_⟩
       replace S := ae.mk (S.out.res (Kd.rM (base' := 0) h1) hb)
       clear h1 hb
       refine hK.out _ _ S.out.eF.bW (fun hHeld => ?_)
       clear hK K
       refine dR 38 ?_
       refine au 9 29 (bA 15 5119) ak ?_
       refine au 10 39 (bA 15 6143) ak ?_
       refine au 11 40 (bA 15 8191) ak ?_
       exact mr (by simp only [jM, Act.put, List.setIfInBounds_toArray, List.set_cons_zero, List.set_cons_succ] <;> rfl) (mi (FB, FU, b9) _ S.out)
     rintro ⟨FB, FU, b9⟩ wj9 S1
     simp only [jM, Act.put, List.setIfInBounds_toArray, List.set_cons_zero, List.set_cons_succ]
     replace S := ae.mk S1
     clear S1 hHeld
     have hHeld := S.out.eF.bW
     refine mO (i := 13) (N := none) (bA 15 16383) rfl rfl (bY ak.out (by kernel_rfl)) (by decide) (fun K hK => ?_)
     refine oJ 0 rfl 26 (.tmp 9) (.tmp 39) rfl #[.int .u8 z.f0, .int .i64 z.f1.f0, .int .i64 z.f1.f1, .int .i64 z.f1.f2, .int .i64 z.f1.f3, .int .i64 z.f2, .slice FB z.f3.length FU] (j := 0) (u := .agg #[.int .u8 z.f0, .int .i64 z.f1.f0, .int .i64 z.f1.f1, .int .i64 z.f1.f2, .int .i64 z.f1.f3, .int .i64 z.f2, .slice FB z.f3.length FU]) (bP := [.int .u8 z.f0, .int .i64 z.f1.f0, .int .i64 z.f1.f1, .int .i64 z.f1.f2, .int .i64 z.f1.f3, .int .i64 z.f2, .slice FB z.f3.length FU]) S.out (by rfl) rfl rfl rfl rfl (by kernel_rfl) (by simp [Value.oneCell']) (by first | decide | simp) rfl ?_
     intro zI S1
     simp only [List.set_cons_zero, List.set_cons_succ] at S1
     replace S := ae.mk S1
     clear S1
     refine hK.out _ _ ?_
     clear hK K
     refine au 14 10 (bA 15 32767) ak ?_
     refine jI (gQ ak.out (by kernel_rfl)) ?_
     clear hHeld
     obtain ⟨bD, bF, bG, bH, dG, ed, bg⟩ := St.eY S (.tail _ (.tail _ (.tail _ (.head _))))
     go_wp2_with (first
      | ((with_reducible refine aj 45 rfl ?_); refine kR (some 45) Try.func151 (FT 1000000 ⟨ck, ⟨cx, cy, cw, ch⟩, ay, l⟩ HZ.out (Nat.le_refl _) _ (some dM) cc _ (dO (S.out.tree _ (.tail _ (.tail _ (.head _)))))) ?_; rintro e yB ⟨v, rfl, h1, hb⟩; refine ⟨_, rfl, ?_⟩; obtain ⟨g45, QA, ev, _⟩ := Kd.yU h1 (by have := RS.out; have := RQ.out; simp only []; omega); subst ev; replace S := ae.mk (S.out.Df h1 hb); clear h1 hb; clear bD bF bG bH dG ed bg)
      | ((with_reducible refine dB 26 (.tmp 3) (.tmp 45) rfl ?_); refine Xv 26 3 45 #[.int .u8 ck, .int .i64 cx, .int .i64 cy, .int .i64 cw, .int .i64 ch, .int .i64 ay, .slice (some ⟨g45, 0, none⟩) l.length QA] 0 7 S ?_; clear S; intro AU S; obtain ⟨nY, sH, oU, sK, yL, zU, zV⟩ := St.eY S (.head _); have bg := (S.out.at (.tail _ (.tail _ (.tail _ (.head _)))) 6).trans rfl)
      | ((with_reducible refine lG (.store 26 (.tmp 50) (.tmp 49)) rfl ?_); go_loud (refine Vg i z (.tmp 50) (.tmp 49) rfl S.out RQ.out RS.out ?sA ?sX (by kernel_rfl) (.head _) rfl rfl ?_; (case sA => first | rfl | (go_simp; rfl)); (case sX => rfl); intro zJ S1; replace S := ae.mk S1; clear S1); clear nY sH oU sK yL zU zV bg; obtain ⟨bD, bF, bG, bH, dG, ed, bg⟩ := St.eY S (.tail _ (.tail _ (.tail _ (.head _)))))
      | ((with_reducible refine dB 26 (.tmp 6) (.tmp 51) rfl ?_); refine oh 26 6 51 #[.int .u8 ck, .int .i64 cx, .int .i64 cy, .int .i64 cw, .int .i64 ch, .int .i64 ay, .slice (some ⟨g45, 0, none⟩) l.length QA] 0 7 S ?_; clear S; intro Gu S; clear bD bF bG bH dG ed bg)
      | fail)
     refine bodyPost_ret (bK rfl _ _ b6 26 #[.int .u8 ck, .int .i64 cx, .int .i64 cy, .int .i64 cw, .int .i64 ch, .int .i64 ay, .slice (some ⟨g45, 0, none⟩) l.length QA] (0, 0) _ rfl (S.out.blk _ (.tail _ (.head _)) _ rfl) Try.underlying26 rfl (by kernel_rfl)) rfl ?_
     simp only [VP, List.length_set]
     exact ⟨_, _, rfl, S.out.tK, S.out.below⟩
def uw.T5 : Bool × List (List Nat × List Nat) := (true, [([], []), ([0], [0]), ([], []), ([2], [2]), ([3], [3]), ([1, 4], [1, 4]), ([5], [5]), ([], []), ([], []), ([8], [8]), ([6, 7, 9], [6, 7, 9]), ([10], [10]), ([11], [11]), ([11], [11]), ([], []), ([14, 12, 10, 0, 1, 2, 3, 4, 5, 6, 7, 8, 9, 10, 11, 12, 14], [12, 14]), ([13, 15, 0, 1, 2, 3, 4, 5, 6, 7, 8, 9, 10, 11, 12, 13, 14, 15], [13])])
def uw.B5 : List Nat := [0, 1, 0, 4, 12, 31, 63, 0, 0, 256, 1023, 2047, 4095, 4095, 0, 24575, 65535]
theorem uw.yA : iY .any (opsOf Try.f103 5) = uw.T5 := by kernel_rfl
theorem uw.uD : iI uw.T5.2 uw.B5 = true := by kernel_rfl
def xR.T9 : Bool × List (List Nat × List Nat) := (true, [([], []), ([], []), ([1], [1]), ([2], [2]), ([], []), ([0, 3, 0, 1, 2, 3, 4], [0, 3]), ([5, 4, 0, 1, 2, 3, 4], [4, 5])])
def xR.B9 : List Nat := [0, 0, 2, 6, 0, 31, 63]
theorem xR.Jn : iY .any (opsOf Try.f103 9) = xR.T9 := by kernel_rfl
theorem xR.EJ : iI xR.T9.2 xR.B9 = true := by kernel_rfl
abbrev Qq (w : World) (P : Nat → Prop) : Option ai → Ending → World → Prop
 | none, e, w' => e = .returned (.tuple #[.agg #[.int .u8 0, .int .i64 0, .int .i64 0, .int .i64 0, .int .i64 0, .int .i64 0, .slice none 0 0], .bool false]) ∧ Below w.heap.size w w'
 | some z, e, w' => ∃ A c, e = .returned (.tuple #[.agg #[.int .u8 z.f0, .int .i64 z.f1.f0, .int .i64 z.f1.f1, .int .i64 z.f1.f2, .int .i64 z.f1.f3, .int .i64 z.f2, .slice A z.f3.length c], .bool true]) ∧ Kd.V k26 26 w' w.heap.size (fun k => P k ∨ w.heap.size ≤ k) (.slice A z.f3.length c) z.f3 ∧ Below w.heap.size w w'
theorem aeM : ∀ (is : List Int) (c kid : ai) (P : Nat → Prop) (A : Option Addr) (cc : Nat) (Ak : Option Addr) (jJ : Nat) (B : Option Addr) (cb : Nat) (w : World), sz c ≤ 1000000 →
  Kd.V k26 26 w w.heap.size P (.slice A c.f3.length cc) c.f3 → Kd.V k26 26 w w.heap.size P (.slice Ak kid.f3.length jJ) kid.f3 → Kd.C (Kd.int .i64) w B is.length is → is.length ≤ cb →
  Calls Try.prog 103 #[.agg #[.int .u8 c.f0, .int .i64 c.f1.f0, .int .i64 c.f1.f1, .int .i64 c.f1.f2, .int .i64 c.f1.f3, .int .i64 c.f2, .slice A c.f3.length cc], .agg #[.int .u8 kid.f0, .int .i64 kid.f1.f0, .int .i64 kid.f1.f1, .int .i64 kid.f1.f2, .int .i64 kid.f1.f3, .int .i64 kid.f2, .slice Ak kid.f3.length jJ], .slice B is.length cb] w (Qq w P (ry kid is c)) := by
 intro is
 induction is with
 | nil =>
  intro c kid P A cc Ak jJ B cb w hz hv hvk hi hb
  show Calls Try.prog 103 #[.agg #[.int .u8 c.f0, .int .i64 c.f1.f0, .int .i64 c.f1.f1, .int .i64 c.f1.f2, .int .i64 c.f1.f3, .int .i64 c.f2, .slice A c.f3.length cc], .agg #[.int .u8 kid.f0, .int .i64 kid.f1.f0, .int .i64 kid.f1.f1, .int .i64 kid.f1.f2, .int .i64 kid.f1.f3, .int .i64 kid.f2, .slice Ak kid.f3.length jJ], .slice B 0 cb] w (Qq w P (some kid))
  have S := ae.mk (St.start (ts := [(.slice A c.f3.length cc, c.f3), (.slice Ak kid.f3.length jJ, kid.f3)]) (b0 := w.heap.size) (w := w) (P := P) (fun t ht => by
   rcases List.mem_cons.1 ht with rfl | ht
   ·exact hv
   ·rw [List.mem_singleton.1 ht]; exact hvk))
  clear hz hv hvk hi hb
  obtain ⟨ck, ⟨cx, cy, cw, ch⟩, ay, l⟩ := c
  obtain ⟨kk, ⟨kx, ky, kw, kh⟩, kid, m⟩ := kid
  simp only [] at S ⊢
  go_enter Try.func103, Try.ntmps103
  go_wp2_with (first
   | ((with_reducible refine aj 3 rfl ?_); refine boxS 3 #[.int .u8 ck, .int .i64 cx, .int .i64 cy, .int .i64 cw, .int .i64 ch, .int .i64 ay, .slice A l.length cc] 26 S ?_; clear S; intro b3 eH S)
   | ((with_reducible refine aj 4 rfl ?_); refine boxS 4 #[.int .u8 kk, .int .i64 kx, .int .i64 ky, .int .i64 kw, .int .i64 kh, .int .i64 kid, .slice Ak m.length jJ] 26 S ?_; clear S; intro b4 fG S)
   | ((with_reducible refine aj 6 rfl ?_); refine boxS 6 #[.int .u8 0, .int .i64 0, .int .i64 0, .int .i64 0, .int .i64 0, .int .i64 0, .slice none 0 0] 26 S ?_; clear S; intro b6 gV S; obtain ⟨BU, BV, BX, BZ, B_, Cb, Cc⟩ := St.eY S (.tail _ (.head _)))
   | ((with_reducible refine dB 26 (.tmp 6) (.tmp 14) rfl ?_); refine gI 26 6 14 #[.int .u8 kk, .int .i64 kx, .int .i64 ky, .int .i64 kw, .int .i64 kh, .int .i64 kid, .slice Ak m.length jJ] 0 7 S ?_; clear S; intro jB S; clear BU BV BX BZ B_ Cb Cc)
   | fail)
  refine bodyPost_ret (bK rfl _ _ b6 26 #[.int .u8 kk, .int .i64 kx, .int .i64 ky, .int .i64 kw, .int .i64 kh, .int .i64 kid, .slice Ak m.length jJ] (0, 0) _ rfl (S.out.blk _ (.head _) _ rfl) Try.underlying26 rfl (by kernel_rfl)) rfl ?_
  exact ⟨_, _, rfl, S.out.AO (.tail _ (.head _)), S.out.below⟩
 | cons i is ih =>
  intro c kid P A cc Ak jJ B cb w hz hv hvk hi hb
  have IH := ae.mk ih
  have HI := ae.mk hi
  have LI := ae.mk hb
  have S := ae.mk (St.start (ts := [(.slice A c.f3.length cc, c.f3), (.slice Ak kid.f3.length jJ, kid.f3)]) (b0 := w.heap.size) (w := w) (P := P) (fun t ht => by
   rcases List.mem_cons.1 ht with rfl | ht
   ·exact hv
   ·rw [List.mem_singleton.1 ht]; exact hvk))
  obtain ⟨wJ, rfl, xi⟩ := Kd.iq hi 0 (by omega) (by simp)
  rw [show ((0 : Int)).toNat = 0 from rfl, Addr.add_zero'] at xi
  have xi : w.cell? wJ = some (.int .i64 i) := xi
  replace S := ae.mk (S.out.Ir xi)
  have hlen0 : (0 : Int) < ((is.length : Int) + 1) := by omega
  have hl0 : ((is.length + 1 : Nat) : Int) = (is.length : Int) + 1 := by omega
  have HZ := ae.mk hz
  clear ih hv hvk hi hb xi hz
  simp only [ry]
  obtain ⟨ck, ⟨cx, cy, cw, ch⟩, ay, l⟩ := c
  obtain ⟨kk, ⟨kx, ky, kw, kh⟩, kid, m⟩ := kid
  simp only [] at S ⊢
  simp only [List.length_cons] at HI LI ⊢
  by_cases h0 : i < 0
  ·rw [if_pos (.inl h0)]
   have uk : decide (i < 0) = true := decide_eq_true h0
   go_enter Try.func103, Try.ntmps103
   go_wp2_with (first
    | ((with_reducible refine aj 3 rfl ?_); refine boxS 3 #[.int .u8 ck, .int .i64 cx, .int .i64 cy, .int .i64 cw, .int .i64 ch, .int .i64 ay, .slice A l.length cc] 26 S ?_; clear S; intro b3 eH S)
    | ((with_reducible refine aj 4 rfl ?_); refine boxS 4 #[.int .u8 kk, .int .i64 kx, .int .i64 ky, .int .i64 kw, .int .i64 kh, .int .i64 kid, .slice Ak m.length jJ] 26 S ?_; clear S; intro b4 fG S)
    | ((with_reducible refine aj 6 rfl ?_); refine boxS 6 #[.int .u8 0, .int .i64 0, .int .i64 0, .int .i64 0, .int .i64 0, .int .i64 0, .slice none 0 0] 26 S ?_; clear S; intro b6 gV S; have gY := (S.out.cell _ (.head _)).1)
    | fail)
   go_quiet (fail)
   clear gY
   replace S := ae.mk (S.out.call (dC (Below.refl _ _) nq))
   generalize gV.drewN nq = VA at S ⊢
   go_wp2_with (first
    | ((with_reducible refine dB 26 (.tmp 6) (.tmp 28) rfl ?_); refine gI 26 6 28 #[.int .u8 0, .int .i64 0, .int .i64 0, .int .i64 0, .int .i64 0, .int .i64 0, .slice none 0 0] 0 7 S ?_; clear S; intro lQ S)
    | fail)
   refine bodyPost_ret (bK rfl _ _ b6 26 #[.int .u8 0, .int .i64 0, .int .i64 0, .int .i64 0, .int .i64 0, .int .i64 0, .slice none 0 0] (0, 0) _ rfl (S.out.blk _ (.head _) _ rfl) Try.underlying26 rfl (by kernel_rfl)) rfl ?_
   exact ⟨rfl, S.out.below⟩
  ·by_cases h1 : i ≥ (l.length : Int)
   ·rw [if_pos (.inr h1)]
    have uk : decide (i < 0) = false := decide_eq_false h0
    have h1b : decide (i ≥ (l.length : Int)) = true := decide_eq_true h1
    have h1c : decide ((l.length : Int) ≤ i) = true := decide_eq_true h1
    go_enter Try.func103, Try.ntmps103
    go_wp2_with (first
     | ((with_reducible refine aj 3 rfl ?_); refine boxS 3 #[.int .u8 ck, .int .i64 cx, .int .i64 cy, .int .i64 cw, .int .i64 ch, .int .i64 ay, .slice A l.length cc] 26 S ?_; clear S; intro b3 eH S)
     | ((with_reducible refine aj 4 rfl ?_); refine boxS 4 #[.int .u8 kk, .int .i64 kx, .int .i64 ky, .int .i64 kw, .int .i64 kh, .int .i64 kid, .slice Ak m.length jJ] 26 S ?_; clear S; intro b4 fG S)
     | ((with_reducible refine aj 6 rfl ?_); refine boxS 6 #[.int .u8 0, .int .i64 0, .int .i64 0, .int .i64 0, .int .i64 0, .int .i64 0, .slice none 0 0] 26 S ?_; clear S; intro b6 gV S; have gY := (S.out.cell _ (.head _)).1; have bg := (S.out.at (.tail _ (.tail _ (.head _))) 6).trans rfl)
     | fail)
    go_quiet (fail)
    clear gY bg
    replace S := ae.mk (S.out.call (dC (Below.refl _ _) nq))
    generalize gV.drewN nq = VA at S ⊢
    go_wp2_with (first
     | ((with_reducible refine dB 26 (.tmp 6) (.tmp 28) rfl ?_); refine gI 26 6 28 #[.int .u8 0, .int .i64 0, .int .i64 0, .int .i64 0, .int .i64 0, .int .i64 0, .slice none 0 0] 0 7 S ?_; clear S; intro lQ S)
     | fail)
    refine bodyPost_ret (bK rfl _ _ b6 26 #[.int .u8 0, .int .i64 0, .int .i64 0, .int .i64 0, .int .i64 0, .int .i64 0, .slice none 0 0] (0, 0) _ rfl (S.out.blk _ (.head _) _ rfl) Try.underlying26 rfl (by kernel_rfl)) rfl ?_
    exact ⟨rfl, S.out.below⟩
   ·rw [if_neg (fun h => h.elim h0 h1)]
    have uk : decide (i < 0) = false := decide_eq_false h0
    have h1b : decide (i ≥ (l.length : Int)) = false := decide_eq_false h1
    have h1c : decide ((l.length : Int) ≤ i) = false := decide_eq_false h1
    have h0z : 0 ≤ i := by omega
    have h1z : i < (l.length : Int) := by omega
    obtain ⟨dM, ua, uc, ek, S1⟩ := S.out.elem (.head _) i h0z h1z
    subst ek
    replace S := ae.mk S1
    have tq := ae.mk (show sz (aG l i) ≤ 1000000 by have := xQ (H6 l i h0z h1z); have := HZ.out; rw [dL] at this; simp only [] at this; omega)
    have gX := ae.mk (show l.length ≤ 1000000 by have := HZ.out; rw [dL] at this; have := jR l; simp only [] at *; omega)
    clear S1
    generalize aG l i = k at S tq ⊢
    obtain ⟨i0, hi0, _, hsz, _⟩ := info_parts info3
    have hcut := FW (P := Try.prog) 41 3 .i64 Try.underlying41 hi0 1 hsz (some wJ) (is.length + 1) cb 1 (by omega) (by omega)
    have hdrop := Kd.KP HI.out (m := 1) (by rw [List.length_cons]; omega) LI.out
    obtain ⟨A2, hA2⟩ : ∃ A2, A2 = (if cb = (1 : Int).toNat then (some wJ) else ((some wJ) : Option Addr).map (·.add ((1 : Int).toNat * 1))) := ⟨_, rfl⟩
    obtain ⟨c2, hc2⟩ : ∃ c2, c2 = cb - (1 : Int).toNat := ⟨_, rfl⟩
    rw [← hA2, ← hc2, show is.length + 1 - (1 : Int).toNat = is.length by simp] at hcut
    have HI2 := ae.mk (show Kd.C (Kd.int .i64) w A2 is.length is by rw [hA2]; exact hdrop)
    have Sm := ae.mk (show is.length ≤ c2 by have h3 := LI.out; rw [hc2]; simp; omega)
    have Dy := ae.mk hcut
    clear hdrop hA2 hc2 hi0 hsz hcut h0 h1
    have RQ := ae.mk h0z
    have RS := ae.mk h1z
    have wI := fun Q W h1 h2 h3 => IH.out k ⟨kk, ⟨kx, ky, kw, kh⟩, kid, m⟩ Q ua uc Ak jJ A2 c2 W tq.out h1 h2 h3 Sm.out
    cases hp : ry ⟨kk, ⟨kx, ky, kw, kh⟩, kid, m⟩ is k with
    | none =>
     simp only [hp] at wI ⊢
     have hcut := Dy.out
     go_enter Try.func103, Try.ntmps103
     go_wp2_with (first
      | ((with_reducible refine aj 3 rfl ?_); refine boxS 3 #[.int .u8 ck, .int .i64 cx, .int .i64 cy, .int .i64 cw, .int .i64 ch, .int .i64 ay, .slice (some dM) l.length cc] 26 S ?_; clear S; intro b3 eH S)
      | ((with_reducible refine aj 4 rfl ?_); refine boxS 4 #[.int .u8 kk, .int .i64 kx, .int .i64 ky, .int .i64 kw, .int .i64 kh, .int .i64 kid, .slice Ak m.length jJ] 26 S ?_; clear S; intro b4 fG S)
      | ((with_reducible refine aj 6 rfl ?_); refine boxS 6 #[.int .u8 0, .int .i64 0, .int .i64 0, .int .i64 0, .int .i64 0, .int .i64 0, .slice none 0 0] 26 S ?_; clear S; intro b6 gV S; have wK := (S.out.cell _ (.tail _ (.tail _ (.tail _ (.tail _ (.tail _ (.tail _ (.tail _ (.head _))))))))).1; have bg := (S.out.at (.tail _ (.tail _ (.head _))) 6).trans rfl)
      | fail)
     go_quiet (fail)
     clear wK bg
     replace S := ae.mk (S.out.call (dC (Below.refl _ _) nq))
     generalize gV.drewN nq = VA at S ⊢
     go_wp2
     refine iR (n := 17) (S := fun w' => St w _ _ _ _ _ w') (ds := [15]) (bA 17 0) (by kernel_rfl) rfl rfl (S.out.call (bC (Below.refl _ _))) (fun hHeld => ?_); refine fJ uw.yA uw.uD (fun ak dZ => ?_)
     replace S := ae.mk (S.out.call (bC (Below.refl _ _)))
     generalize VA.drew = wd5 at S hHeld ⊢
     refine au 0 30 (bA 17 1) ak ?_
     refine dE 1 31 (bA 17 3) ak dZ hHeld ?_ (hv := by intro w' hs_; have bg := (hs_.at (.tail _ (.tail _ (.head _))) 6).trans rfl; go_simp; with_reducible rfl)
     refine au 2 32 (bA 17 7) ak ?_
     refine au 3 33 (bA 17 15) ak ?_
     refine dE 4 34 (bA 17 31) ak dZ hHeld ?_ (hv := by intro w' hs_; have wK := (hs_.cell _ (.tail _ (.tail _ (.tail _ (.tail _ (.tail _ (.tail _ (.tail _ (.head _))))))))).1; go_simp; with_reducible rfl)
     refine au 5 35 (bA 17 63) ak ?_
     refine dE 6 36 (bA 17 127) ak dZ hHeld ?_ (hv := by intro w' hs_; have gY := (hs_.cell _ (.head _)).1; have iM := (hs_.cell _ (.tail _ (.head _))).1; have iO := (hs_.cell _ (.tail _ (.tail _ (.head _)))).1; have iC := (hs_.cell _ (.tail _ (.tail _ (.tail _ (.head _))))).1; have iD := (hs_.cell _ (.tail _ (.tail _ (.tail _ (.tail _ (.head _)))))).1; have jv := (hs_.cell _ (.tail _ (.tail _ (.tail _ (.tail _ (.tail _ (.head _))))))).1; have jw := (hs_.cell _ (.tail _ (.tail _ (.tail _ (.tail _ (.tail _ (.tail _ (.head _)))))))).1; go_simp; with_reducible rfl)
     refine dE 7 37 (bA 17 255) ak dZ hHeld ?_ (hv := by intro w' hs_; have BU := (hs_.at (.tail _ (.head _)) 0).trans rfl; have BV := (hs_.at (.tail _ (.head _)) 1).trans rfl; have BX := (hs_.at (.tail _ (.head _)) 2).trans rfl; have BZ := (hs_.at (.tail _ (.head _)) 3).trans rfl; have B_ := (hs_.at (.tail _ (.head _)) 4).trans rfl; have Cb := (hs_.at (.tail _ (.head _)) 5).trans rfl; have Cc := (hs_.at (.tail _ (.head _)) 6).trans rfl; go_simp; with_reducible rfl)
     refine au 8 38 (bA 17 511) ak ?_
     refine au 9 39 (bA 17 1023) ak ?_
     refine EU (σ := Nat) 2 (bA 17 32767) (fun s_ => [(40, .tuple #[.agg #[.int .u8 0, .int .i64 0, .int .i64 0, .int .i64 0, .int .i64 0, .int .i64 0, .slice none 0 0], .bool false]), (29, .tuple #[.agg #[.int .u8 0, .int .i64 0, .int .i64 0, .int .i64 0, .int .i64 0, .int .i64 0, .slice none 0 0], .bool false]), (41, .agg #[.int .u8 0, .int .i64 0, .int .i64 0, .int .i64 0, .int .i64 0, .int .i64 0, .slice none 0 0]), (42, .bool false), (8, .pointer (some ⟨s_, 0, none⟩))]) (fun s_ w' => St w P [(some s_, .cells #[.int .u8 0, .int .i64 0, .int .i64 0, .int .i64 0, .int .i64 0, .int .i64 0, .slice none 0 0] 26 (0, 0)), (some b6, .cells #[.int .u8 0, .int .i64 0, .int .i64 0, .int .i64 0, .int .i64 0, .int .i64 0, .slice none 0 0] 26 (0, 0)), (some b4, .cells #[.int .u8 kk, .int .i64 kx, .int .i64 ky, .int .i64 kw, .int .i64 kh, .int .i64 kid, .slice Ak m.length jJ] 26 (0, 0)), (some b3, .cells #[.int .u8 ck, .int .i64 cx, .int .i64 cy, .int .i64 cw, .int .i64 ch, .int .i64 ay, .slice (some dM) l.length cc] 26 (0, 0))] [] [(.slice ua k.f3.length uc, k.f3), (.slice (some dM) l.length cc, l), (.slice Ak m.length jJ, m)] [((dM.add (i.toNat * 7)), .int .u8 k.f0), (⟨(dM.add (i.toNat * 7)).block, (dM.add (i.toNat * 7)).off + 1, none⟩, .int .i64 k.f1.f0), (⟨(dM.add (i.toNat * 7)).block, (dM.add (i.toNat * 7)).off + 2, none⟩, .int .i64 k.f1.f1), (⟨(dM.add (i.toNat * 7)).block, (dM.add (i.toNat * 7)).off + 3, none⟩, .int .i64 k.f1.f2), (⟨(dM.add (i.toNat * 7)).block, (dM.add (i.toNat * 7)).off + 4, none⟩, .int .i64 k.f1.f3), (⟨(dM.add (i.toNat * 7)).block, (dM.add (i.toNat * 7)).off + 5, none⟩, .int .i64 k.f2), (⟨(dM.add (i.toNat * 7)).block, (dM.add (i.toNat * 7)).off + 6, none⟩, .slice ua k.f3.length uc), (wJ, .int .i64 i)] w') ?_ ?_
     rotate_left
     ·intro mi
      refine AQ (i := 10) (j := 14) (Ni := some 40) (Nj := some 8) (bA 17 2047) (bA 17 17407) rfl rfl rfl rfl (uC ak.out (by kernel_rfl)) (by decide) (by decide) (fun K hK => ?_) (fun K hK => ?_)
      ·skip
       refine fK Try.func103 (by kernel_rfl) rfl #[.agg #[.int .u8 k.f0, .int .i64 k.f1.f0, .int .i64 k.f1.f1, .int .i64 k.f1.f2, .int .i64 k.f1.f3, .int .i64 k.f2, .slice ua k.f3.length uc], .agg #[.int .u8 kk, .int .i64 kx, .int .i64 ky, .int .i64 kw, .int .i64 kh, .int .i64 kid, .slice Ak m.length jJ], .slice A2 is.length c2] (by rfl) rfl rfl (by (try simp only [List.map_toArray, List.map_cons, List.map_nil]); first | done | rfl) ?_
       refine (wI _ _ (dO (S.out.tree _ (.head _))) (dO (S.out.tree _ (.tail _ (.tail _ (.head _))))) (Kd.fC HI2.out S.out.below)).mono ?_
       rintro e rG ⟨rfl, hb⟩
       refine ⟨_, rfl, ?_⟩
       replace S := ae.mk (S.out.call hb)
       clear hb
       refine hK.out _ _ S.out (fun hHeld => ?_)
       clear hK K
       refine dR 40 ?_
       refine au 11 29 (bA 17 4095) ak ?_
       refine au 12 41 (bA 17 8191) ak ?_
       refine au 13 42 (bA 17 16383) ak ?_
       refine gU (i := 14) (N := some 8) (bA 17 32767) rfl rfl (bY ak.out (by kernel_rfl)) (by decide) (fun K hK => ?_)
       refine kL ?hg (N := 8) ?hd (cs := #[.int .u8 0, .int .i64 0, .int .i64 0, .int .i64 0, .int .i64 0, .int .i64 0, .slice none 0 0]) (t := 26) ?hr ?_; (case hd => rfl); (case hg => rfl); (case hr => first | (go_simp; done) | (go_simp; rfl))
       intro b8 hg vG hbox hb
       replace S := ae.mk (S.out.box hg hbox hb)
       clear hg hbox hb
       refine hK.out _ _ S.out.eF (fun hHeld => ?_)
       clear hK K
       refine dR 8 ?_
       exact mr (by simp only [jM, Act.put, List.setIfInBounds_toArray, List.set_cons_zero, List.set_cons_succ] <;> rfl) (mi b8 _ S.out)
      ·skip
       refine kL ?hg (N := 8) ?hd (cs := #[.int .u8 0, .int .i64 0, .int .i64 0, .int .i64 0, .int .i64 0, .int .i64 0, .slice none 0 0]) (t := 26) ?hr ?_; (case hd => rfl); (case hg => rfl); (case hr => first | (go_simp; done) | (go_simp; rfl))
       intro b8 hg yf hbox hb
       replace S := ae.mk (S.out.box hg hbox hb)
       clear hg hbox hb
       refine hK.out _ _ S.out.eF (fun hHeld => ?_)
       clear hK K
       refine dR 8 ?_
       refine gU (i := 10) (N := some 40) (bA 17 18431) rfl rfl (bY ak.out (by kernel_rfl)) (by decide) (fun K hK => ?_)
       refine fK Try.func103 (by kernel_rfl) rfl #[.agg #[.int .u8 k.f0, .int .i64 k.f1.f0, .int .i64 k.f1.f1, .int .i64 k.f1.f2, .int .i64 k.f1.f3, .int .i64 k.f2, .slice ua k.f3.length uc], .agg #[.int .u8 kk, .int .i64 kx, .int .i64 ky, .int .i64 kw, .int .i64 kh, .int .i64 kid, .slice Ak m.length jJ], .slice A2 is.length c2] (by rfl) rfl rfl (by (try simp only [List.map_toArray, List.map_cons, List.map_nil]); first | done | rfl) ?_
       refine (wI _ _ (dO (S.out.tree _ (.head _))) (dO (S.out.tree _ (.tail _ (.tail _ (.head _))))) (Kd.fC HI2.out S.out.below)).mono ?_
       rintro e BF ⟨rfl, hb⟩
       refine ⟨_, rfl, ?_⟩
       replace S := ae.mk (S.out.call hb)
       clear hb
       refine hK.out _ _ S.out.eF (fun hHeld => ?_)
       clear hK K
       refine dR 40 ?_
       refine au 11 29 (bA 17 20479) ak ?_
       refine au 12 41 (bA 17 24575) ak ?_
       refine au 13 42 (bA 17 32767) ak ?_
       exact mr (by simp only [jM, Act.put, List.setIfInBounds_toArray, List.set_cons_zero, List.set_cons_succ] <;> rfl) (mi b8 _ S.out)
     intro b8 ahW S1
     simp only [jM, Act.put, List.setIfInBounds_toArray, List.set_cons_zero, List.set_cons_succ]
     replace S := ae.mk S1
     clear S1 hHeld
     have hHeld := S.out.eF
     refine mO (i := 15) (N := none) (bA 17 65535) rfl rfl (bY ak.out (by kernel_rfl)) (by decide) (fun K hK => ?_)
     refine oJ 0 rfl 26 (.tmp 8) (.tmp 41) rfl #[.int .u8 0, .int .i64 0, .int .i64 0, .int .i64 0, .int .i64 0, .int .i64 0, .slice none 0 0] (j := 0) (u := .agg #[.int .u8 0, .int .i64 0, .int .i64 0, .int .i64 0, .int .i64 0, .int .i64 0, .slice none 0 0]) (bP := [.int .u8 0, .int .i64 0, .int .i64 0, .int .i64 0, .int .i64 0, .int .i64 0, .slice none 0 0]) S.out (by rfl) rfl rfl rfl rfl (by kernel_rfl) (by simp [Value.oneCell']) (by first | decide | simp) rfl ?_
     intro yB S1
     simp only [List.set_cons_zero, List.set_cons_succ] at S1
     replace S := ae.mk S1
     clear S1
     refine hK.out _ _ ?_
     clear hK K
     refine au 16 9 (bA 17 131071) ak ?_
     refine jI (gQ ak.out (by kernel_rfl)) ?_
     clear hHeld
     go_wp2_with (first
      | ((with_reducible refine dB 26 (.tmp 6) (.tmp 45) rfl ?_); refine oh 26 6 45 #[.int .u8 0, .int .i64 0, .int .i64 0, .int .i64 0, .int .i64 0, .int .i64 0, .slice none 0 0] 0 7 S ?_; clear S; intro AU S)
      | fail)
     refine bodyPost_ret (bK rfl _ _ b6 26 #[.int .u8 0, .int .i64 0, .int .i64 0, .int .i64 0, .int .i64 0, .int .i64 0, .slice none 0 0] (0, 0) _ rfl (S.out.blk _ (.tail _ (.head _)) _ rfl) Try.underlying26 rfl (by kernel_rfl)) rfl ?_
     exact ⟨rfl, S.out.below⟩
    | some z =>
     simp only [hp] at wI ⊢
     have hcut := Dy.out
     go_enter Try.func103, Try.ntmps103
     go_wp2_with (first
      | ((with_reducible refine aj 3 rfl ?_); refine boxS 3 #[.int .u8 ck, .int .i64 cx, .int .i64 cy, .int .i64 cw, .int .i64 ch, .int .i64 ay, .slice (some dM) l.length cc] 26 S ?_; clear S; intro b3 eH S)
      | ((with_reducible refine aj 4 rfl ?_); refine boxS 4 #[.int .u8 kk, .int .i64 kx, .int .i64 ky, .int .i64 kw, .int .i64 kh, .int .i64 kid, .slice Ak m.length jJ] 26 S ?_; clear S; intro b4 fG S)
      | ((with_reducible refine aj 6 rfl ?_); refine boxS 6 #[.int .u8 0, .int .i64 0, .int .i64 0, .int .i64 0, .int .i64 0, .int .i64 0, .slice none 0 0] 26 S ?_; clear S; intro b6 gV S; have wK := (S.out.cell _ (.tail _ (.tail _ (.tail _ (.tail _ (.tail _ (.tail _ (.tail _ (.head _))))))))).1; have bg := (S.out.at (.tail _ (.tail _ (.head _))) 6).trans rfl)
      | fail)
     go_quiet (fail)
     clear wK bg
     replace S := ae.mk (S.out.call (dC (Below.refl _ _) nq))
     generalize gV.drewN nq = VA at S ⊢
     go_wp2
     refine iR (n := 17) (S := fun w' => St w _ _ _ _ _ w') (ds := [15]) (bA 17 0) (by kernel_rfl) rfl rfl (S.out.call (bC (Below.refl _ _))) (fun hHeld => ?_); refine fJ uw.yA uw.uD (fun ak dZ => ?_)
     replace S := ae.mk (S.out.call (bC (Below.refl _ _)))
     generalize VA.drew = wd5 at S hHeld ⊢
     refine au 0 30 (bA 17 1) ak ?_
     refine dE 1 31 (bA 17 3) ak dZ hHeld ?_ (hv := by intro w' hs_; have bg := (hs_.at (.tail _ (.tail _ (.head _))) 6).trans rfl; go_simp; with_reducible rfl)
     refine au 2 32 (bA 17 7) ak ?_
     refine au 3 33 (bA 17 15) ak ?_
     refine dE 4 34 (bA 17 31) ak dZ hHeld ?_ (hv := by intro w' hs_; have wK := (hs_.cell _ (.tail _ (.tail _ (.tail _ (.tail _ (.tail _ (.tail _ (.tail _ (.head _))))))))).1; go_simp; with_reducible rfl)
     refine au 5 35 (bA 17 63) ak ?_
     refine dE 6 36 (bA 17 127) ak dZ hHeld ?_ (hv := by intro w' hs_; have gY := (hs_.cell _ (.head _)).1; have iM := (hs_.cell _ (.tail _ (.head _))).1; have iO := (hs_.cell _ (.tail _ (.tail _ (.head _)))).1; have iC := (hs_.cell _ (.tail _ (.tail _ (.tail _ (.head _))))).1; have iD := (hs_.cell _ (.tail _ (.tail _ (.tail _ (.tail _ (.head _)))))).1; have jv := (hs_.cell _ (.tail _ (.tail _ (.tail _ (.tail _ (.tail _ (.head _))))))).1; have jw := (hs_.cell _ (.tail _ (.tail _ (.tail _ (.tail _ (.tail _ (.tail _ (.head _)))))))).1; go_simp; with_reducible rfl)
     refine dE 7 37 (bA 17 255) ak dZ hHeld ?_ (hv := by intro w' hs_; have BU := (hs_.at (.tail _ (.head _)) 0).trans rfl; have BV := (hs_.at (.tail _ (.head _)) 1).trans rfl; have BX := (hs_.at (.tail _ (.head _)) 2).trans rfl; have BZ := (hs_.at (.tail _ (.head _)) 3).trans rfl; have B_ := (hs_.at (.tail _ (.head _)) 4).trans rfl; have Cb := (hs_.at (.tail _ (.head _)) 5).trans rfl; have Cc := (hs_.at (.tail _ (.head _)) 6).trans rfl; go_simp; with_reducible rfl)
     refine au 8 38 (bA 17 511) ak ?_
     refine au 9 39 (bA 17 1023) ak ?_
     refine EU (σ := Option Addr × Nat × Nat) 2 (bA 17 32767) (fun s_ => [(40, .tuple #[.agg #[.int .u8 z.f0, .int .i64 z.f1.f0, .int .i64 z.f1.f1, .int .i64 z.f1.f2, .int .i64 z.f1.f3, .int .i64 z.f2, .slice s_.1 z.f3.length s_.2.1], .bool true]), (29, .tuple #[.agg #[.int .u8 z.f0, .int .i64 z.f1.f0, .int .i64 z.f1.f1, .int .i64 z.f1.f2, .int .i64 z.f1.f3, .int .i64 z.f2, .slice s_.1 z.f3.length s_.2.1], .bool true]), (41, .agg #[.int .u8 z.f0, .int .i64 z.f1.f0, .int .i64 z.f1.f1, .int .i64 z.f1.f2, .int .i64 z.f1.f3, .int .i64 z.f2, .slice s_.1 z.f3.length s_.2.1]), (42, .bool true), (8, .pointer (some ⟨s_.2.2, 0, none⟩))]) (fun s_ w' => St w P [(some s_.2.2, .cells #[.int .u8 0, .int .i64 0, .int .i64 0, .int .i64 0, .int .i64 0, .int .i64 0, .slice none 0 0] 26 (0, 0)), (some b6, .cells #[.int .u8 0, .int .i64 0, .int .i64 0, .int .i64 0, .int .i64 0, .int .i64 0, .slice none 0 0] 26 (0, 0)), (some b4, .cells #[.int .u8 kk, .int .i64 kx, .int .i64 ky, .int .i64 kw, .int .i64 kh, .int .i64 kid, .slice Ak m.length jJ] 26 (0, 0)), (some b3, .cells #[.int .u8 ck, .int .i64 cx, .int .i64 cy, .int .i64 cw, .int .i64 ch, .int .i64 ay, .slice (some dM) l.length cc] 26 (0, 0))] [] [(.slice s_.1 z.f3.length s_.2.1, z.f3), (.slice ua k.f3.length uc, k.f3), (.slice (some dM) l.length cc, l), (.slice Ak m.length jJ, m)] [((dM.add (i.toNat * 7)), .int .u8 k.f0), (⟨(dM.add (i.toNat * 7)).block, (dM.add (i.toNat * 7)).off + 1, none⟩, .int .i64 k.f1.f0), (⟨(dM.add (i.toNat * 7)).block, (dM.add (i.toNat * 7)).off + 2, none⟩, .int .i64 k.f1.f1), (⟨(dM.add (i.toNat * 7)).block, (dM.add (i.toNat * 7)).off + 3, none⟩, .int .i64 k.f1.f2), (⟨(dM.add (i.toNat * 7)).block, (dM.add (i.toNat * 7)).off + 4, none⟩, .int .i64 k.f1.f3), (⟨(dM.add (i.toNat * 7)).block, (dM.add (i.toNat * 7)).off + 5, none⟩, .int .i64 k.f2), (⟨(dM.add (i.toNat * 7)).block, (dM.add (i.toNat * 7)).off + 6, none⟩, .slice ua k.f3.length uc), (wJ, .int .i64 i)] w') ?_ ?_
     rotate_left
     ·intro mi
      refine AQ (i := 10) (j := 14) (Ni := some 40) (Nj := some 8) (bA 17 2047) (bA 17 17407) rfl rfl rfl rfl (uC ak.out (by kernel_rfl)) (by decide) (by decide) (fun K hK => ?_) (fun K hK => ?_)
      ·skip
       refine fK Try.func103 (by kernel_rfl) rfl #[.agg #[.int .u8 k.f0, .int .i64 k.f1.f0, .int .i64 k.f1.f1, .int .i64 k.f1.f2, .int .i64 k.f1.f3, .int .i64 k.f2, .slice ua k.f3.length uc], .agg #[.int .u8 kk, .int .i64 kx, .int .i64 ky, .int .i64 kw, .int .i64 kh, .int .i64 kid, .slice Ak m.length jJ], .slice A2 is.length c2] (by rfl) rfl rfl (by (try simp only [List.map_toArray, List.map_cons, List.map_nil]); first | done | rfl) ?_
       refine (wI _ _ (dO (S.out.tree _ (.head _))) (dO (S.out.tree _ (.tail _ (.tail _ (.head _))))) (Kd.fC HI2.out S.out.below)).mono ?_
       rintro e rG ⟨FC, FV, rfl, h1, hb⟩
       refine ⟨_, rfl, ?_⟩
       replace S := ae.mk (S.out.res h1 hb)
       clear h1 hb
       refine hK.out _ _ S.out.bW (fun hHeld => ?_)
       clear hK K
       refine dR 40 ?_
       refine au 11 29 (bA 17 4095) ak ?_
       refine au 12 41 (bA 17 8191) ak ?_
       refine au 13 42 (bA 17 16383) ak ?_
       refine gU (i := 14) (N := some 8) (bA 17 32767) rfl rfl (bY ak.out (by kernel_rfl)) (by decide) (fun K hK => ?_)
       refine kL ?hg (N := 8) ?hd (cs := #[.int .u8 0, .int .i64 0, .int .i64 0, .int .i64 0, .int .i64 0, .int .i64 0, .slice none 0 0]) (t := 26) ?hr ?_; (case hd => rfl); (case hg => rfl); (case hr => first | (go_simp; done) | (go_simp; rfl))
       intro b8 hg vG hbox hb
       replace S := ae.mk (S.out.box hg hbox hb)
       clear hg hbox hb
       refine hK.out _ _ S.out.eF.bW (fun hHeld => ?_)
       clear hK K
       refine dR 8 ?_
       exact mr (by simp only [jM, Act.put, List.setIfInBounds_toArray, List.set_cons_zero, List.set_cons_succ] <;> rfl) (mi (FC, FV, b8) _ S.out)
      ·skip
       refine kL ?hg (N := 8) ?hd (cs := #[.int .u8 0, .int .i64 0, .int .i64 0, .int .i64 0, .int .i64 0, .int .i64 0, .slice none 0 0]) (t := 26) ?hr ?_; (case hd => rfl); (case hg => rfl); (case hr => first | (go_simp; done) | (go_simp; rfl))
       intro b8 hg yf hbox hb
       replace S := ae.mk (S.out.box hg hbox hb)
       clear hg hbox hb
       refine hK.out _ _ S.out.eF (fun hHeld => ?_)
       clear hK K
       refine dR 8 ?_
       refine gU (i := 10) (N := some 40) (bA 17 18431) rfl rfl (bY ak.out (by kernel_rfl)) (by decide) (fun K hK => ?_)
       refine fK Try.func103 (by kernel_rfl) rfl #[.agg #[.int .u8 k.f0, .int .i64 k.f1.f0, .int .i64 k.f1.f1, .int .i64 k.f1.f2, .int .i64 k.f1.f3, .int .i64 k.f2, .slice ua k.f3.length uc], .agg #[.int .u8 kk, .int .i64 kx, .int .i64 ky, .int .i64 kw, .int .i64 kh, .int .i64 kid, .slice Ak m.length jJ], .slice A2 is.length c2] (by rfl) rfl rfl (by (try simp only [List.map_toArray, List.map_cons, List.map_nil]); first | done | rfl) ?_
       refine (wI _ _ (dO (S.out.tree _ (.head _))) (dO (S.out.tree _ (.tail _ (.tail _ (.head _))))) (Kd.fC HI2.out S.out.below)).mono ?_
       rintro e BF ⟨FC, FV, rfl, h1, hb⟩
       refine ⟨_, rfl, ?_⟩
       replace S := ae.mk (S.out.res h1 hb)
       clear h1 hb
       refine hK.out _ _ S.out.eF.bW (fun hHeld => ?_)
       clear hK K
       refine dR 40 ?_
       refine au 11 29 (bA 17 20479) ak ?_
       refine au 12 41 (bA 17 24575) ak ?_
       refine au 13 42 (bA 17 32767) ak ?_
       exact mr (by simp only [jM, Act.put, List.setIfInBounds_toArray, List.set_cons_zero, List.set_cons_succ] <;> rfl) (mi (FC, FV, b8) _ S.out)
     rintro ⟨FC, FV, b8⟩ ahW S1
     simp only [jM, Act.put, List.setIfInBounds_toArray, List.set_cons_zero, List.set_cons_succ]
     replace S := ae.mk S1
     clear S1 hHeld
     have hHeld := S.out.eF.bW
     refine mO (i := 15) (N := none) (bA 17 65535) rfl rfl (bY ak.out (by kernel_rfl)) (by decide) (fun K hK => ?_)
     refine oJ 0 rfl 26 (.tmp 8) (.tmp 41) rfl #[.int .u8 z.f0, .int .i64 z.f1.f0, .int .i64 z.f1.f1, .int .i64 z.f1.f2, .int .i64 z.f1.f3, .int .i64 z.f2, .slice FC z.f3.length FV] (j := 0) (u := .agg #[.int .u8 z.f0, .int .i64 z.f1.f0, .int .i64 z.f1.f1, .int .i64 z.f1.f2, .int .i64 z.f1.f3, .int .i64 z.f2, .slice FC z.f3.length FV]) (bP := [.int .u8 z.f0, .int .i64 z.f1.f0, .int .i64 z.f1.f1, .int .i64 z.f1.f2, .int .i64 z.f1.f3, .int .i64 z.f2, .slice FC z.f3.length FV]) S.out (by rfl) rfl rfl rfl rfl (by kernel_rfl) (by simp [Value.oneCell']) (by first | decide | simp) rfl ?_
     intro yB S1
     simp only [List.set_cons_zero, List.set_cons_succ] at S1
     replace S := ae.mk S1
     clear S1
     refine hK.out _ _ ?_
     clear hK K
     refine au 16 9 (bA 17 131071) ak ?_
     refine jI (gQ ak.out (by kernel_rfl)) ?_
     clear hHeld
     go_wp2_with (first
      | ((with_reducible refine aC (N := 46) rfl ?_); refine zk (N := 46) rfl rfl S.out ?hr ?_; (case hr => first | (go_simp; done) | (go_simp; rfl)); intro Ae ce AU S1; replace S := ae.mk S1; clear S1; have bg := (S.out.at (.tail _ (.tail _ (.tail _ (.head _)))) 6).trans rfl)
      | ((with_reducible refine aC (N := 49) rfl ?_); at_builtin; refine Iw 24 (.tmp 46) (.tmp 48) rfl rfl Try.underlying24 info26 S.out (.tail _ (.tail _ (.head _))) rfl rfl (by have := gX.out; simp only [List.length_nil]; omega) ?_; intro Ag cg zJ S1; simp only [List.nil_append] at S1; obtain ⟨gk, ald, ev, _⟩ := Kd.yU S1.tK (by have := RS.out; have := RQ.out; omega); injection ev with e1 e2 e3; subst e1; subst e3; clear e2; simp only [List.nil_append]; replace S := ae.mk S1; clear S1; clear bg)
      | fail)
     refine iR (n := 7) (S := fun w' => St w _ _ _ _ _ w') (ds := [6]) (bA 7 0) (by kernel_rfl) rfl rfl (S.out.call (bC (Below.refl _ _))) (fun hHeld => ?_); refine fJ xR.Jn xR.EJ (fun ak dZ => ?_)
     replace S := ae.mk (S.out.call (bC (Below.refl _ _)))
     generalize zJ.drew = ahV at S hHeld ⊢
     refine au 0 50 (bA 7 1) ak ?_
     refine au 1 51 (bA 7 3) ak ?_
     refine au 2 52 (bA 7 7) ak ?_
     refine dE 3 53 (bA 7 15) ak dZ hHeld ?_ (hv := by intro w' hs_; have wK := (hs_.cell _ (.tail _ (.tail _ (.tail _ (.tail _ (.tail _ (.tail _ (.tail _ (.head _))))))))).1; go_simp; with_reducible rfl)
     refine dE 4 54 (bA 7 31) ak dZ hHeld ?_ (hv := by intro w' hs_; have Yy := (hs_.at (.head _) 0).trans rfl; have Yz := (hs_.at (.head _) 1).trans rfl; have YA := (hs_.at (.head _) 2).trans rfl; have YB := (hs_.at (.head _) 3).trans rfl; have YC := (hs_.at (.head _) 4).trans rfl; have YD := (hs_.at (.head _) 5).trans rfl; have YE := (hs_.at (.head _) 6).trans rfl; go_simp; with_reducible rfl)
     refine au 5 55 (bA 7 63) ak ?_
     refine mO (i := 6) (N := none) (bA 7 127) rfl rfl (bY ak.out (by kernel_rfl)) (by decide) (fun K hK => ?_)
     refine PX i z (.tmp 55) (.tmp 54) rfl S.out (by rfl) rfl RQ.out RS.out (by first | rfl | (go_simp; rfl)) rfl (by kernel_rfl) (.head _) ?_
     intro Gv S1
     replace S := ae.mk S1
     clear S1
     refine hK.out _ _ ?_
     clear hK K
     refine jI (gQ ak.out (by kernel_rfl)) ?_
     clear hHeld
     go_wp2_with (first
      | ((with_reducible refine dB 24 (.tmp 57) (.tmp 56) rfl ?_); refine Xv 24 57 56 #[.int .u8 ck, .int .i64 cx, .int .i64 cy, .int .i64 cw, .int .i64 ch, .int .i64 ay, .slice (some ⟨gk, 0, none⟩) l.length cg] 6 1 S ?_; clear S; intro Ov S; obtain ⟨bD, bF, bG, bH, dG, ed, bg⟩ := St.eY S (.tail _ (.tail _ (.tail _ (.head _)))))
      | ((with_reducible refine dB 26 (.tmp 6) (.tmp 58) rfl ?_); refine oh 26 6 58 #[.int .u8 ck, .int .i64 cx, .int .i64 cy, .int .i64 cw, .int .i64 ch, .int .i64 ay, .slice (some ⟨gk, 0, none⟩) l.length cg] 0 7 S ?_; clear S; intro Rz S; clear bD bF bG bH dG ed bg)
      | fail)
     refine bodyPost_ret (bK rfl _ _ b6 26 #[.int .u8 ck, .int .i64 cx, .int .i64 cy, .int .i64 cw, .int .i64 ch, .int .i64 ay, .slice (some ⟨gk, 0, none⟩) l.length cg] (0, 0) _ rfl (S.out.blk _ (.tail _ (.head _)) _ rfl) Try.underlying26 rfl (by kernel_rfl)) rfl ?_
     simp only [Qq, List.length_set]
     exact ⟨_, _, rfl, by have h := S.out.free.AO (b0 := w.heap.size) (.head _); exact h, S.out.below⟩
theorem Ro : ∀ (l : List ai) (n : Nat) (k : ai) (m : Nat), n < l.length → sz k ≤ sz (l.getD n z26) + m → gy (l.set n k) ≤ gy l + m := by
 intro l
 induction l with
 | nil => intro n k m h; simp at h
 | cons x xs ih =>
  intro n k m h hk
  cases n with
  | zero => rw [List.set_cons_zero, eG, eG]; simp only [List.getD_cons_zero] at hk; omega
  | succ n => rw [List.set_cons_succ, eG, eG]; have := ih n k m (by simpa using h) (by simpa using hk); omega
theorem Gh (kid : ai) : ∀ (path : List Int) (c x : ai), ry kid path c = some x → sz x ≤ sz c + sz kid := by
 intro path
 induction path with
 | nil => intro c x h; simp only [ry] at h; rw [← Option.some.inj h]; omega
 | cons i is ih =>
  intro c x h
  simp only [ry] at h
  split at h
  ·cases h
  ·rename_i hi
   cases hp : ry kid is (aG c.f3 i) with
   | none => rw [hp] at h; cases h
   | some k =>
    rw [hp] at h
    have h := Option.some.inj h
    subst h
    have h1 := ih _ _ hp
    have h2 := Ro c.f3 i.toNat k (sz kid) (by omega) h1
    rw [dL, dL c]
    show 1 + gy (c.f3.set i.toNat k) ≤ _
    omega
section
variable {Pr : Program} {ops : Array Oper} {rest : List Oper} {op : Oper} {a : Act} {Q : Exit → Act → World → Prop} {w W : World} {P : Nat → Prop} {bs : List (Option Nat × Obj)} {ow : List (Value × List ai)} {ts : List (Value × List ai)} {ro : List (Addr × Value)}
theorem Xg (N : Tmp) (y : Int) (S : ae (St w P bs ow ts ro W)) (h : ∀ A c o w1, ae (St w P (((Value.slice A [y].length c).ownBlock, o) :: bs) ow ts ro w1) → ae (KR (Kd.int .i64) 3 w.heap.size (.slice A [y].length c) [y] o) → wpList Pr ops Q rest (a.put op.dst (.slice A [y].length c)) w1)
  (hd : op.dst = some N := by rfl) (hgd : op.guard = none := by rfl) (hrun : (execOp a.eval op).run Pr W = .ok (.value (.slice (some ⟨W.heap.size, 0, none⟩) 1 1)) (W.alloc (.cells #[.int .i64 y] 3)) := by first | (go_simp; done) | (go_simp; rfl)) : wpList Pr ops Q (op :: rest) a W :=
 Kd.pI (Kd.int .i64) (w0 := W) W.heap.size 3 hgd hd (xs := [y]) (inner := [.int .i64 y]) (ok := fun _ => True) (gm := fun _ => True) hrun (bT.one (show Kd.M (Kd.int .i64) _ _ _ y [.int .i64 y] from rfl) (bT.none _ _)) (fun _ hk => hk) trivial (Below.refl _ _) (Nat.le_refl _) (by simp) (fun v1 w1 hR hb hg _ => by
  obtain ⟨A, c, rfl⟩ := Kd.fQ hR
  obtain ⟨o, S1, HI⟩ := S.out.Gn (d := Kd.int .i64) (e := 3) rfl hR (rY hg)
  exact h A c o w1 ⟨S1⟩ ⟨HI⟩)
end
abbrev xk (W : World) (p : List Int) (t : Bool) (e : Ending) (w' : World) : Prop := ∃ A c, e = .returned (.tuple #[.slice A p.length c, .bool t]) ∧ (Kd.int .i64).R 3 w' W.heap.size (fun _ => True) (.slice A p.length c) p ∧ Below W.heap.size W w'
theorem TC {id : Int} {k : ai} {r : Option (List Int)} {args : Array Value} {W : World} (h : iP id k = r) (hc : Calls Try.prog 90 args W (xk W ((iP id k).getD []) (iP id k).isSome)) : Calls Try.prog 90 args W (xk W (r.getD []) r.isSome) := by
 rw [h] at hc
 exact hc
theorem abg (id : Int) : ∀ (N : Nat) (c : ai), sz c ≤ N → N ≤ 1000000 → ∀ (b : Nat) (P : Nat → Prop) (A : Option Addr) (cc : Nat) (w : World), Kd.V k26 26 w b P (.slice A c.f3.length cc) c.f3 →
  Calls Try.prog 90 #[.agg #[.int .u8 c.f0, .int .i64 c.f1.f0, .int .i64 c.f1.f1, .int .i64 c.f1.f2, .int .i64 c.f1.f3, .int .i64 c.f2, .slice A c.f3.length cc], .int .i64 id] w (xk w ((iP id c).getD []) (iP id c).isSome) := by
 intro N
 induction N with
 | zero => intro c h; rw [dL] at h; omega
 | succ N ih =>
  intro c hc hN b P A cc w hv
  have hsz := dL c
  have hlen := jR c.f3
  have S := ae.mk (St.start (ts := [(.slice A c.f3.length cc, c.f3)]) (b0 := w.heap.size) (w := w) (P := P) (fun t ht => by rw [List.mem_singleton.1 ht]; exact dO hv))
  have gX := ae.mk (show c.f3.length ≤ 1000000 by omega)
  have IH := ae.mk fun (k : ai) (hk : k ∈ c.f3) A cc w {b P} h => ih k (by have := xQ hk; omega) (by omega) b P A cc w h
  have HQS := ae.mk fun (k : ai) (hk : k ∈ c.f3) q (h : iP id k = some q) => (show q.length ≤ 1000000 by have := (CJ id (sz k)).1 k (Nat.le_refl _) q h; have := xQ hk; omega)
  rw [FY]
  obtain ⟨ck, ⟨cx, cy, cw, ch⟩, ay, l⟩ := c
  simp only [] at S gX IH HQS ⊢
  clear ih hc hN hv hsz hlen
  by_cases hq : ck = 1 ∧ ay = id
  case pos =>
   rw [if_pos hq]
   obtain ⟨h1, h2⟩ := hq
   have h1a : (ck == 1) = true := beq_iff_eq.mpr (by omega)
   have h1b : (ck != 1) = false := bne_eq_false_iff_eq.mpr (by omega)
   have h1d : decide (ck = 1) = true := decide_eq_true (by omega)
   have h2a : (ay == id) = true := beq_iff_eq.mpr (by omega)
   have h2b : (ay != id) = false := bne_eq_false_iff_eq.mpr (by omega)
   have h2d : decide (ay = id) = true := decide_eq_true (by omega)
   clear h1 h2
   go_enter Try.func90, Try.ntmps90
   go_wp2_with (first
    | ((with_reducible refine aj 2 rfl ?_); refine boxS 2 #[.int .u8 ck, .int .i64 cx, .int .i64 cy, .int .i64 cw, .int .i64 ch, .int .i64 ay, .slice A l.length cc] 26 S ?_; clear S; intro b2 eH S; have bQ := (S.out.at (.head _) 0).trans rfl; have di := (S.out.at (.head _) 5).trans rfl)
    | ((with_reducible refine aj 18 rfl ?_); refine lY (Kd.int .i64) 3 rfl 18 S ?_; clear S; intro An cn on fG S yC; clear bQ di)
    | fail)
   go_ret2
   exact ⟨_, _, rfl, S.out.F8 yC.out (.head _), S.out.below⟩
  rw [if_neg hq]
  have hw : ((ck == 1) = true ∧ decide (ck = 1) = true ∧ (ay == id) = false ∧ decide (ay = id) = false) ∨ ((ck == 1) = false ∧ decide (ck = 1) = false) := by
   by_cases h1 : ck = 1
   ·exact .inl ⟨beq_iff_eq.mpr h1, decide_eq_true h1, beq_eq_false_iff_ne.mpr (fun h => hq ⟨h1, h⟩), decide_eq_false (fun h => hq ⟨h1, h⟩)⟩
   ·exact .inr ⟨beq_eq_false_iff_ne.mpr h1, decide_eq_false h1⟩
  obtain ⟨R, hR⟩ : ∃ R, R = pO id 0 l := ⟨_, rfl⟩
  rw [← hR]
  have HR := ae.mk hR.symm
  clear hq hR
  rcases hw with ⟨ha, hb, hc, hd⟩ | ⟨ha, hb⟩
  all_goals
   go_enter Try.func90, Try.ntmps90
   go_wp2_with (first
    | ((with_reducible refine aj 2 rfl ?_); refine boxS 2 #[.int .u8 ck, .int .i64 cx, .int .i64 cy, .int .i64 cw, .int .i64 ch, .int .i64 ay, .slice A l.length cc] 26 S ?_; clear S; intro b2 eH S; have bQ := (S.out.at (.head _) 0).trans rfl; have di := (S.out.at (.head _) 5).trans rfl; have bu := (S.out.at (.head _) 6).trans rfl)
    | fail)
   clear bQ di bu
   go_loopg [22] l.length (fun gg v22 wr => ∃ (pre rest : List ai), v22 = .int .i64 (pre.length : Int) ∧ ae (pre ++ rest = l) ∧ ae (pO id pre.length rest = R) ∧ rest.length ≤ gg ∧ ae (St w P [(some b2, .cells #[.int .u8 ck, .int .i64 cx, .int .i64 cy, .int .i64 cw, .int .i64 ch, .int .i64 ay, .slice A l.length cc] 26 (0, 0))] [] [(.slice A l.length cc, l)] [] wr))
   case atStart => exact ⟨[], l, rfl, ⟨rfl⟩, HR, Nat.le_refl _, S⟩
   case round =>
    clear S HR
    obtain ⟨pre, rest, rfl, HE, HR, hgg, S⟩ := hrel
    cases rest with
    | nil =>
     have hr := HR.out
     rw [xG] at hr
     replace HR := ae.mk hr.symm
     clear hr
     have hE := HE.out
     rw [List.append_nil] at hE
     have hE2 := hE.symm
     subst hE2
     clear hE HE hgg
     have hlt : ¬ ((l.length : Int) < (l.length : Int)) := by omega
     go_wp2_with (first
      | ((with_reducible refine aj 41 rfl ?_); refine lY (Kd.int .i64) 3 rfl 41 S ?_; clear S; intro An cn on fG S yC)
      | fail)
     go_ret2
     rw [HR.out]
     exact ⟨_, _, rfl, S.out.F8 yC.out (.head _), S.out.below⟩
    | cons k rest =>
     have hk : k ∈ l := by rw [← HE.out]; simp
     have hlt : (pre.length : Int) < (l.length : Int) := by rw [← HE.out, List.length_append, List.length_cons]; omega
     have hw1 : wrap64 ((pre.length : Int) + 1) = ((pre ++ [k]).length : Int) := by have := gX.out; rw [List.length_append, List.length_singleton]; unfold wrap64; omega
     have HW1 := ae.mk hw1
     have jh := ae.mk hgg
     have HK := ae.mk hk
     have tH := ae.mk (show pre.length ≤ 1048576 by have := gX.out; omega)
     obtain ⟨dM, ua, uc, ek, S1⟩ := S.out.elem (.head _) (pre.length : Int) (Int.natCast_nonneg _) hlt
     subst ek
     have hrd : aG l (pre.length : Int) = k := by rw [← HE.out]; exact jF pre k rest
     rw [hrd] at S1
     simp only [Int.toNat_natCast] at S1
     replace S := ae.mk S1
     clear S1 hrd hk hgg hw1
     cases hf : iP id k with
     | none =>
      have HF := ae.mk hf
      have hr := HR.out
      rw [qF, hf] at hr
      replace HR := ae.mk (show pO id (pre ++ [k]).length rest = R by rw [List.length_append]; exact hr)
      clear hf hr
      obtain ⟨gY, iM, iO, iC, iD, jv, jw⟩ := St.yD S
      have bu := (S.out.at (.head _) 6).trans rfl
      go_wp2_with (first
       | ((with_reducible refine aj 32 rfl ?_); refine kR (some 32) Try.func90 (TC HF.out (IH.out k HK.out ua uc _ (S.out.tree _ (.head _)))) ?_; rintro e eH ⟨Aq, cq, rfl, h1, hb⟩; refine ⟨_, rfl, ?_⟩; obtain ⟨oq, S1, hI⟩ := S.out.Gn (d := Kd.int .i64) (e := 3) rfl h1 hb; replace S := ae.mk S1; have mM := ae.mk hI; clear S1 hI h1 hb; clear gY iM iO iC iD jv jw bu)
       | fail)
      have hw1 := HW1.out
      go_wp2
      go_roundg rest.length
      case measure => exact Nat.lt_of_lt_of_le (Nat.lt_succ_self _) jh.out
      case rel => exact ⟨pre ++ [k], rest, (by rw [hw1]), ⟨by rw [List.append_assoc]; exact HE.out⟩, HR, Nat.le_refl _, ⟨S.out.eF.bW.aT.aT.aT.aT.aT.aT.aT⟩⟩
     | some q =>
      have HF := ae.mk hf
      have Si := ae.mk (HQS.out k HK.out q hf)
      have hr := HR.out
      rw [qF, hf] at hr
      replace HR := ae.mk (show R = some ((pre.length : Int) :: q) from hr.symm)
      clear hf hr
      obtain ⟨gY, iM, iO, iC, iD, jv, jw⟩ := St.yD S
      have bu := (S.out.at (.head _) 6).trans rfl
      go_wp2_with (first
       | ((with_reducible refine aj 32 rfl ?_); refine kR (some 32) Try.func90 (TC HF.out (IH.out k HK.out ua uc _ (S.out.tree _ (.head _)))) ?_; rintro e eH ⟨Aq, cq, rfl, h1, hb⟩; refine ⟨_, rfl, ?_⟩; obtain ⟨oq, S1, hI⟩ := S.out.Gn (d := Kd.int .i64) (e := 3) rfl h1 hb; replace S := ae.mk S1; have mM := ae.mk hI; clear S1 hI h1 hb; clear gY iM iO iC iD jv jw bu)
       | ((with_reducible refine aj 37 rfl ?_); refine Xg 37 (pre.length : Int) S ?_; clear S; intro An cn on fG S yC)
       | ((with_reducible refine aj 39 rfl ?_); at_builtin; refine L9 (Kd.int .i64) 3 rfl 37 38 41 (.int .i64 0) 8 Try.underlying41 info3 rfl (by decide) (by decide) (by decide) S yC q (VN mM.out S.out (.tail _ (.head _))).1 (fun _ _ _ _ _ h => h) (by have := Si.out; simp only [List.length_cons, List.length_nil]; omega) ?_; clear S yC; intro An2 cn2 on2 gV S yC)
       | fail)
      go_ret2
      rw [HR.out]
      exact ⟨_, _, rfl, S.out.F8 yC.out (.head _), S.out.below⟩
def agu.T3 : Bool × List (List Nat × List Nat) := (true, [([], []), ([0], [0]), ([1], [1]), ([2], [2]), ([3], [3]), ([4], [4]), ([5, 4], [4, 5]), ([6, 4], [4, 6]), ([4], [4]), ([8, 4], [4, 8]), ([9, 4], [4, 9]), ([7, 10, 4], [4, 7, 10]), ([4, 11], [4, 11])])
def agu.B3 : List Nat := [0, 1, 3, 7, 15, 31, 63, 127, 31, 287, 799, 2047, 4095]
def xw.T5 : Bool × List (List Nat × List Nat) := (true, [([], []), ([0], [0]), ([], []), ([2], [2]), ([3], [3]), ([1, 4], [1, 4]), ([5], [5]), ([], []), ([7], [7]), ([6, 8], [6, 8]), ([9], [9]), ([9], [9]), ([10, 9, 0, 1, 2, 3, 4, 5, 6, 7, 8, 9, 10, 11], [10]), ([11, 12, 0, 1, 2, 3, 4, 5, 6, 7, 8, 9, 10, 11, 12], [11])])
def xw.B5 : List Nat := [0, 1, 0, 4, 12, 31, 63, 0, 128, 511, 1023, 1023, 4095, 8191]
theorem xw.yA : iY .any (opsOf Try.f92 5) = xw.T5 := by kernel_rfl
theorem xw.uD : iI xw.T5.2 xw.B5 = true := by kernel_rfl
def AtV (w : World) (P : Nat → Prop) : Option ai → Ending → World → Prop
 | none, e, w' => ∃ A2 c2, e = .returned (.tuple #[.agg #[.int .u8 0, .int .i64 0, .int .i64 0, .int .i64 0, .int .i64 0, .int .i64 0, .slice A2 ([] : List ai).length c2], .bool false]) ∧ Kd.V k26 26 w' w.heap.size (fun k => P k ∨ w.heap.size ≤ k) (.slice A2 ([] : List ai).length c2) ([] : List ai) ∧ Below w.heap.size w w'
 | some z, e, w' => ∃ A2 c2, e = .returned (.tuple #[.agg #[.int .u8 z.f0, .int .i64 z.f1.f0, .int .i64 z.f1.f1, .int .i64 z.f1.f2, .int .i64 z.f1.f3, .int .i64 z.f2, .slice A2 z.f3.length c2], .bool true]) ∧ Kd.V k26 26 w' w.heap.size (fun k => P k ∨ w.heap.size ≤ k) (.slice A2 z.f3.length c2) z.f3 ∧ Below w.heap.size w w'
theorem acK : ∀ (is : List Int) (c : ai) (P : Nat → Prop) (A : Option Addr) (cc : Nat) (B : Option Addr) (cb : Nat) (w : World), Kd.V k26 26 w w.heap.size P (.slice A c.f3.length cc) c.f3 → Kd.C (Kd.int .i64) w B is.length is → is.length ≤ cb →
  Calls Try.prog 92 #[.agg #[.int .u8 c.f0, .int .i64 c.f1.f0, .int .i64 c.f1.f1, .int .i64 c.f1.f2, .int .i64 c.f1.f3, .int .i64 c.f2, .slice A c.f3.length cc], .slice B is.length cb] w (AtV w P (rP c is)) := by
 intro is
 induction is with
 | nil =>
  intro c P A cc B cb w hv hi hb
  show Calls Try.prog 92 #[.agg #[.int .u8 c.f0, .int .i64 c.f1.f0, .int .i64 c.f1.f1, .int .i64 c.f1.f2, .int .i64 c.f1.f3, .int .i64 c.f2, .slice A c.f3.length cc], .slice B 0 cb] w (AtV w P (some c))
  have S := ae.mk (St.start (ts := [(.slice A c.f3.length cc, c.f3)]) (b0 := w.heap.size) (w := w) (P := P) (fun t ht => by rw [List.mem_singleton.1 ht]; exact hv))
  clear hv hi hb
  obtain ⟨ck, ⟨cx, cy, cw, ch⟩, ay, l⟩ := c
  simp only [] at S ⊢
  go_enter Try.func92, Try.ntmps92
  go_wp2_with (first
   | ((with_reducible refine aj 2 rfl ?_); refine boxS 2 #[.int .u8 ck, .int .i64 cx, .int .i64 cy, .int .i64 cw, .int .i64 ch, .int .i64 ay, .slice A l.length cc] 26 S ?_; clear S; intro b2 eH S)
   | ((with_reducible refine aj 4 rfl ?_); refine boxS 4 #[.int .u8 0, .int .i64 0, .int .i64 0, .int .i64 0, .int .i64 0, .int .i64 0, .slice none 0 0] 26 S ?_; clear S; intro b4 fG S; obtain ⟨bQ, bU, bV, cZ, df, di, bu⟩ := St.eY S (.tail _ (.head _)))
   | ((with_reducible refine dB 26 (.tmp 4) (.tmp 9) rfl ?_); refine gI 26 4 9 #[.int .u8 ck, .int .i64 cx, .int .i64 cy, .int .i64 cw, .int .i64 ch, .int .i64 ay, .slice A l.length cc] 0 7 S ?_; clear S; intro gV S; clear bQ bU bV cZ df di bu)
   | fail)
  refine bodyPost_ret (bK rfl _ _ b4 26 #[.int .u8 ck, .int .i64 cx, .int .i64 cy, .int .i64 cw, .int .i64 ch, .int .i64 ay, .slice A l.length cc] (0, 0) _ rfl (S.out.blk _ (.head _) _ rfl) Try.underlying26 rfl (by kernel_rfl)) rfl ?_
  exact ⟨_, _, rfl, S.out.AO (.head _), S.out.below⟩
 | cons i is ih =>
  intro c P A cc B cb w hv hi hb
  have IH := ae.mk ih
  have HI := ae.mk hi
  have LI := ae.mk hb
  have S := ae.mk (St.start (ts := [(.slice A c.f3.length cc, c.f3)]) (b0 := w.heap.size) (w := w) (P := P) (fun t ht => by rw [List.mem_singleton.1 ht]; exact hv))
  obtain ⟨wJ, rfl, xi⟩ := Kd.iq hi 0 (by omega) (by simp)
  rw [show ((0 : Int)).toNat = 0 from rfl, Addr.add_zero'] at xi
  have xi : w.cell? wJ = some (.int .i64 i) := xi
  replace S := ae.mk (S.out.Ir xi)
  have hlen0 : (0 : Int) < ((is.length : Int) + 1) := by omega
  have hl0 : ((is.length + 1 : Nat) : Int) = (is.length : Int) + 1 := by omega
  clear ih hv hi hb xi
  simp only [rP]
  obtain ⟨ck, ⟨cx, cy, cw, ch⟩, ay, l⟩ := c
  simp only [] at S ⊢
  simp only [List.length_cons] at HI LI ⊢
  by_cases h0 : i < 0
  ·rw [if_pos (.inl h0)]
   have uk : decide (i < 0) = true := decide_eq_true h0
   go_enter Try.func92, Try.ntmps92
   go_wp2_with (first
    | ((with_reducible refine aj 2 rfl ?_); refine boxS 2 #[.int .u8 ck, .int .i64 cx, .int .i64 cy, .int .i64 cw, .int .i64 ch, .int .i64 ay, .slice A l.length cc] 26 S ?_; clear S; intro b2 eH S)
    | ((with_reducible refine aj 4 rfl ?_); refine boxS 4 #[.int .u8 0, .int .i64 0, .int .i64 0, .int .i64 0, .int .i64 0, .int .i64 0, .slice none 0 0] 26 S ?_; clear S; intro b4 fG S; have gY := (S.out.cell _ (.head _)).1)
    | fail)
   go_quiet (fail)
   clear gY
   replace S := ae.mk (S.out.call (dC (Below.refl _ _) nq))
   generalize fG.drewN nq = Vz at S ⊢
   go_wp2_with (first
    | ((with_reducible refine dB 26 (.tmp 4) (.tmp 23) rfl ?_); refine gI 26 4 23 #[.int .u8 0, .int .i64 0, .int .i64 0, .int .i64 0, .int .i64 0, .int .i64 0, .slice none 0 0] 0 7 S ?_; clear S; intro jB S)
    | fail)
   refine bodyPost_ret (bK rfl _ _ b4 26 #[.int .u8 0, .int .i64 0, .int .i64 0, .int .i64 0, .int .i64 0, .int .i64 0, .slice none 0 0] (0, 0) _ rfl (S.out.blk _ (.head _) _ rfl) Try.underlying26 rfl (by kernel_rfl)) rfl ?_
   exact ⟨_, _, rfl, Kd.GX _ _ _ _ _, S.out.below⟩
  ·by_cases h1 : i ≥ (l.length : Int)
   ·rw [if_pos (.inr h1)]
    have uk : decide (i < 0) = false := decide_eq_false h0
    have h1b : decide (i ≥ (l.length : Int)) = true := decide_eq_true h1
    have h1c : decide ((l.length : Int) ≤ i) = true := decide_eq_true h1
    go_enter Try.func92, Try.ntmps92
    go_wp2_with (first
     | ((with_reducible refine aj 2 rfl ?_); refine boxS 2 #[.int .u8 ck, .int .i64 cx, .int .i64 cy, .int .i64 cw, .int .i64 ch, .int .i64 ay, .slice A l.length cc] 26 S ?_; clear S; intro b2 eH S)
     | ((with_reducible refine aj 4 rfl ?_); refine boxS 4 #[.int .u8 0, .int .i64 0, .int .i64 0, .int .i64 0, .int .i64 0, .int .i64 0, .slice none 0 0] 26 S ?_; clear S; intro b4 fG S; have gY := (S.out.cell _ (.head _)).1; have bu := (S.out.at (.tail _ (.head _)) 6).trans rfl)
     | fail)
    go_quiet (fail)
    clear gY bu
    replace S := ae.mk (S.out.call (dC (Below.refl _ _) nq))
    generalize fG.drewN nq = Vz at S ⊢
    go_wp2_with (first
     | ((with_reducible refine dB 26 (.tmp 4) (.tmp 23) rfl ?_); refine gI 26 4 23 #[.int .u8 0, .int .i64 0, .int .i64 0, .int .i64 0, .int .i64 0, .int .i64 0, .slice none 0 0] 0 7 S ?_; clear S; intro jB S)
     | fail)
    refine bodyPost_ret (bK rfl _ _ b4 26 #[.int .u8 0, .int .i64 0, .int .i64 0, .int .i64 0, .int .i64 0, .int .i64 0, .slice none 0 0] (0, 0) _ rfl (S.out.blk _ (.head _) _ rfl) Try.underlying26 rfl (by kernel_rfl)) rfl ?_
    exact ⟨_, _, rfl, Kd.GX _ _ _ _ _, S.out.below⟩
   ·rw [if_neg (fun h => h.elim h0 h1)]
    have uk : decide (i < 0) = false := decide_eq_false h0
    have h1b : decide (i ≥ (l.length : Int)) = false := decide_eq_false h1
    have h1c : decide ((l.length : Int) ≤ i) = false := decide_eq_false h1
    have h0z : 0 ≤ i := by omega
    have h1z : i < (l.length : Int) := by omega
    obtain ⟨dM, ua, uc, ek, S1⟩ := S.out.elem (.head _) i h0z h1z
    subst ek
    replace S := ae.mk S1
    clear S1
    generalize aG l i = k at S ⊢
    obtain ⟨i0, hi0, _, hsz, _⟩ := info_parts info3
    have hcut := FW (P := Try.prog) 41 3 .i64 Try.underlying41 hi0 1 hsz (some wJ) (is.length + 1) cb 1 (by omega) (by omega)
    have hdrop := Kd.KP HI.out (m := 1) (by rw [List.length_cons]; omega) LI.out
    obtain ⟨A2, hA2⟩ : ∃ A2, A2 = (if cb = (1 : Int).toNat then (some wJ) else ((some wJ) : Option Addr).map (·.add ((1 : Int).toNat * 1))) := ⟨_, rfl⟩
    obtain ⟨c2, hc2⟩ : ∃ c2, c2 = cb - (1 : Int).toNat := ⟨_, rfl⟩
    rw [← hA2, ← hc2, show is.length + 1 - (1 : Int).toNat = is.length by simp] at hcut
    have HI2 := ae.mk (show Kd.C (Kd.int .i64) w A2 is.length is by rw [hA2]; exact hdrop)
    have Sm := ae.mk (show is.length ≤ c2 by have h3 := LI.out; rw [hc2]; simp; omega)
    have Dy := ae.mk hcut
    clear hdrop hA2 hc2 hi0 hsz hcut h0 h1
    have wI := fun Q W h1 h2 => IH.out k Q ua uc A2 c2 W h1 h2 Sm.out
    cases hp : rP k is with
    | none =>
     simp only [hp] at wI ⊢
     have hcut := Dy.out
     go_enter Try.func92, Try.ntmps92
     go_wp2_with (first
      | ((with_reducible refine aj 2 rfl ?_); refine boxS 2 #[.int .u8 ck, .int .i64 cx, .int .i64 cy, .int .i64 cw, .int .i64 ch, .int .i64 ay, .slice (some dM) l.length cc] 26 S ?_; clear S; intro b2 eH S)
      | ((with_reducible refine aj 4 rfl ?_); refine boxS 4 #[.int .u8 0, .int .i64 0, .int .i64 0, .int .i64 0, .int .i64 0, .int .i64 0, .slice none 0 0] 26 S ?_; clear S; intro b4 fG S; have wK := (S.out.cell _ (.tail _ (.tail _ (.tail _ (.tail _ (.tail _ (.tail _ (.tail _ (.head _))))))))).1; have bu := (S.out.at (.tail _ (.head _)) 6).trans rfl)
      | fail)
     go_quiet (fail)
     clear wK bu
     replace S := ae.mk (S.out.call (dC (Below.refl _ _) nq))
     generalize fG.drewN nq = Vz at S ⊢
     go_wp2
     refine iR (n := 14) (S := fun w' => St w _ _ _ _ _ w') (ds := [12]) (bA 14 0) (by kernel_rfl) rfl rfl (S.out.call (bC (Below.refl _ _))) (fun hHeld => ?_); refine fJ xw.yA xw.uD (fun ak dZ => ?_)
     replace S := ae.mk (S.out.call (bC (Below.refl _ _)))
     generalize Vz.drew = wd4 at S hHeld ⊢
     refine au 0 24 (bA 14 1) ak ?_
     refine dE 1 25 (bA 14 3) ak dZ hHeld ?_ (hv := by intro w' hs_; have bu := (hs_.at (.tail _ (.head _)) 6).trans rfl; go_simp; with_reducible rfl)
     refine au 2 26 (bA 14 7) ak ?_
     refine au 3 27 (bA 14 15) ak ?_
     refine dE 4 28 (bA 14 31) ak dZ hHeld ?_ (hv := by intro w' hs_; have wK := (hs_.cell _ (.tail _ (.tail _ (.tail _ (.tail _ (.tail _ (.tail _ (.tail _ (.head _))))))))).1; go_simp; with_reducible rfl)
     refine au 5 29 (bA 14 63) ak ?_
     refine dE 6 30 (bA 14 127) ak dZ hHeld ?_ (hv := by intro w' hs_; have gY := (hs_.cell _ (.head _)).1; have iM := (hs_.cell _ (.tail _ (.head _))).1; have iO := (hs_.cell _ (.tail _ (.tail _ (.head _)))).1; have iC := (hs_.cell _ (.tail _ (.tail _ (.tail _ (.head _))))).1; have iD := (hs_.cell _ (.tail _ (.tail _ (.tail _ (.tail _ (.head _)))))).1; have jv := (hs_.cell _ (.tail _ (.tail _ (.tail _ (.tail _ (.tail _ (.head _))))))).1; have jw := (hs_.cell _ (.tail _ (.tail _ (.tail _ (.tail _ (.tail _ (.tail _ (.head _)))))))).1; go_simp; with_reducible rfl)
     refine au 7 31 (bA 14 255) ak ?_
     refine au 8 32 (bA 14 511) ak ?_
     refine gU (i := 9) (N := some 33) (bA 14 1023) rfl rfl (bY ak.out (by kernel_rfl)) (by decide) (fun K hK => ?_)
     refine fK Try.func92 (by kernel_rfl) rfl #[.agg #[.int .u8 k.f0, .int .i64 k.f1.f0, .int .i64 k.f1.f1, .int .i64 k.f1.f2, .int .i64 k.f1.f3, .int .i64 k.f2, .slice ua k.f3.length uc], .slice A2 is.length c2] (by rfl) rfl rfl (by (try simp only [List.map_toArray, List.map_cons, List.map_nil]); first | done | rfl) ?_
     refine (wI _ _ (dO (S.out.tree _ (.head _))) (Kd.fC HI2.out S.out.below)).mono ?_
     rintro e lQ ⟨BG, CB, rfl, h1, hb⟩
     refine ⟨_, rfl, ?_⟩
     replace S := ae.mk (S.out.res h1 hb)
     clear h1 hb
     refine hK.out _ _ S.out.bW (fun hHeld => ?_)
     clear hK K
     refine dR 33 ?_
     refine au 10 34 (bA 14 2047) ak ?_
     refine au 11 35 (bA 14 4095) ak ?_
     refine mO (i := 12) (N := none) (bA 14 8191) rfl rfl (bY ak.out (by kernel_rfl)) (by decide) (fun K hK => ?_)
     refine oJ 0 rfl 26 (.tmp 4) (.tmp 34) rfl #[.int .u8 0, .int .i64 0, .int .i64 0, .int .i64 0, .int .i64 0, .int .i64 0, .slice BG (([] : List ai).length) CB] (j := 0) (u := .agg #[.int .u8 0, .int .i64 0, .int .i64 0, .int .i64 0, .int .i64 0, .int .i64 0, .slice BG (([] : List ai).length) CB]) (bP := [.int .u8 0, .int .i64 0, .int .i64 0, .int .i64 0, .int .i64 0, .int .i64 0, .slice BG (([] : List ai).length) CB]) S.out (by rfl) rfl rfl rfl rfl (by kernel_rfl) (by simp [Value.oneCell']) (by first | decide | simp) rfl ?_
     intro rG S1
     simp only [List.set_cons_zero, List.set_cons_succ] at S1
     replace S := ae.mk S1
     clear S1
     refine hK.out _ _ ?_
     clear hK K
     refine au 13 5 (bA 14 16383) ak ?_
     refine jI (gQ ak.out (by kernel_rfl)) ?_
     clear hHeld
     go_wp2
     refine bodyPost_ret (bK rfl _ _ b4 26 #[.int .u8 0, .int .i64 0, .int .i64 0, .int .i64 0, .int .i64 0, .int .i64 0, .slice BG (([] : List ai).length) CB] (0, 0) _ rfl (S.out.blk _ (.head _) _ rfl) Try.underlying26 rfl (by kernel_rfl)) rfl ?_
     exact ⟨_, _, rfl, S.out.AO (.head _), S.out.below⟩
    | some z =>
     simp only [hp] at wI ⊢
     have hcut := Dy.out
     go_enter Try.func92, Try.ntmps92
     go_wp2_with (first
      | ((with_reducible refine aj 2 rfl ?_); refine boxS 2 #[.int .u8 ck, .int .i64 cx, .int .i64 cy, .int .i64 cw, .int .i64 ch, .int .i64 ay, .slice (some dM) l.length cc] 26 S ?_; clear S; intro b2 eH S)
      | ((with_reducible refine aj 4 rfl ?_); refine boxS 4 #[.int .u8 0, .int .i64 0, .int .i64 0, .int .i64 0, .int .i64 0, .int .i64 0, .slice none 0 0] 26 S ?_; clear S; intro b4 fG S; have wK := (S.out.cell _ (.tail _ (.tail _ (.tail _ (.tail _ (.tail _ (.tail _ (.tail _ (.head _))))))))).1; have bu := (S.out.at (.tail _ (.head _)) 6).trans rfl)
      | fail)
     go_quiet (fail)
     clear wK bu
     replace S := ae.mk (S.out.call (dC (Below.refl _ _) nq))
     generalize fG.drewN nq = Vz at S ⊢
     go_wp2
     refine iR (n := 14) (S := fun w' => St w _ _ _ _ _ w') (ds := [12]) (bA 14 0) (by kernel_rfl) rfl rfl (S.out.call (bC (Below.refl _ _))) (fun hHeld => ?_); refine fJ xw.yA xw.uD (fun ak dZ => ?_)
     replace S := ae.mk (S.out.call (bC (Below.refl _ _)))
     generalize Vz.drew = wd4 at S hHeld ⊢
     refine au 0 24 (bA 14 1) ak ?_
     refine dE 1 25 (bA 14 3) ak dZ hHeld ?_ (hv := by intro w' hs_; have bu := (hs_.at (.tail _ (.head _)) 6).trans rfl; go_simp; with_reducible rfl)
     refine au 2 26 (bA 14 7) ak ?_
     refine au 3 27 (bA 14 15) ak ?_
     refine dE 4 28 (bA 14 31) ak dZ hHeld ?_ (hv := by intro w' hs_; have wK := (hs_.cell _ (.tail _ (.tail _ (.tail _ (.tail _ (.tail _ (.tail _ (.tail _ (.head _))))))))).1; go_simp; with_reducible rfl)
     refine au 5 29 (bA 14 63) ak ?_
     refine dE 6 30 (bA 14 127) ak dZ hHeld ?_ (hv := by intro w' hs_; have gY := (hs_.cell _ (.head _)).1; have iM := (hs_.cell _ (.tail _ (.head _))).1; have iO := (hs_.cell _ (.tail _ (.tail _ (.head _)))).1; have iC := (hs_.cell _ (.tail _ (.tail _ (.tail _ (.head _))))).1; have iD := (hs_.cell _ (.tail _ (.tail _ (.tail _ (.tail _ (.head _)))))).1; have jv := (hs_.cell _ (.tail _ (.tail _ (.tail _ (.tail _ (.tail _ (.head _))))))).1; have jw := (hs_.cell _ (.tail _ (.tail _ (.tail _ (.tail _ (.tail _ (.tail _ (.head _)))))))).1; go_simp; with_reducible rfl)
     refine au 7 31 (bA 14 255) ak ?_
     refine au 8 32 (bA 14 511) ak ?_
     refine gU (i := 9) (N := some 33) (bA 14 1023) rfl rfl (bY ak.out (by kernel_rfl)) (by decide) (fun K hK => ?_)
     refine fK Try.func92 (by kernel_rfl) rfl #[.agg #[.int .u8 k.f0, .int .i64 k.f1.f0, .int .i64 k.f1.f1, .int .i64 k.f1.f2, .int .i64 k.f1.f3, .int .i64 k.f2, .slice ua k.f3.length uc], .slice A2 is.length c2] (by rfl) rfl rfl (by (try simp only [List.map_toArray, List.map_cons, List.map_nil]); first | done | rfl) ?_
     refine (wI _ _ (dO (S.out.tree _ (.head _))) (Kd.fC HI2.out S.out.below)).mono ?_
     rintro e lQ ⟨BG, CB, rfl, h1, hb⟩
     refine ⟨_, rfl, ?_⟩
     replace S := ae.mk (S.out.res h1 hb)
     clear h1 hb
     refine hK.out _ _ S.out.bW (fun hHeld => ?_)
     clear hK K
     refine dR 33 ?_
     refine au 10 34 (bA 14 2047) ak ?_
     refine au 11 35 (bA 14 4095) ak ?_
     refine mO (i := 12) (N := none) (bA 14 8191) rfl rfl (bY ak.out (by kernel_rfl)) (by decide) (fun K hK => ?_)
     refine oJ 0 rfl 26 (.tmp 4) (.tmp 34) rfl #[.int .u8 z.f0, .int .i64 z.f1.f0, .int .i64 z.f1.f1, .int .i64 z.f1.f2, .int .i64 z.f1.f3, .int .i64 z.f2, .slice BG z.f3.length CB] (j := 0) (u := .agg #[.int .u8 z.f0, .int .i64 z.f1.f0, .int .i64 z.f1.f1, .int .i64 z.f1.f2, .int .i64 z.f1.f3, .int .i64 z.f2, .slice BG z.f3.length CB]) (bP := [.int .u8 z.f0, .int .i64 z.f1.f0, .int .i64 z.f1.f1, .int .i64 z.f1.f2, .int .i64 z.f1.f3, .int .i64 z.f2, .slice BG z.f3.length CB]) S.out (by rfl) rfl rfl rfl rfl (by kernel_rfl) (by simp [Value.oneCell']) (by first | decide | simp) rfl ?_
     intro rG S1
     simp only [List.set_cons_zero, List.set_cons_succ] at S1
     replace S := ae.mk S1
     clear S1
     refine hK.out _ _ ?_
     clear hK K
     refine au 13 5 (bA 14 16383) ak ?_
     refine jI (gQ ak.out (by kernel_rfl)) ?_
     clear hHeld
     go_wp2
     refine bodyPost_ret (bK rfl _ _ b4 26 #[.int .u8 z.f0, .int .i64 z.f1.f0, .int .i64 z.f1.f1, .int .i64 z.f1.f2, .int .i64 z.f1.f3, .int .i64 z.f2, .slice BG z.f3.length CB] (0, 0) _ rfl (S.out.blk _ (.head _) _ rfl) Try.underlying26 rfl (by kernel_rfl)) rfl ?_
     exact ⟨_, _, rfl, S.out.AO (.head _), S.out.below⟩
section
variable {W : World} {b : Nat} {P : Nat → Prop} {A B : Option Addr} {cc cb : Nat}
theorem YS (c : ai) (path : List Int) (z : ai) (hz : rP c path = some z) (hV : Kd.V k26 26 W b P (.slice A c.f3.length cc) c.f3) (hi : Kd.C (Kd.int .i64) W B path.length path) (hb : path.length ≤ cb) :
  Calls Try.prog 92 #[.agg #[.int .u8 c.f0, .int .i64 c.f1.f0, .int .i64 c.f1.f1, .int .i64 c.f1.f2, .int .i64 c.f1.f3, .int .i64 c.f2, .slice A c.f3.length cc], .slice B path.length cb] W fun e w' => ∃ A2 c2, e = .returned (.tuple #[.agg #[.int .u8 z.f0, .int .i64 z.f1.f0, .int .i64 z.f1.f1, .int .i64 z.f1.f2, .int .i64 z.f1.f3, .int .i64 z.f2, .slice A2 z.f3.length c2], .bool true]) ∧ Kd.V k26 26 w' W.heap.size (fun k => P k ∨ W.heap.size ≤ k) (.slice A2 z.f3.length c2) z.f3 ∧ Below W.heap.size W w' := by
 have h := acK path c P A cc B cb W (dO hV) hi hb
 rw [hz] at h
 exact h
theorem XA (c : ai) (path : List Int) (hz : rP c path = none) (hV : Kd.V k26 26 W b P (.slice A c.f3.length cc) c.f3) (hi : Kd.C (Kd.int .i64) W B path.length path) (hb : path.length ≤ cb) :
  Calls Try.prog 92 #[.agg #[.int .u8 c.f0, .int .i64 c.f1.f0, .int .i64 c.f1.f1, .int .i64 c.f1.f2, .int .i64 c.f1.f3, .int .i64 c.f2, .slice A c.f3.length cc], .slice B path.length cb] W fun e w' => ∃ A2 c2, e = .returned (.tuple #[.agg #[.int .u8 0, .int .i64 0, .int .i64 0, .int .i64 0, .int .i64 0, .int .i64 0, .slice A2 ([] : List ai).length c2], .bool false]) ∧ Kd.V k26 26 w' W.heap.size (fun k => P k ∨ W.heap.size ≤ k) (.slice A2 ([] : List ai).length c2) ([] : List ai) ∧ Below W.heap.size W w' := by
 have h := acK path c P A cc B cb W (dO hV) hi hb
 rw [hz] at h
 exact h
end
section
variable {W : World} {b b' : Nat} {P : Nat → Prop} {A A' B : Option Addr} {cc cc' cb : Nat}
theorem agm (c kid : ai) (path : List Int) (z : ai) (hz : ry kid path c = some z) (hc : sz c ≤ 1000000) (hk : sz kid ≤ 1000000) (hV : Kd.V k26 26 W b P (.slice A c.f3.length cc) c.f3) (hV' : Kd.V k26 26 W b' P (.slice A' kid.f3.length cc') kid.f3) (hi : Kd.C (Kd.int .i64) W B path.length path) (hb : path.length ≤ cb) :
  Calls Try.prog 102 #[.agg #[.int .u8 c.f0, .int .i64 c.f1.f0, .int .i64 c.f1.f1, .int .i64 c.f1.f2, .int .i64 c.f1.f3, .int .i64 c.f2, .slice A c.f3.length cc], .agg #[.int .u8 kid.f0, .int .i64 kid.f1.f0, .int .i64 kid.f1.f1, .int .i64 kid.f1.f2, .int .i64 kid.f1.f3, .int .i64 kid.f2, .slice A' kid.f3.length cc'], .slice B path.length cb] W fun e w' => ∃ A2 c2, e = .returned (.tuple #[.agg #[.int .u8 z.f0, .int .i64 z.f1.f0, .int .i64 z.f1.f1, .int .i64 z.f1.f2, .int .i64 z.f1.f3, .int .i64 z.f2, .slice A2 z.f3.length c2], .bool true]) ∧ Kd.N k26 26 w' W.heap.size (fun k => P k ∨ W.heap.size ≤ k) (.slice A2 z.f3.length c2) z.f3 ∧ Below W.heap.size W w' := by
 have h := aeL path c kid P A cc A' cc' B cb W hc hk (dO hV) (dO hV') hi hb
 rw [hz] at h
 exact h
theorem aeW (c kid : ai) (path : List Int) (z : ai) (hz : ry kid path c = some z) (hc : sz c ≤ 1000000) (hV : Kd.V k26 26 W b P (.slice A c.f3.length cc) c.f3) (hV' : Kd.V k26 26 W b' P (.slice A' kid.f3.length cc') kid.f3) (hi : Kd.C (Kd.int .i64) W B path.length path) (hb : path.length ≤ cb) :
  Calls Try.prog 103 #[.agg #[.int .u8 c.f0, .int .i64 c.f1.f0, .int .i64 c.f1.f1, .int .i64 c.f1.f2, .int .i64 c.f1.f3, .int .i64 c.f2, .slice A c.f3.length cc], .agg #[.int .u8 kid.f0, .int .i64 kid.f1.f0, .int .i64 kid.f1.f1, .int .i64 kid.f1.f2, .int .i64 kid.f1.f3, .int .i64 kid.f2, .slice A' kid.f3.length cc'], .slice B path.length cb] W fun e w' => ∃ A2 c2, e = .returned (.tuple #[.agg #[.int .u8 z.f0, .int .i64 z.f1.f0, .int .i64 z.f1.f1, .int .i64 z.f1.f2, .int .i64 z.f1.f3, .int .i64 z.f2, .slice A2 z.f3.length c2], .bool true]) ∧ Kd.V k26 26 w' W.heap.size (fun k => P k ∨ W.heap.size ≤ k) (.slice A2 z.f3.length c2) z.f3 ∧ Below W.heap.size W w' := by
 have h := aeM path c kid P A cc A' cc' B cb W hc (dO hV) (dO hV') hi hb
 rw [hz] at h
 exact h
theorem Nq (id : Int) (c : ai) (r : Option (List Int)) (h : iP id c = r) (hc : sz c ≤ 1000000) (hV : Kd.V k26 26 W b P (.slice A c.f3.length cc) c.f3) :
  Calls Try.prog 89 #[.agg #[.int .u8 c.f0, .int .i64 c.f1.f0, .int .i64 c.f1.f1, .int .i64 c.f1.f2, .int .i64 c.f1.f3, .int .i64 c.f2, .slice A c.f3.length cc], .int .i64 id] W (xk W (r.getD []) r.isSome) := by
 have h2 := Kd.jY hV
 refine (adv id 1000000 c hc (Nat.le_refl _) A cc W h2.2.2 h2.2.1).mono (fun e w' ⟨v, he, hR, hB⟩ => ?_)
 rw [h] at he hR
 obtain ⟨A2, c2, rfl⟩ := Kd.fQ hR
 exact ⟨A2, c2, he, hR, hB⟩
theorem JM (id : Int) (c : ai) (p : List Int) (h : iP id c = some p) (hc : sz c ≤ 1000000) (hV : Kd.V k26 26 W b P (.slice A c.f3.length cc) c.f3) :
  Calls Try.prog 89 #[.agg #[.int .u8 c.f0, .int .i64 c.f1.f0, .int .i64 c.f1.f1, .int .i64 c.f1.f2, .int .i64 c.f1.f3, .int .i64 c.f2, .slice A c.f3.length cc], .int .i64 id] W (xk W p true) := Nq id c (some p) h hc hV
theorem Zo (id : Int) (c : ai) (h : iP id c = none) (hc : sz c ≤ 1000000) (hV : Kd.V k26 26 W b P (.slice A c.f3.length cc) c.f3) :
  Calls Try.prog 89 #[.agg #[.int .u8 c.f0, .int .i64 c.f1.f0, .int .i64 c.f1.f1, .int .i64 c.f1.f2, .int .i64 c.f1.f3, .int .i64 c.f2, .slice A c.f3.length cc], .int .i64 id] W (xk W [] false) := Nq id c none h hc hV
theorem PU (id : Int) (c : ai) (r : Option (List Int)) (h : iP id c = r) (hc : sz c ≤ 1000000) (hV : Kd.V k26 26 W b P (.slice A c.f3.length cc) c.f3) :
  Calls Try.prog 90 #[.agg #[.int .u8 c.f0, .int .i64 c.f1.f0, .int .i64 c.f1.f1, .int .i64 c.f1.f2, .int .i64 c.f1.f3, .int .i64 c.f2, .slice A c.f3.length cc], .int .i64 id] W (xk W (r.getD []) r.isSome) := by
 have h2 := abg id 1000000 c hc (Nat.le_refl _) b P A cc W hV
 rwa [h] at h2
theorem H9 (id : Int) (c : ai) (p : List Int) (h : iP id c = some p) (hc : sz c ≤ 1000000) (hV : Kd.V k26 26 W b P (.slice A c.f3.length cc) c.f3) :
  Calls Try.prog 90 #[.agg #[.int .u8 c.f0, .int .i64 c.f1.f0, .int .i64 c.f1.f1, .int .i64 c.f1.f2, .int .i64 c.f1.f3, .int .i64 c.f2, .slice A c.f3.length cc], .int .i64 id] W (xk W p true) := PU id c (some p) h hc hV
theorem XE (id : Int) (c : ai) (h : iP id c = none) (hc : sz c ≤ 1000000) (hV : Kd.V k26 26 W b P (.slice A c.f3.length cc) c.f3) :
  Calls Try.prog 90 #[.agg #[.int .u8 c.f0, .int .i64 c.f1.f0, .int .i64 c.f1.f1, .int .i64 c.f1.f2, .int .i64 c.f1.f3, .int .i64 c.f2, .slice A c.f3.length cc], .int .i64 id] W (xk W [] false) := PU id c none h hc hV
end
theorem UY {kid x : ai} : ∀ (path : List Int) (c : ai), rP c path = some x → ∃ z, ry kid path c = some z := by
 intro path
 induction path with
 | nil => intro c _; exact ⟨kid, rfl⟩
 | cons i is ih =>
  intro c h
  simp only [rP] at h
  split at h
  ·cases h
  ·rename_i hi
   obtain ⟨z, hz⟩ := ih _ h
   refine ⟨⟨c.f0, c.f1, c.f2, c.f3.set i.toNat z⟩, ?_⟩
   simp only [ry]
   rw [if_neg hi, hz]
section
variable {Pr : Program} {ops : Array Oper} {rest : List Oper} {op : Oper} {a : Act} {Q : Exit → Act → World → Prop} {w W : World} {P : Nat → Prop} {bs : List (Option Nat × Obj)} {ow : List (Value × List ai)} {ts : List (Value × List ai)} {ro : List (Addr × Value)}
theorem CP (N : Option Tmp) {f : FuncId} {fn : Func} (hf : Pr.funcs[f]? = some fn) {ar : Array Operand} {Et : Array TypeId} {args : Array Value} {l : List Int} {F : Option Addr → Nat → Value} (S : ae (St w P bs ow ts ro W))
  (hc : Calls Pr f args W fun e w' => ∃ A c, e = .returned (F A c) ∧ (Kd.int .i64).R 3 w' W.heap.size (fun _ => True) (.slice A l.length c) l ∧ Below W.heap.size W w')
  (h : ∀ A c o w1, ae (St w P (((Value.slice A l.length c).ownBlock, o) :: bs) ow ts ro w1) → ae (IR w.heap.size (.slice A l.length c) l o) → wpList Pr ops Q rest (a.put N (F A c)) w1) (hd : op.dst = N := by rfl) (hg : op.guard = none := by rfl) (hop : op.op = .call { callee := .value (.func f), args := ar, argTypes := Et } := by rfl)
  (hname : (fn.name == "runtime.NumGoroutine") = false := by kernel_rfl) (hb : fn.body.isSome = true := by rfl) (hargs : ar.map a.eval = args := by ((try simp only [List.map_toArray, List.map_cons, List.map_nil]); first | done | rfl)) : wpList Pr ops Q (op :: rest) a W :=
 jL N hd hg hf hname hb args hop hargs (hc.mono fun e w1 ⟨A, c, he, h1, hb⟩ => by
  obtain ⟨o, S1, HI⟩ := S.out.Dc h1 hb
  exact ⟨_, he, h A c o w1 ⟨S1⟩ ⟨HI⟩⟩)
end
section
variable {base : Nat} {W : World} {A : Option Addr} {c : Nat} {l : List Int} {o : Obj} {w : World} {P : Nat → Prop} {bs : List (Option Nat × Obj)} {ow : List (Value × List ai)} {ts : List (Value × List ai)} {ro : List (Addr × Value)}
theorem VM (HI : IR base (.slice A l.length c) l o) (S : St w P bs ow ts ro W) (hm : ((Value.slice A l.length c).ownBlock, o) ∈ bs) : Kd.C (Kd.int .i64) W A l.length l ∧ l.length ≤ c :=
 have h := Kd.dn (HI W (S.blk _ hm))
 ⟨h.2.2, h.2.1⟩
theorem EE {q : List Int} {m : Nat} (HI : IR base (.slice A l.length c) l o) (S : St w P bs ow ts ro W) (hm : ((Value.slice A l.length c).ownBlock, o) ∈ bs) (hq : q = l.take m ∧ m ≤ l.length) : Kd.C (Kd.int .i64) W A q.length q ∧ q.length ≤ c := by
 obtain ⟨h1, h2⟩ := VM HI S hm
 rw [hq.1]
 exact ⟨Kd.abW h1 hq.2, by rw [List.length_take]; omega⟩
end
section
theorem Nb {A : Option Addr} {c : Nat} {p q : List Int} (hq : q = p.take (p.length - 1)) (h0 : p.length ≠ 0) (h1 : p.length ≤ 1048576) (hc : p.length ≤ c) :
  ∀ W : World, (Instr.slice 41 (.slice A p.length c) none (some (.int .i64 (wrap64 ((p.length : Int) - 1)))) none).run Try.prog W = .ok (.slice A q.length c) W := by
 intro W
 obtain ⟨i0, hi0, _, hsz, _⟩ := info_parts info3
 have hw : wrap64 ((p.length : Int) - 1) = (p.length : Int) - 1 := by unfold wrap64; omega
 have h := adh (P := Try.prog) 41 3 .i64 Try.underlying41 hi0 A p.length c (wrap64 ((p.length : Int) - 1)) (by omega) (by omega) hc W
 rw [show (wrap64 ((p.length : Int) - 1)).toNat = q.length by rw [hq, List.length_take]; omega] at h
 exact h
end
end Go.Proofs.Ytfdmfgaiblfbhaa.P
namespace Go.Proofs.Ytfdmfgaiblfbhaa.P
open Go.RowKit Go.Proofs.ag.aW Go.Proofs.ag.dA Go.Proofs.ag.dU
attribute [local go_sem] kM kZ lN l7 kz kC kY lg
def eX.f (k : Nat) (a0 : Int) (a1 : Int) : Option (List Int × Bool) := if a1 < 1 then (some (([] : List Int), false)) else (if a1 > 20000 then (some (([] : List Int), false)) else (if a0 < (wrap64 ((wrap64 (2 * a1)) - 1)) then (some (([] : List Int), false)) else (if a0 > 2147483647 then (some (([] : List Int), false)) else (if 0 ≤ a1 then (if (a1 : Int).toNat ≤ 35184372088832 then ((aY.f k (wrap64 ((wrap64 (a0 - a1)) + 1)) (List.replicate (a1 : Int).toNat 0)).bind fun GZ => (some (GZ.1, true))) else (none)) else (none)))))
theorem eX.mono : ∀ a0 a1 k, je (eX.f k a0 a1) (eX.f (k + 1) a0 a1) := by
 intro a0 a1 k
 unfold eX.f
 repeat' first | (with_reducible exact aY.mono _ _ _) | (with_reducible exact je.refl _) | (with_reducible refine je.ite ?_ ?_) | (with_reducible refine je.bind ?_ (fun _ => ?_))
theorem eX.calls (k : Nat) (a0 : Int) (a1 : Int) (r1 : List Int) (r2 : Bool) (w : World) (h : eX.f k a0 a1 = some (r1, r2)) :
  Calls Try.prog 53 #[.int .i64 a0, .int .i64 a1] w fun e w' => ∃ o_ : Value, e = .returned (.tuple #[o_, .bool r2]) ∧ Kd.R (Kd.int .i64) 3 w' w.heap.size (fun _ => True) o_ r1 ∧ Below w.heap.size w w' := by
 have HB := ae.mk (Below.refl w.heap.size w)
 have H : (if a1 < 1 then (some (([] : List Int), false)) else (if a1 > 20000 then (some (([] : List Int), false)) else (if a0 < (wrap64 ((wrap64 (2 * a1)) - 1)) then (some (([] : List Int), false)) else (if a0 > 2147483647 then (some (([] : List Int), false)) else (if 0 ≤ a1 then (if (a1 : Int).toNat ≤ 35184372088832 then ((aY.f k (wrap64 ((wrap64 (a0 - a1)) + 1)) (List.replicate (a1 : Int).toNat 0)).bind fun GZ => (some (GZ.1, true))) else (none)) else (none)))))) = some (r1, r2) := h
 clear h
 by_cases c3 : a1 < 1
 ·rw [if_pos c3] at H
  have pq : decide (a1 < 1) = true := decide_eq_true c3
  clear c3
  simp only [Option.some.injEq, Prod.mk.injEq] at H
  obtain ⟨rfl, rfl⟩ := H
  go_enter Try.func53, Try.ntmps53
  go_wp2
  go_ret2
  exact ⟨_, by rfl, by exact Kd.pJ _ _ _ _ _, by repeat ((with_reducible exact HB.out))⟩
 ·rw [if_neg c3] at H
  have pq : decide (a1 < 1) = false := decide_eq_false c3
  clear c3
  by_cases c4 : a1 > 20000
  ·rw [if_pos c4] at H
   have yu : decide (20000 < a1) = true := decide_eq_true c4
   clear c4
   simp only [Option.some.injEq, Prod.mk.injEq] at H
   obtain ⟨rfl, rfl⟩ := H
   go_enter Try.func53, Try.ntmps53
   go_wp2
   go_ret2
   exact ⟨_, by rfl, by exact Kd.pJ _ _ _ _ _, by repeat ((with_reducible exact HB.out))⟩
  ·rw [if_neg c4] at H
   have yu : decide (20000 < a1) = false := decide_eq_false c4
   clear c4
   by_cases c5 : a0 < (wrap64 ((wrap64 (2 * a1)) - 1))
   ·rw [if_pos c5] at H
    have BR : decide (a0 < (wrap64 ((wrap64 (2 * a1)) - 1))) = true := decide_eq_true c5
    clear c5
    simp only [Option.some.injEq, Prod.mk.injEq] at H
    obtain ⟨rfl, rfl⟩ := H
    go_enter Try.func53, Try.ntmps53
    go_wp2
    go_ret2
    exact ⟨_, by rfl, by exact Kd.pJ _ _ _ _ _, by repeat ((with_reducible exact HB.out))⟩
   ·rw [if_neg c5] at H
    have BR : decide (a0 < (wrap64 ((wrap64 (2 * a1)) - 1))) = false := decide_eq_false c5
    clear c5
    by_cases c6 : a0 > 2147483647
    ·rw [if_pos c6] at H
     have vP : decide (2147483647 < a0) = true := decide_eq_true c6
     clear c6
     simp only [Option.some.injEq, Prod.mk.injEq] at H
     obtain ⟨rfl, rfl⟩ := H
     go_enter Try.func53, Try.ntmps53
     go_wp2
     go_ret2
     exact ⟨_, by rfl, by exact Kd.pJ _ _ _ _ _, by repeat ((with_reducible exact HB.out))⟩
    ·rw [if_neg c6] at H
     have vP : decide (2147483647 < a0) = false := decide_eq_false c6
     clear c6
     by_cases c7 : 0 ≤ a1
     ·rw [if_pos c7] at H
      have rU := eq_true c7
      have Qx : decide (0 ≤ a1) = true := decide_eq_true c7
      clear c7
      by_cases c8 : (a1 : Int).toNat ≤ 35184372088832
      ·rw [if_pos c8] at H
       have wS := eq_true c8
       have acU : decide ((a1 : Int).toNat ≤ 35184372088832) = true := decide_eq_true c8
       clear c8
       obtain ⟨X4, QR⟩ : ∃ y_ : List Int, y_ = (List.replicate (a1 : Int).toNat 0) := ⟨_, rfl⟩
       replace H : ((aY.f k (wrap64 ((wrap64 (a0 - a1)) + 1)) X4).bind fun GZ => (some (GZ.1, true))) = some (r1, r2) := by (rw [QR]; with_reducible exact H)
       have afC := ae.mk QR
       clear QR
       replace H := Option.bind_eq_some_iff.mp H
       obtain ⟨⟨ae5, ahM⟩, RJ, H⟩ := H
       replace H : (some (ae5, true)) = some (r1, r2) := H
       have A9 := ae.mk RJ
       clear RJ
       simp only [Option.some.injEq, Prod.mk.injEq] at H
       obtain ⟨rfl, rfl⟩ := H
       go_enter Try.func53, Try.ntmps53
       go_wp2_with (first | ((with_reducible refine aC (N := 31) rfl ?_); refine Kd.SG (Kd.int .i64) _ 3 rfl (N := 31) rfl 41 _ _ rfl a1 rfl rfl Try.underlying41 (.int .i64 0) 8 info3 rfl (by decide) (by omega) 0 (ok := fun _ => True) (gm := fun _ => True) rfl (fun _ hk => hk) trivial (of_decide_eq_true (by (with_reducible assumption))) (Nat.le_trans (Nat.mul_le_mul_right _ (of_decide_eq_true (by (with_reducible assumption)) : a1.toNat ≤ 35184372088832)) (by omega)) (Below.refl _ _) (Nat.le_refl _) ?_; intro alO w10 v_ hb lh iG; clear lh iG; (rw [← afC.out] at v_); have ED := ae.mk (Kd.iZ v_ (cO (by repeat ((with_reducible exact HB.out))))); replace HB := ae.mk (az (by repeat ((with_reducible exact HB.out))) hb); clear hb v_; obtain ⟨VF, Wi, Np⟩ := Kd.fQ ED.out; subst Np) | ((with_reducible refine gW (f := 49) rfl ?_); refine jL (some 32) rfl rfl Try.func49 (by kernel_rfl) rfl #[.int .i64 (wrap64 ((wrap64 (a0 - a1)) + 1)), .slice VF X4.length Wi] rfl (by (try simp only [List.map_toArray, List.map_cons, List.map_nil]); rfl) ?_; (with_reducible refine (aY.calls k (wrap64 ((wrap64 (a0 - a1)) + 1)) _ _ X4 ae5 ahM _ ?mD ?o8 A9.out).mono ?_); (case mD => repeat (exact (Kd.dn ED.out).2.2)); (case o8 => exact (Kd.dn ED.out).2.1); rintro e sG ⟨alP, rfl, ho0, hb⟩; refine ⟨_, rfl, ?_⟩; have afr := ae.mk (Kd.iZ (Kd.qP ho0 (Kd.uI ED.out)) (cO (by repeat ((with_reducible exact HB.out))))); replace ED := ae.mk (Kd.mV ED.out (Kd.nN ho0) hb); replace HB := ae.mk (az (by repeat ((with_reducible exact HB.out))) hb); (try clear hb); (try clear ho0)))
       go_ret2
       exact ⟨_, by rfl, by exact Kd.pX afr.out (fun _ hk => trivial), by repeat ((with_reducible exact HB.out))⟩
      ·rw [if_neg c8] at H
       exact absurd H (by simp)
     ·rw [if_neg c7] at H
      exact absurd H (by simp)
end Go.Proofs.Ytfdmfgaiblfbhaa.P
