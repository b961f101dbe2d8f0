/- The row of the law PushIs, second form (what it reads is of bulk at most 1048576), out of its plain law and its walk. -/
import Derived.Test.YtfdmfgaiblfbhaaMPushIsf
import Derived.Test.YtfdmfgaiblfbhaaMPushIsd
import Derived.Test.YtfdmfgaiblfbhaaMPushIse
import Derived.Test.YtfdmfgaiblfbhaaMPushIsc
import Derived.ProofKit
import Derived.Deep.Slices
import Derived.Lib.SmallJoins
import Derived.OpenShut
import Derived.Test.YtfdmfgaiblfbhaaRows
import Derived.WalkKit
import Derived.ShutString
import Derived.ChangeOld
import Derived.Below
import Derived.SizedLaws
import Derived.JoinedCond
set_option maxHeartbeats 8000000
set_option maxRecDepth 100000
set_option linter.unusedVariables false
set_option linter.unusedSimpArgs false
namespace Go.Proofs.Ytfdmfgaiblfbhaa.P
open Go.RowKit Go.Proofs.ag.aV Go.Proofs.ag.bP Go.Proofs.ag.cO
def zL.T3 : Bool × List (List Nat × List Nat) := (true, [([], []), ([], []), ([1], [1]), ([0, 0], [0]), ([3, 0, 3], []), ([2, 4, 0, 1, 2, 3, 4], [2])])
def zL.B3 : List Nat := [0, 0, 2, 1, 9, 31]
theorem zL.Lp : iM .any (opsOf Try.f115 3) = zL.T3 := by kernel_rfl
theorem zL.Gv : gZ zL.T3.2 zL.B3 = true := by kernel_rfl
def ug.T13 : Bool × List (List Nat × List Nat) := (true, [([], []), ([], []), ([], []), ([], []), ([3], [3]), ([0, 1, 2, 4], [0, 1, 2, 4]), ([], []), ([6], [6]), ([], []), ([], []), ([5, 7, 8, 9, 5], [5, 7, 8, 9]), ([10, 10, 0, 1, 2, 3, 4, 5, 6, 7, 8, 9, 10], [10])])
def ug.B13 : List Nat := [0, 0, 0, 0, 8, 31, 0, 64, 0, 0, 1023, 2047]
theorem ug.Z7 : iM .any (opsOf Try.f115 13) = ug.T13 := by kernel_rfl
theorem ug.U0 : gZ ug.T13.2 ug.B13 = true := by kernel_rfl
def uh.T17 : Bool × List (List Nat × List Nat) := (true, [([], []), ([], []), ([], []), ([], []), ([3], [3]), ([0, 1, 2, 4], [0, 1, 2, 4]), ([], []), ([6], [6]), ([7], [7]), ([], []), ([], []), ([5, 8, 9, 10, 5], [5, 8, 9, 10]), ([11, 11, 0, 1, 2, 3, 4, 5, 6, 7, 8, 9, 10, 11], [11])])
def uh.B17 : List Nat := [0, 0, 0, 0, 8, 31, 0, 64, 192, 0, 0, 2047, 4095]
theorem uh.Z8 : iM .any (opsOf Try.f115 17) = uh.T17 := by kernel_rfl
theorem uh.U1 : gZ uh.T17.2 uh.B17 = true := by kernel_rfl
theorem RU {ax id : Int} {c : ai} {p pq : List Int} {d : Nat} {z : ai} {q : Nat} {b : Nat} {P : Nat → Prop} {A : Option Addr} {cc : Nat} {w : World} (h : qV ax id c p d z q) (hpq : pq = p.take d) (hz : sz c ≤ 1000000) (hv : Kd.V k26 26 w b P (.slice A c.f3.length cc) c.f3) :
  Calls Try.prog 116 #[.agg #[.int .u8 c.f0, .int .i64 c.f1.f0, .int .i64 c.f1.f1, .int .i64 c.f1.f2, .int .i64 c.f1.f3, .int .i64 c.f2, .slice A c.f3.length cc], .int .i64 id, .int .u8 ax] w (fun e w' => ∃ Ap cp op, e = .returned (.agg #[.slice Ap pq.length cp, .int .i64 (q : Int), .int .i64 0]) ∧ IR w.heap.size (.slice Ap p.length cp) p op ∧ (∀ g, (Value.slice Ap p.length cp).ownBlock = some g → w.heap.size ≤ g ∧ w'.heap[g]? = some op) ∧ Below w.heap.size w w') := by
 subst hpq
 exact (QZ c hz id ax b P A cc w hv).2 p d z q h.kN h.hax h.find h.ZG h.fr
theorem En {ax : Int} {q : Nat} {m : Bool} {L : List ai} {i : Nat} {args : Array Value} {W : World} (h : jY ax q m L = some i) (hc : Calls Try.prog 159 args W fun e w' => e = .returned (.int .i64 (KU (jY ax q m L))) ∧ Below W.heap.size W w') : Calls Try.prog 159 args W fun e w' => e = .returned (.int .i64 (i : Int)) ∧ Below W.heap.size W w' := by
 rw [h] at hc
 exact hc
theorem Em {ax : Int} {q : Nat} {m : Bool} {L : List ai} {args : Array Value} {W : World} (h : jY ax q m L = none) (hc : Calls Try.prog 159 args W fun e w' => e = .returned (.int .i64 (KU (jY ax q m L))) ∧ Below W.heap.size W w') : Calls Try.prog 159 args W fun e w' => e = .returned (.int .i64 (-1)) ∧ Below W.heap.size W w' := by
 rw [h] at hc
 exact hc
theorem Eo {ax G : Int} {k : ai} {args : Array Value} {W : World} (h : aH ax k = G) (hc : Calls Try.prog 160 args W fun e w' => e = .returned (.int .i64 (aH ax k)) ∧ Below W.heap.size W w') : Calls Try.prog 160 args W fun e w' => e = .returned (.int .i64 G) ∧ Below W.heap.size W w' := by
 rw [h] at hc
 exact hc
theorem zW {ax n j : Int} {i : Nat} (hj : j = (i : Int)) (z : ai) (L : List ai) {M : List ai} {b : Nat} {P : Nat → Prop} {A : Option Addr} {cc : Nat} {W : World} (h : M = cZ ax i n L) (hz : dU L ≤ 1000000) (hi : i < L.length) (hv : Kd.V k26 26 W b P (.slice A L.length cc) L) :
  Calls Try.prog 161 #[.agg #[.int .u8 z.f0, .int .i64 z.f1.f0, .int .i64 z.f1.f1, .int .i64 z.f1.f2, .int .i64 z.f1.f3, .int .i64 z.f2, .slice A L.length cc], .int .i64 j, .int .u8 ax, .int .i64 n] W (yX W P ⟨z.f0, z.f1, z.f2, M⟩) := by
 subst h hj
 exact acN ⟨z.f0, z.f1, z.f2, L⟩ hz i hi ax n P A cc W (eY hv)
theorem St.Uf {w W : World} {P : Nat → Prop} {bs : List (Option Nat × Obj)} {ow ts ts' : List (Value × List ai)} {ro : List (Addr × Value)} (S : St w P bs ow ts ro W) (h : ∀ t, t ∈ ts' → t ∈ ts) : St w P bs ow ts' ro W :=
 ⟨S.below, S.blk, S.new, S.nd, fun t ht => S.tree t (h t ht), S.own, S.cell⟩
theorem YW (c : ai) (hz : sz c ≤ 1000000) (id ax aC : Int) (hb : -9223372036854775808 ≤ aC ∧ aC ≤ 9223372036854775807) (P : Nat → Prop) (A : Option Addr) (cc : Nat) (w : World) (hv : Kd.V k26 26 w w.heap.size P (.slice A c.f3.length cc) c.f3) :
  Calls Try.prog 115 #[.agg #[.int .u8 c.f0, .int .i64 c.f1.f0, .int .i64 c.f1.f1, .int .i64 c.f1.f2, .int .i64 c.f1.f3, .int .i64 c.f2, .slice A c.f3.length cc], .int .i64 id, .int .u8 ax, .int .i64 aC] w (Jh w P (qU ax id aC c)) := by
 have S := ae.mk (St.start (ts := [(.slice A c.f3.length cc, c.f3)]) (b0 := w.heap.size) (w := w) (P := P) (fun t ht => by rw [List.mem_singleton.1 ht]; exact hv))
 have HZ := ae.mk hz
 have zk := ae.mk hb
 clear hz hv hb
 by_cases hn0 : AU ax id c = 0
 case pos =>
  obtain ⟨p, d0, z, q, hF⟩ := Po hn0
  have hs := hF.zs
  have hps := fun y => IM ⟨z.f0, z.f1, z.f2, (nG ax aC q z.f3).1⟩ (p.take d0) c y
  have hpz := (IK (aC := aC) hF.hax hF.good hF.fr.next).1
  obtain ⟨y, hy⟩ := WN (kid := ⟨z.f0, z.f1, z.f2, (nG ax aC q z.f3).1⟩) (p.take d0) c hF.fr.at'
  have hys := hps y hy
  have hk6 := bV ⟨z.f0, z.f1, z.f2, (nG ax aC q z.f3).1⟩
  simp only [] at hk6
  rw [y9 hF]
  obtain ⟨RR, hRR⟩ : ∃ r, Ei ax aC c z (p.take d0) q = r := ⟨_, rfl⟩
  rw [hRR]
  unfold Ei at hRR
  rw [hy] at hRR
  have hat := hF.fr.at'
  obtain ⟨pq, hpq⟩ : ∃ pq, pq = p.take d0 := ⟨_, rfl⟩
  rw [← hpq] at hy hat
  obtain ⟨⟨L', n'⟩, hr⟩ : ∃ r, nG ax aC q z.f3 = r := ⟨_, rfl⟩
  rw [hr] at hy hpz hys hk6 hRR
  simp only [Option.getD_some] at hy hpz hys hk6 hRR
  have HRR := ae.mk hRR
  obtain ⟨s, hgd⟩ : ∃ s, rZ ax s z.f3 := ⟨_, hF.good⟩
  have zl := ae.mk hF
  have jh := ae.mk hF.hax
  have N8 := ae.mk hF.fr.next
  have Dl := ae.mk (show dU z.f3 ≤ 1000000 by omega)
  have gY := ae.mk (show z.f3.length ≤ 1000000 by have := ig z.f3; omega)
  have H9 := ae.mk hy
  have HAT := ae.mk hat
  have je := ae.mk (And.intro hpq (Nat.le_of_lt hF.fr.hd))
  have Jd := ae.mk (show sz y ≤ 1000000 by omega)
  have EH : 0 ≤ aH ax (kd z.f3 (place q (decide (0 < aC)))) := by
   have hp : place q (decide (0 < aC)) < z.f3.length := by have := hF.fr.next; unfold place; split <;> omega
   have := Pure.jA hF.hax (hgd.kN _ (jP hp))
   omega
  have hi0 := su.start hgd (p := place q (decide (0 < aC))) (by have := hF.fr.next; unfold place; split <;> omega)
  have He : gW ax q (decide (0 < aC)) (nX aC) 10001 z.f3 0 = (L', (if decide (0 < aC) = true then n' else -n')) := by
   unfold nG at hr
   injection hr with h1 h2
   rw [← h1, ← h2]
   split <;> simp
  clear hn0 hF hs hps hpz hys hk6 hr hy hpq hat hgd hRR
  obtain ⟨ck, ⟨cx, cy, cw, ch⟩, ay, l⟩ := c
  simp only [] at S ⊢
  by_cases hp : 0 < aC
  case pos =>
   rw [decide_eq_true hp] at hi0 EH He
   simp only [if_true] at He
   have hi0 : su ax s q (dU z.f3) z.f3 z.f3 0 := hi0
   have EH : 0 ≤ aH ax (kd z.f3 q) := EH
   have Bq := ae.mk (show q = place q true from rfl)
   rw [show nX aC = aC by unfold nX; rw [if_pos hp]] at He
   have L_ := ae.mk hp
   have HI0 := ae.mk hi0
   have EN := ae.mk EH
   have HR := ae.mk He
   obtain ⟨hba, hbb⟩ := nz (a := 0) (b := aC) (by omega)
   clear hp hi0 EH He
   go_enter Try.func115, Try.ntmps115
   go_wp2_with (first | (refine boxS 4 _ 26 S ?_; clear S; intro b4 di S) | (refine boxS 8 _ 26 S ?_; clear S; intro b8 dS S; obtain ⟨d_, dn, dA, ed, eF, eG, dM⟩ := St.dD S aY) | (refine iT (some 22) Try.func116 (RU zl.out je.out.1 HZ.out (S.out.tree _ (.head _))) ?_; rintro e gq ⟨Ap, cp, op, rfl, CQ, hk, hb⟩; refine ⟨_, rfl, ?_⟩; have iC := ae.mk CQ; replace S := ae.mk (S.out.OJ _ hk hb); clear CQ hk hb; clear d_ dn dA ed eF eG dM) | (refine boxS 11 _ 110 S ?_; clear S; intro b11 gz S) | (refine gy 110 11 22 #[.slice Ap pq.length cp, .int .i64 (q : Int), .int .i64 0] 0 3 S ?_; clear S; intro kG S; obtain ⟨d_, dn, dA, ed, eF, eG, dM⟩ := St.dD S jB; have n_ := (S.out.at (.head _) 2).trans rfl; have jO := (S.out.at (.head _) 0).trans rfl) | (refine ZH (some 33) Try.func92 S (zf ⟨ck, ⟨cx, cy, cw, ch⟩, ay, l⟩ pq z HAT.out (S.out.tree _ (.head _)) (dY iC.out S.out aY je.out).1 (dY iC.out S.out aY je.out).2) ?_; clear S; intro Az cz tJ S; clear d_ dn dA ed eF eG dM n_ jO) | (refine boxS 12 _ 26 S ?_; clear S; intro b12 vV S) | (refine gy 26 12 34 #[.int .u8 z.f0, .int .i64 z.f1.f0, .int .i64 z.f1.f1, .int .i64 z.f1.f2, .int .i64 z.f1.f3, .int .i64 z.f2, .slice Az z.f3.length cz] 0 7 S ?_; clear S; intro wV S))
   go_loopg [14] 10001 (fun gg v14 wr => ∃ (KL : List ai) (Ax : Option Addr) (AP : Nat) (d : Int) (f : Nat), v14 = .int .i64 d ∧ ae (gW ax q true aC f KL d = (L', n')) ∧ ae (su ax s q (dU z.f3) z.f3 KL d) ∧ ae (10001 ≤ (f : Int) + d) ∧ f ≤ gg ∧ ae (d ≤ aC) ∧ ae (St w P [(some b12, .cells #[.int .u8 z.f0, .int .i64 z.f1.f0, .int .i64 z.f1.f1, .int .i64 z.f1.f2, .int .i64 z.f1.f3, .int .i64 z.f2, .slice Ax KL.length AP] 26 (0, 0)), (some b11, .cells #[.slice Ap pq.length cp, .int .i64 (q : Int), .int .i64 0] 110 (0, 0)), ((Value.slice Ap p.length cp).ownBlock, op), (some b8, .cells #[.int .u8 0, .int .i64 0, .int .i64 0, .int .i64 0, .int .i64 0, .int .i64 0, .slice none 0 0] 26 (0, 0)), (some b4, .cells #[.int .u8 ck, .int .i64 cx, .int .i64 cy, .int .i64 cw, .int .i64 ch, .int .i64 ay, .slice A l.length cc] 26 (0, 0))] [] [(.slice Ax KL.length AP, KL), (.slice A l.length cc, l)] [] wr))
   case atStart => exact ⟨z.f3, _, _, 0, 10001, rfl, HR, HI0, ⟨by omega⟩, Nat.le_refl _, ⟨by have := L_.out; omega⟩, S⟩
   case round =>
    clear S HR HI0
    obtain ⟨KL, Ax, AP, d, f, rfl, HR, HI, HF, hgg, UA, S⟩ := hrel
    have HD := ae.mk (HI.out.small jh.out EN.out)
    have HD0 := ae.mk HI.out.d0
    have v_ := ae.mk (show q + 1 < KL.length by rw [HI.out.len]; exact N8.out)
    have ik := ae.mk (show dU KL ≤ 1000000 by rw [HI.out.z]; exact Dl.out)
    by_cases hl : aC ≤ d
    case pos =>
     have hrr := (t_ hl).symm.trans HR.out
     have BL : L' = KL := (congrArg Prod.fst hrr).symm
     have hnd : n' = d := by have h := congrArg Prod.snd hrr; simp only [] at h; omega
     have AX := ae.mk (show pO ⟨z.f0, z.f1, z.f2, KL⟩ pq ⟨ck, ⟨cx, cy, cw, ch⟩, ay, l⟩ = some y by rw [← BL]; exact H9.out)
     have hrq := HRR.out
     rw [hnd] at hrq
     have sZ : d = aC := by have := UA.out; omega
     obtain ⟨hxa, hxb, hxd⟩ := rU (a := d) (b := aC) (by omega)
     have Uz := ae.mk sZ
     clear hl hgg hrr
     by_cases hb0 : aC = 0
     case pos =>
      rw [if_neg (fun h => h.2 hb0)] at hrq
      subst hrq
      obtain ⟨Fq, sZ, hdd⟩ := rU (a := d) (b := 0) (by omega)
      obtain ⟨hya, hyb, MN⟩ := rU (a := aC) (b := 0) (by omega)
      clear hb0 sZ hnd BL
      obtain ⟨fO, fP, fQ, fU, fV, fZ, f_⟩ := St.dD S (.head _)
      obtain ⟨d_, dn, dA, ed, eF, eG, dM⟩ := St.dD S lK
      have jO := (S.out.at aY 0).trans rfl
      go_wp2_with (first | (refine iT (some 111) Try.func103 (DK ⟨ck, ⟨cx, cy, cw, ch⟩, ay, l⟩ ⟨z.f0, z.f1, z.f2, KL⟩ pq y AX.out HZ.out (S.out.tree _ aY) (S.out.tree _ (.head _)) (dY iC.out S.out dL je.out).1 (dY iC.out S.out dL je.out).2) ?_; rintro e di ⟨Ay, BJ, rfl, h1, hb⟩; refine ⟨_, rfl, ?_⟩; replace S := ae.mk (S.out.res h1 hb); clear h1 hb; clear fO fP fQ fU fV fZ f_ d_ dn dA ed eF eG dM jO) | (refine boxS 17 _ 26 S ?_; clear S; intro b17 dS S) | (refine gy 26 17 112 #[.int .u8 y.f0, .int .i64 y.f1.f0, .int .i64 y.f1.f1, .int .i64 y.f1.f2, .int .i64 y.f1.f3, .int .i64 y.f2, .slice Ay y.f3.length BJ] 0 7 S ?_; clear S; intro gq S; obtain ⟨uG, uH, uI, uJ, uK, uM, uN⟩ := St.dD S (.head _); have dn := (S.out.at qB 1).trans rfl; have dA := (S.out.at qB 2).trans rfl) | (refine Ba (some 121) Try.func67 S (zF y cx cy Jd.out (S.out.tree _ (.head _))) ?_; clear S; intro As cs gz S; clear uG uH uI uJ uK uM uN dn dA) | (refine KZ 26 8 121 #[.int .u8 ((bD y cx cy).f0), .int .i64 ((bD y cx cy).f1.f0), .int .i64 ((bD y cx cy).f1.f1), .int .i64 ((bD y cx cy).f1.f2), .int .i64 ((bD y cx cy).f1.f3), .int .i64 ((bD y cx cy).f2), .slice As ((bD y cx cy).f3.length) cs] 0 7 S ?_; clear S; intro kG S))
      refine bodyPost_ret (kF rfl _ _ b8 26 _ (0, 0) _ rfl (S.out.blk _ lK _ rfl) Try.underlying26 rfl (by kernel_rfl)) rfl ?_
      exact ⟨_, _, (by (rw [Uz.out]; rfl)), S.out.oV, S.out.below⟩
     case neg =>
      rw [if_neg (fun h => hb0 (sZ.symm.trans h.1))] at hrq
      subst hrq
      obtain ⟨Fq, sZ, hdd⟩ := eqF (a := d) (b := 0) (by omega)
      obtain ⟨hya, hyb, MN⟩ := eqF (a := aC) (b := 0) (by omega)
      clear hb0 sZ hnd BL
      obtain ⟨fO, fP, fQ, fU, fV, fZ, f_⟩ := St.dD S (.head _)
      obtain ⟨d_, dn, dA, ed, eF, eG, dM⟩ := St.dD S lK
      have jO := (S.out.at aY 0).trans rfl
      go_wp2_with (first | (refine iT (some 111) Try.func103 (DK ⟨ck, ⟨cx, cy, cw, ch⟩, ay, l⟩ ⟨z.f0, z.f1, z.f2, KL⟩ pq y AX.out HZ.out (S.out.tree _ aY) (S.out.tree _ (.head _)) (dY iC.out S.out dL je.out).1 (dY iC.out S.out dL je.out).2) ?_; rintro e di ⟨Ay, BJ, rfl, h1, hb⟩; refine ⟨_, rfl, ?_⟩; replace S := ae.mk (S.out.res h1 hb); clear h1 hb; clear fO fP fQ fU fV fZ f_ d_ dn dA ed eF eG dM jO) | (refine boxS 17 _ 26 S ?_; clear S; intro b17 dS S) | (refine gy 26 17 112 #[.int .u8 y.f0, .int .i64 y.f1.f0, .int .i64 y.f1.f1, .int .i64 y.f1.f2, .int .i64 y.f1.f3, .int .i64 y.f2, .slice Ay y.f3.length BJ] 0 7 S ?_; clear S; intro gq S; obtain ⟨uG, uH, uI, uJ, uK, uM, uN⟩ := St.dD S (.head _); have dn := (S.out.at qB 1).trans rfl; have dA := (S.out.at qB 2).trans rfl) | (refine Ba (some 121) Try.func67 S (zF y cx cy Jd.out (S.out.tree _ (.head _))) ?_; clear S; intro As cs gz S; clear uG uH uI uJ uK uM uN dn dA) | (refine KZ 26 8 121 #[.int .u8 ((bD y cx cy).f0), .int .i64 ((bD y cx cy).f1.f0), .int .i64 ((bD y cx cy).f1.f1), .int .i64 ((bD y cx cy).f1.f2), .int .i64 ((bD y cx cy).f1.f3), .int .i64 ((bD y cx cy).f2), .slice As ((bD y cx cy).f3.length) cs] 0 7 S ?_; clear S; intro kG S))
      refine bodyPost_ret (kF rfl _ _ b8 26 _ (0, 0) _ rfl (S.out.blk _ lK _ rfl) Try.underlying26 rfl (by kernel_rfl)) rfl ?_
      exact ⟨_, _, (by (rw [Uz.out]; rfl)), S.out.oV, S.out.below⟩
    case neg =>
     have sV := ae.mk (show d < aC by omega)
     have nH := ae.mk hl
     have sZ : ¬ (d = aC) := by have := UA.out; have := sV.out; omega
     obtain ⟨hxa, hxb, hxd⟩ := eqF (a := d) (b := aC) (by omega)
     clear hl sZ
     cases hgv : jY ax q true KL with
     | none =>
      have HG := ae.mk hgv
      have hrr := (wR hgv).symm.trans HR.out
      have BL : L' = KL := (congrArg Prod.fst hrr).symm
      have hnd : n' = d := by have h := congrArg Prod.snd hrr; simp only [] at h; omega
      have AX := ae.mk (show pO ⟨z.f0, z.f1, z.f2, KL⟩ pq ⟨ck, ⟨cx, cy, cw, ch⟩, ay, l⟩ = some y by rw [← BL]; exact H9.out)
      have hrq := HRR.out
      rw [hnd] at hrq
      have hb0 : aC ≠ 0 := by have := sV.out; have := HD0.out; omega
      clear hgv hgg hrr
      have h47 : decide ((-1 : Int) < 0) = true := rfl
      by_cases hd0 : d = 0
      case pos =>
       rw [if_pos ⟨by omega, hb0⟩] at hrq
       subst hrq
       obtain ⟨Fq, sZ, hdd⟩ := rU (a := d) (b := 0) (by omega)
       obtain ⟨hya, hyb, MN⟩ := eqF (a := aC) (b := 0) (by omega)
       clear hb0 hd0 hnd BL
       obtain ⟨fO, fP, fQ, fU, fV, fZ, f_⟩ := St.dD S (.head _)
       have jm := (S.out.at aY 1).trans rfl
       go_wp2_with (first | (refine bG (some 45) Try.func159 S (Em HG.out (rW ⟨z.f0, z.f1, z.f2, KL⟩ ik.out q true v_.out ax jh.out (fun j hj => HI.out.good.kN _ (jP hj)) _ _ _ _ _ (S.out.tree _ (.head _)))) ?_; clear S; intro di S; clear fO fP fQ fU fV fZ f_ jm) | (refine KY 26 8 105 #[.int .u8 0, .int .i64 0, .int .i64 0, .int .i64 0, .int .i64 0, .int .i64 0, .slice none 0 0] 0 7 S ?_; clear S; intro dS S))
       refine bodyPost_ret (kF rfl _ _ b8 26 _ (0, 0) _ rfl (S.out.blk _ jB _ rfl) Try.underlying26 rfl (by kernel_rfl)) rfl ?_
       exact ⟨_, _, rfl, Kd.oO _ _ _ _ _, S.out.below⟩
      case neg =>
       rw [if_neg (fun h => hd0 (by omega))] at hrq
       subst hrq
       obtain ⟨Fq, sZ, hdd⟩ := eqF (a := d) (b := 0) (by omega)
       clear hb0 hd0 hnd BL
       obtain ⟨fO, fP, fQ, fU, fV, fZ, f_⟩ := St.dD S (.head _)
       have jm := (S.out.at aY 1).trans rfl
       go_wp2_with (first | (refine bG (some 45) Try.func159 S (Em HG.out (rW ⟨z.f0, z.f1, z.f2, KL⟩ ik.out q true v_.out ax jh.out (fun j hj => HI.out.good.kN _ (jP hj)) _ _ _ _ _ (S.out.tree _ (.head _)))) ?_; clear S; intro di S; clear fO fP fQ fU fV fZ f_ jm; obtain ⟨fO, fP, fQ, fU, fV, fZ, f_⟩ := St.dD S (.head _); obtain ⟨d_, dn, dA, ed, eF, eG, dM⟩ := St.dD S lK; have jO := (S.out.at aY 0).trans rfl) | (refine iT (some 111) Try.func103 (DK ⟨ck, ⟨cx, cy, cw, ch⟩, ay, l⟩ ⟨z.f0, z.f1, z.f2, KL⟩ pq y AX.out HZ.out (S.out.tree _ aY) (S.out.tree _ (.head _)) (dY iC.out S.out dL je.out).1 (dY iC.out S.out dL je.out).2) ?_; rintro e dS ⟨Ay, BJ, rfl, h1, hb⟩; refine ⟨_, rfl, ?_⟩; replace S := ae.mk (S.out.res h1 hb); clear h1 hb; clear fO fP fQ fU fV fZ f_ d_ dn dA ed eF eG dM jO) | (refine boxS 17 _ 26 S ?_; clear S; intro b17 gq S) | (refine gy 26 17 112 #[.int .u8 y.f0, .int .i64 y.f1.f0, .int .i64 y.f1.f1, .int .i64 y.f1.f2, .int .i64 y.f1.f3, .int .i64 y.f2, .slice Ay y.f3.length BJ] 0 7 S ?_; clear S; intro gz S; obtain ⟨uG, uH, uI, uJ, uK, uM, uN⟩ := St.dD S (.head _); have dn := (S.out.at qB 1).trans rfl; have dA := (S.out.at qB 2).trans rfl) | (refine Ba (some 121) Try.func67 S (zF y cx cy Jd.out (S.out.tree _ (.head _))) ?_; clear S; intro As cs kG S; clear uG uH uI uJ uK uM uN dn dA) | (refine KZ 26 8 121 #[.int .u8 ((bD y cx cy).f0), .int .i64 ((bD y cx cy).f1.f0), .int .i64 ((bD y cx cy).f1.f1), .int .i64 ((bD y cx cy).f1.f2), .int .i64 ((bD y cx cy).f1.f3), .int .i64 ((bD y cx cy).f2), .slice As ((bD y cx cy).f3.length) cs] 0 7 S ?_; clear S; intro tJ S))
       refine bodyPost_ret (kF rfl _ _ b8 26 _ (0, 0) _ rfl (S.out.blk _ lK _ rfl) Try.underlying26 rfl (by kernel_rfl)) rfl ?_
       exact ⟨_, _, (by rfl), S.out.oV, S.out.below⟩
     | some i =>
      have hs := yl hgv v_.out
      have HG := ae.mk hgv
      have g_ := ae.mk hs.1
      have uz := ae.mk (show i ≠ q by rw [Bq.out]; exact hs.2.1)
      have hg2 := Pure.jA jh.out (HI.out.good.kN _ (jP hs.1))
      have Iz := hs.2.2
      obtain ⟨G, hG⟩ : ∃ g, aH ax (kd KL i) = g := ⟨_, rfl⟩
      rw [hG] at hg2 Iz
      have Ey := ae.mk hG
      have xU := ae.mk Iz
      have qW := ae.mk (show G ≤ 10000 by omega)
      have fM := ae.mk hgg
      have hf : f ≠ 0 := by have := HF.out; have := HD.out; omega
      obtain ⟨f', rfl⟩ : ∃ f', f = f' + 1 := ⟨f - 1, by omega⟩
      have hstep := (tZ nH.out hgv).symm.trans HR.out
      rw [show place q true = q from Bq.out.symm, hG] at hstep
      have HST := ae.mk hstep
      have h47 : decide ((i : Int) < 0) = false := decide_eq_false (by omega)
      have aiP : ¬ ((i : Int) < 0) := by omega
      obtain ⟨u, hu⟩ : ∃ u, wrap64 (aC - d) = u := ⟨_, rfl⟩
      have HU := ae.mk (show u = aC - d by rw [← hu]; have := zk.out; have := HD.out; have := HD0.out; have := L_.out; unfold wrap64; omega)
      clear hs hgv hgg hg2 Iz hf hstep hG
      by_cases hmn : aC - d < G
      case pos =>
       have FN : u = aC - d := HU.out
       have hmv : mn (aC - d) G = u := by rw [FN]; unfold mn; rw [if_neg (by omega)]
       have xW := ae.mk (show u = aC - d from FN)
       have hc : u < G ↔ aC - d < G := by have := HU.out; omega
       have hca : decide (u < G) = true := decide_eq_true (hc.2 hmn)
       have hcb : decide (G > u) = true := hca
       have r_ := ae.mk (show gW ax q true aC f' (cZ ax q u (cZ ax i (-u) KL)) (d + u) = (L', n') by have h := HST.out; rw [hmv] at h; exact h)
       have jE := ae.mk (show 0 < u by have := xU.out; have := sV.out; have := xW.out; omega)
       have nY := ae.mk (show u ≤ aH ax (kd KL i) by rw [Ey.out]; have := xW.out; omega)
       have Bl := ae.mk (show u ≤ G by have := xW.out; omega)
       have NV := ae.mk (show d + u ≤ aC by have := xW.out; have := sV.out; omega)
       have xX := ae.mk (HI.out.step jh.out g_.out uz.out (Int.le_of_lt jE.out) nY.out)
       have hneg : wrap64 (-u) = -u := by have := qW.out; have := Bl.out; have := jE.out; unfold wrap64; omega
       obtain ⟨L1, hL1⟩ : ∃ L, L = cZ ax i (wrap64 (-u)) KL := ⟨_, rfl⟩
       have G_ := ae.mk hL1
       have sN : L1 = cZ ax i (-u) KL := by rw [hL1, hneg]
       obtain ⟨L2, hL2⟩ : ∃ L, L = cZ ax q u L1 := ⟨_, rfl⟩
       have HL2 := ae.mk hL2
       have xh := ae.mk (show q < L1.length by rw [sN, show (cZ ax i (-u) KL).length = KL.length from List.length_set]; exact HI.out.FY)
       have xg := ae.mk (show dU L1 ≤ 1000000 by rw [sN, (HI.out.good.move jh.out g_.out (n := -u) (by have := nY.out; omega) (by have := HI.out.good.small; have := jE.out; omega)).2.2.2.2.1]; exact ik.out)
       rw [← sN, ← hL2] at r_ xX
       have NW := ae.mk (show wrap64 (d + u) = d + u by have := qW.out; have := Bl.out; have := jE.out; have := HD.out; have := HD0.out; unfold wrap64; omega)
       clear hneg sN hL1 hL2 hmv hmn hc FN
       obtain ⟨fO, fP, fQ, fU, fV, fZ, f_⟩ := St.dD S (.head _)
       have jm := (S.out.at aY 1).trans rfl
       go_wp2_with (first | (refine bG (some 45) Try.func159 S (En HG.out (rW ⟨z.f0, z.f1, z.f2, KL⟩ ik.out q true v_.out ax jh.out (fun j hj => HI.out.good.kN _ (jP hj)) _ _ _ _ _ (S.out.tree _ (.head _)))) ?_; clear S; intro di S; clear fO fP fQ fU fV fZ f_ jm; obtain ⟨fO, fP, fQ, fU, fV, fZ, f_⟩ := St.dD S (.head _)) | (refine bG (some 51) Try.func160 S (Eo Ey.out (o7 ⟨z.f0, z.f1, z.f2, KL⟩ ik.out i g_.out ax jh.out (HI.out.good.kN _ (jP g_.out)) _ _ _ _ _ (S.out.tree _ (.head _)))) ?_; clear S; intro dS S; clear fO fP fQ fU fV fZ f_))
       refine gX (n := 12) (S := fun w' => St w _ _ _ _ _ w') (ds := [11]) (bA 12 0) (by kernel_rfl) rfl rfl (S.out.call (a_ (Below.refl _ _))) (fun hHeld => ?_); refine dZ ug.Z7 ug.U0 (fun aj dE => ?_)
       replace S := ae.mk (S.out.call (a_ (Below.refl _ _)))
       generalize dS.drew = wd3 at S hHeld ⊢
       refine b_ 0 62 (bA 12 1) aj dE hHeld ?_ (hv := by intro w' hs_; have fO := (hs_.at (.head _) 0).trans rfl; have fP := (hs_.at (.head _) 1).trans rfl; have fQ := (hs_.at (.head _) 2).trans rfl; have fU := (hs_.at (.head _) 3).trans rfl; have fV := (hs_.at (.head _) 4).trans rfl; have fZ := (hs_.at (.head _) 5).trans rfl; have f_ := (hs_.at (.head _) 6).trans rfl; go_simp; with_reducible rfl)
       refine ak 1 63 (bA 12 3) aj ?_
       refine ak 2 64 (bA 12 7) aj ?_
       refine ak 3 65 (bA 12 15) aj ?_
       refine ak 4 66 (bA 12 31) aj ?_
       refine ak 6 68 (bA 12 95) aj ?_
       refine b_ 7 69 (bA 12 223) aj dE hHeld ?_ (hv := by intro w' hs_; have jm := (hs_.at aY 1).trans rfl; go_simp; with_reducible rfl)
       refine ak 8 70 (bA 12 479) aj ?_
       refine ak 9 71 (bA 12 991) aj ?_
       refine iL 5 (some 67) (bA 12 1023) aj (fun K hK => ?_)
       refine ja Try.func161 (by kernel_rfl) rfl #[.agg #[.int .u8 z.f0, .int .i64 z.f1.f0, .int .i64 z.f1.f1, .int .i64 z.f1.f2, .int .i64 z.f1.f3, .int .i64 z.f2, .slice Ax KL.length AP], .int .i64 (i : Int), .int .u8 ax, .int .i64 (wrap64 (-u))] (by rfl) rfl rfl (by (try simp only [List.map_toArray, List.map_cons, List.map_nil]); rfl) ?_
       refine (zW rfl z KL G_.out ik.out g_.out (S.out.tree _ (.head _))).mono ?_
       rintro e gz ⟨A1, c1, rfl, h1, hb⟩
       refine ⟨_, rfl, ?_⟩
       replace S := ae.mk (S.out.res (Kd.oD (base' := 0) h1) hb)
       clear h1 hb
       refine hK.out _ _ S.out.bQ (fun hHeld => ?_)
       clear hK K
       refine dR 67 ?_
       refine iL 10 (some 72) (bA 12 2047) aj (fun K hK => ?_)
       refine ja Try.func161 (by kernel_rfl) rfl #[.agg #[.int .u8 z.f0, .int .i64 z.f1.f0, .int .i64 z.f1.f1, .int .i64 z.f1.f2, .int .i64 z.f1.f3, .int .i64 z.f2, .slice A1 L1.length c1], .int .i64 (q : Int), .int .u8 ax, .int .i64 u] (by rfl) rfl rfl (by (try simp only [List.map_toArray, List.map_cons, List.map_nil]); rfl) ?_
       refine (zW rfl z L1 HL2.out xg.out xh.out (S.out.tree _ (.head _))).mono ?_
       rintro e kG ⟨A2, c2, rfl, h1, hb⟩
       refine ⟨_, rfl, ?_⟩
       replace S := ae.mk (S.out.res (Kd.oD (base' := 0) h1) hb)
       clear h1 hb
       refine hK.out _ _ S.out.bQ.bQ (fun hHeld => ?_)
       clear hK K
       refine dR 72 ?_
       refine lV 11 none (bA 12 4095) aj (fun K hK => ?_)
       refine lg 0 rfl 26 (.tmp 12) (.tmp 72) rfl #[.int .u8 z.f0, .int .i64 z.f1.f0, .int .i64 z.f1.f1, .int .i64 z.f1.f2, .int .i64 z.f1.f3, .int .i64 z.f2, .slice A2 L2.length c2] (j := 0) (u := .agg #[.int .u8 z.f0, .int .i64 z.f1.f0, .int .i64 z.f1.f1, .int .i64 z.f1.f2, .int .i64 z.f1.f3, .int .i64 z.f2, .slice A2 L2.length c2]) (bK := [.int .u8 z.f0, .int .i64 z.f1.f0, .int .i64 z.f1.f1, .int .i64 z.f1.f2, .int .i64 z.f1.f3, .int .i64 z.f2, .slice A2 L2.length c2]) S.out (by rfl) rfl rfl rfl rfl (by kernel_rfl) (by simp [Value.oneCell']) (by simp) rfl ?_
       intro tJ S1
       simp only [List.set_cons_zero, List.set_cons_succ] at S1
       replace S := ae.mk S1
       clear S1
       refine hK.out _ _ ?_
       clear hK K
       refine jf (fJ aj.out (by kernel_rfl)) ?_
       clear hHeld
       go_wp2
       go_roundg f'
       case measure => exact Nat.lt_of_lt_of_le (Nat.lt_succ_self _) fM.out
       case rel => exact ⟨L2, _, _, d + u, f', (by rw [NW.out]), r_, xX, ⟨by have := HF.out; have := jE.out; omega⟩, Nat.le_refl _, NV, ⟨S.out.Uf (fun t ht => by
        rcases List.mem_cons.1 ht with rfl | ht
        ·exact .head _
        ·rw [List.mem_singleton.1 ht]; exact jB)⟩⟩
      case neg =>
       have hmv : mn (aC - d) G = G := by unfold mn; split <;> omega
       have xW := ae.mk (show G = G from rfl)
       have hc : u < G ↔ aC - d < G := by have := HU.out; omega
       have hca : decide (u < G) = false := decide_eq_false (fun h => hmn (hc.1 h))
       have hcb : decide (G > u) = false := hca
       have r_ := ae.mk (show gW ax q true aC f' (cZ ax q G (cZ ax i (-G) KL)) (d + G) = (L', n') by have h := HST.out; rw [hmv] at h; exact h)
       have jE := ae.mk (show 0 < G by have := xU.out; have := sV.out; have := xW.out; omega)
       have nY := ae.mk (show G ≤ aH ax (kd KL i) by rw [Ey.out]; have := xW.out; omega)
       have Bl := ae.mk (show G ≤ G by have := xW.out; omega)
       have NV := ae.mk (show d + G ≤ aC by have := xW.out; have := sV.out; omega)
       have xX := ae.mk (HI.out.step jh.out g_.out uz.out (Int.le_of_lt jE.out) nY.out)
       have hneg : wrap64 (-G) = -G := by have := qW.out; have := Bl.out; have := jE.out; unfold wrap64; omega
       obtain ⟨L1, hL1⟩ : ∃ L, L = cZ ax i (wrap64 (-G)) KL := ⟨_, rfl⟩
       have G_ := ae.mk hL1
       have sN : L1 = cZ ax i (-G) KL := by rw [hL1, hneg]
       obtain ⟨L2, hL2⟩ : ∃ L, L = cZ ax q G L1 := ⟨_, rfl⟩
       have HL2 := ae.mk hL2
       have xh := ae.mk (show q < L1.length by rw [sN, show (cZ ax i (-G) KL).length = KL.length from List.length_set]; exact HI.out.FY)
       have xg := ae.mk (show dU L1 ≤ 1000000 by rw [sN, (HI.out.good.move jh.out g_.out (n := -G) (by have := nY.out; omega) (by have := HI.out.good.small; have := jE.out; omega)).2.2.2.2.1]; exact ik.out)
       rw [← sN, ← hL2] at r_ xX
       have NW := ae.mk (show wrap64 (d + G) = d + G by have := qW.out; have := Bl.out; have := jE.out; have := HD.out; have := HD0.out; unfold wrap64; omega)
       clear hneg sN hL1 hL2 hmv hmn hc
       obtain ⟨fO, fP, fQ, fU, fV, fZ, f_⟩ := St.dD S (.head _)
       have jm := (S.out.at aY 1).trans rfl
       go_wp2_with (first | (refine bG (some 45) Try.func159 S (En HG.out (rW ⟨z.f0, z.f1, z.f2, KL⟩ ik.out q true v_.out ax jh.out (fun j hj => HI.out.good.kN _ (jP hj)) _ _ _ _ _ (S.out.tree _ (.head _)))) ?_; clear S; intro di S; clear fO fP fQ fU fV fZ f_ jm; obtain ⟨fO, fP, fQ, fU, fV, fZ, f_⟩ := St.dD S (.head _)) | (refine bG (some 51) Try.func160 S (Eo Ey.out (o7 ⟨z.f0, z.f1, z.f2, KL⟩ ik.out i g_.out ax jh.out (HI.out.good.kN _ (jP g_.out)) _ _ _ _ _ (S.out.tree _ (.head _)))) ?_; clear S; intro dS S; clear fO fP fQ fU fV fZ f_))
       refine gX (n := 12) (S := fun w' => St w _ _ _ _ _ w') (ds := [11]) (bA 12 0) (by kernel_rfl) rfl rfl (S.out.call (a_ (Below.refl _ _))) (fun hHeld => ?_); refine dZ ug.Z7 ug.U0 (fun aj dE => ?_)
       replace S := ae.mk (S.out.call (a_ (Below.refl _ _)))
       generalize dS.drew = wd3 at S hHeld ⊢
       refine b_ 0 62 (bA 12 1) aj dE hHeld ?_ (hv := by intro w' hs_; have fO := (hs_.at (.head _) 0).trans rfl; have fP := (hs_.at (.head _) 1).trans rfl; have fQ := (hs_.at (.head _) 2).trans rfl; have fU := (hs_.at (.head _) 3).trans rfl; have fV := (hs_.at (.head _) 4).trans rfl; have fZ := (hs_.at (.head _) 5).trans rfl; have f_ := (hs_.at (.head _) 6).trans rfl; go_simp; with_reducible rfl)
       refine ak 1 63 (bA 12 3) aj ?_
       refine ak 2 64 (bA 12 7) aj ?_
       refine ak 3 65 (bA 12 15) aj ?_
       refine ak 4 66 (bA 12 31) aj ?_
       refine ak 6 68 (bA 12 95) aj ?_
       refine b_ 7 69 (bA 12 223) aj dE hHeld ?_ (hv := by intro w' hs_; have jm := (hs_.at aY 1).trans rfl; go_simp; with_reducible rfl)
       refine ak 8 70 (bA 12 479) aj ?_
       refine ak 9 71 (bA 12 991) aj ?_
       refine iL 5 (some 67) (bA 12 1023) aj (fun K hK => ?_)
       refine ja Try.func161 (by kernel_rfl) rfl #[.agg #[.int .u8 z.f0, .int .i64 z.f1.f0, .int .i64 z.f1.f1, .int .i64 z.f1.f2, .int .i64 z.f1.f3, .int .i64 z.f2, .slice Ax KL.length AP], .int .i64 (i : Int), .int .u8 ax, .int .i64 (wrap64 (-G))] (by rfl) rfl rfl (by (try simp only [List.map_toArray, List.map_cons, List.map_nil]); rfl) ?_
       refine (zW rfl z KL G_.out ik.out g_.out (S.out.tree _ (.head _))).mono ?_
       rintro e gz ⟨A1, c1, rfl, h1, hb⟩
       refine ⟨_, rfl, ?_⟩
       replace S := ae.mk (S.out.res (Kd.oD (base' := 0) h1) hb)
       clear h1 hb
       refine hK.out _ _ S.out.bQ (fun hHeld => ?_)
       clear hK K
       refine dR 67 ?_
       refine iL 10 (some 72) (bA 12 2047) aj (fun K hK => ?_)
       refine ja Try.func161 (by kernel_rfl) rfl #[.agg #[.int .u8 z.f0, .int .i64 z.f1.f0, .int .i64 z.f1.f1, .int .i64 z.f1.f2, .int .i64 z.f1.f3, .int .i64 z.f2, .slice A1 L1.length c1], .int .i64 (q : Int), .int .u8 ax, .int .i64 G] (by rfl) rfl rfl (by (try simp only [List.map_toArray, List.map_cons, List.map_nil]); rfl) ?_
       refine (zW rfl z L1 HL2.out xg.out xh.out (S.out.tree _ (.head _))).mono ?_
       rintro e kG ⟨A2, c2, rfl, h1, hb⟩
       refine ⟨_, rfl, ?_⟩
       replace S := ae.mk (S.out.res (Kd.oD (base' := 0) h1) hb)
       clear h1 hb
       refine hK.out _ _ S.out.bQ.bQ (fun hHeld => ?_)
       clear hK K
       refine dR 72 ?_
       refine lV 11 none (bA 12 4095) aj (fun K hK => ?_)
       refine lg 0 rfl 26 (.tmp 12) (.tmp 72) rfl #[.int .u8 z.f0, .int .i64 z.f1.f0, .int .i64 z.f1.f1, .int .i64 z.f1.f2, .int .i64 z.f1.f3, .int .i64 z.f2, .slice A2 L2.length c2] (j := 0) (u := .agg #[.int .u8 z.f0, .int .i64 z.f1.f0, .int .i64 z.f1.f1, .int .i64 z.f1.f2, .int .i64 z.f1.f3, .int .i64 z.f2, .slice A2 L2.length c2]) (bK := [.int .u8 z.f0, .int .i64 z.f1.f0, .int .i64 z.f1.f1, .int .i64 z.f1.f2, .int .i64 z.f1.f3, .int .i64 z.f2, .slice A2 L2.length c2]) S.out (by rfl) rfl rfl rfl rfl (by kernel_rfl) (by simp [Value.oneCell']) (by simp) rfl ?_
       intro tJ S1
       simp only [List.set_cons_zero, List.set_cons_succ] at S1
       replace S := ae.mk S1
       clear S1
       refine hK.out _ _ ?_
       clear hK K
       refine jf (fJ aj.out (by kernel_rfl)) ?_
       clear hHeld
       go_wp2
       go_roundg f'
       case measure => exact Nat.lt_of_lt_of_le (Nat.lt_succ_self _) fM.out
       case rel => exact ⟨L2, _, _, d + G, f', (by rw [NW.out]), r_, xX, ⟨by have := HF.out; have := jE.out; omega⟩, Nat.le_refl _, NV, ⟨S.out.Uf (fun t ht => by
        rcases List.mem_cons.1 ht with rfl | ht
        ·exact .head _
        ·rw [List.mem_singleton.1 ht]; exact jB)⟩⟩
  case neg =>
   rw [decide_eq_false hp] at hi0 EH He
   simp only [Bool.false_eq_true, if_false] at He
   obtain ⟨pl, hpl⟩ : ∃ p, p = place q false := ⟨_, rfl⟩
   rw [← hpl] at hi0 EH
   have Bq := ae.mk hpl
   have afy : pl = q + 1 := hpl
   obtain ⟨LF, E_⟩ : ∃ l, l = nX aC := ⟨_, rfl⟩
   rw [← E_] at He
   have Bj := ae.mk (show LF = if aC < -2147483647 then 2147483647 else -aC by rw [E_]; unfold nX; rw [if_neg hp])
   have hq1 : wrap64 ((q : Int) + 1) = (pl : Int) := by have := gY.out; have := N8.out; rw [afy]; unfold wrap64; omega
   have Jc := ae.mk hq1
   clear E_ hq1
   have L_ := ae.mk hp
   have HI0 := ae.mk hi0
   have EN := ae.mk EH
   have HR := ae.mk He
   obtain ⟨hba, hbb⟩ := lY (a := 0) (b := aC) (by omega)
   clear hp hi0 EH He hpl afy
   go_enter Try.func115, Try.ntmps115
   go_wp2_with (first | (refine boxS 4 _ 26 S ?_; clear S; intro b4 di S) | (refine boxS 8 _ 26 S ?_; clear S; intro b8 dS S; obtain ⟨d_, dn, dA, ed, eF, eG, dM⟩ := St.dD S aY) | (refine iT (some 22) Try.func116 (RU zl.out je.out.1 HZ.out (S.out.tree _ (.head _))) ?_; rintro e gq ⟨Ap, cp, op, rfl, CQ, hk, hb⟩; refine ⟨_, rfl, ?_⟩; have iC := ae.mk CQ; replace S := ae.mk (S.out.OJ _ hk hb); clear CQ hk hb; clear d_ dn dA ed eF eG dM) | (refine boxS 11 _ 110 S ?_; clear S; intro b11 gz S) | (refine gy 110 11 22 #[.slice Ap pq.length cp, .int .i64 (q : Int), .int .i64 0] 0 3 S ?_; clear S; intro kG S; obtain ⟨d_, dn, dA, ed, eF, eG, dM⟩ := St.dD S jB; have n_ := (S.out.at (.head _) 2).trans rfl; have jO := (S.out.at (.head _) 0).trans rfl) | (refine ZH (some 33) Try.func92 S (zf ⟨ck, ⟨cx, cy, cw, ch⟩, ay, l⟩ pq z HAT.out (S.out.tree _ (.head _)) (dY iC.out S.out aY je.out).1 (dY iC.out S.out aY je.out).2) ?_; clear S; intro Az cz tJ S; clear d_ dn dA ed eF eG dM n_ jO) | (refine boxS 12 _ 26 S ?_; clear S; intro b12 vV S) | (refine gy 26 12 34 #[.int .u8 z.f0, .int .i64 z.f1.f0, .int .i64 z.f1.f1, .int .i64 z.f1.f2, .int .i64 z.f1.f3, .int .i64 z.f2, .slice Az z.f3.length cz] 0 7 S ?_; clear S; intro wV S))
   go_loopg [14] 10001 (fun gg v14 wr => ∃ (KL : List ai) (Ax : Option Addr) (AP : Nat) (d : Int) (f : Nat), v14 = .int .i64 (-d) ∧ ae (gW ax q false LF f KL d = (L', -n')) ∧ ae (su ax s pl (dU z.f3) z.f3 KL d) ∧ ae (10001 ≤ (f : Int) + d) ∧ f ≤ gg ∧ ae (d ≤ LF) ∧ ae (St w P [(some b12, .cells #[.int .u8 z.f0, .int .i64 z.f1.f0, .int .i64 z.f1.f1, .int .i64 z.f1.f2, .int .i64 z.f1.f3, .int .i64 z.f2, .slice Ax KL.length AP] 26 (0, 0)), (some b11, .cells #[.slice Ap pq.length cp, .int .i64 (q : Int), .int .i64 0] 110 (0, 0)), ((Value.slice Ap p.length cp).ownBlock, op), (some b8, .cells #[.int .u8 0, .int .i64 0, .int .i64 0, .int .i64 0, .int .i64 0, .int .i64 0, .slice none 0 0] 26 (0, 0)), (some b4, .cells #[.int .u8 ck, .int .i64 cx, .int .i64 cy, .int .i64 cw, .int .i64 ch, .int .i64 ay, .slice A l.length cc] 26 (0, 0))] [] [(.slice Ax KL.length AP, KL), (.slice A l.length cc, l)] [] wr))
   case atStart => exact ⟨z.f3, _, _, 0, 10001, rfl, HR, HI0, ⟨by omega⟩, Nat.le_refl _, ⟨by have h1 := Bj.out; have h2 := L_.out; rw [h1]; split <;> omega⟩, S⟩
   case round =>
    clear S HR HI0
    obtain ⟨KL, Ax, AP, d, f, rfl, HR, HI, HF, hgg, UA, S⟩ := hrel
    have HD := ae.mk (HI.out.small jh.out EN.out)
    have HD0 := ae.mk HI.out.d0
    have v_ := ae.mk (show q + 1 < KL.length by rw [HI.out.len]; exact N8.out)
    have ik := ae.mk (show dU KL ≤ 1000000 by rw [HI.out.z]; exact Dl.out)
    by_cases hl : LF ≤ d
    case pos =>
     have hrr := (t_ hl).symm.trans HR.out
     have BL : L' = KL := (congrArg Prod.fst hrr).symm
     have hnd : n' = -d := by have h := congrArg Prod.snd hrr; simp only [] at h; omega
     have AX := ae.mk (show pO ⟨z.f0, z.f1, z.f2, KL⟩ pq ⟨ck, ⟨cx, cy, cw, ch⟩, ay, l⟩ = some y by rw [← BL]; exact H9.out)
     have hrq := HRR.out
     rw [hnd] at hrq
     have sZ : -d = aC := by have := UA.out; have h1 := Bj.out; have := HD.out; split at h1 <;> omega
     obtain ⟨hxa, hxb, hxd⟩ := rU (a := -d) (b := aC) (by omega)
     have Uz := ae.mk sZ
     clear hl hgg hrr
     by_cases hb0 : aC = 0
     case pos =>
      rw [if_neg (fun h => h.2 hb0)] at hrq
      subst hrq
      obtain ⟨Fq, sZ, hdd⟩ := rU (a := d) (b := 0) (by omega)
      obtain ⟨hka, hkb, hkd⟩ := rU (a := -d) (b := 0) (by omega)
      obtain ⟨hya, hyb, MN⟩ := rU (a := aC) (b := 0) (by omega)
      clear hb0 sZ hnd BL
      obtain ⟨fO, fP, fQ, fU, fV, fZ, f_⟩ := St.dD S (.head _)
      obtain ⟨d_, dn, dA, ed, eF, eG, dM⟩ := St.dD S lK
      have jO := (S.out.at aY 0).trans rfl
      go_wp2_with (first | (refine iT (some 111) Try.func103 (DK ⟨ck, ⟨cx, cy, cw, ch⟩, ay, l⟩ ⟨z.f0, z.f1, z.f2, KL⟩ pq y AX.out HZ.out (S.out.tree _ aY) (S.out.tree _ (.head _)) (dY iC.out S.out dL je.out).1 (dY iC.out S.out dL je.out).2) ?_; rintro e di ⟨Ay, BJ, rfl, h1, hb⟩; refine ⟨_, rfl, ?_⟩; replace S := ae.mk (S.out.res h1 hb); clear h1 hb; clear fO fP fQ fU fV fZ f_ d_ dn dA ed eF eG dM jO) | (refine boxS 17 _ 26 S ?_; clear S; intro b17 dS S) | (refine gy 26 17 112 #[.int .u8 y.f0, .int .i64 y.f1.f0, .int .i64 y.f1.f1, .int .i64 y.f1.f2, .int .i64 y.f1.f3, .int .i64 y.f2, .slice Ay y.f3.length BJ] 0 7 S ?_; clear S; intro gq S; obtain ⟨uG, uH, uI, uJ, uK, uM, uN⟩ := St.dD S (.head _); have dn := (S.out.at qB 1).trans rfl; have dA := (S.out.at qB 2).trans rfl) | (refine Ba (some 121) Try.func67 S (zF y cx cy Jd.out (S.out.tree _ (.head _))) ?_; clear S; intro As cs gz S; clear uG uH uI uJ uK uM uN dn dA) | (refine KZ 26 8 121 #[.int .u8 ((bD y cx cy).f0), .int .i64 ((bD y cx cy).f1.f0), .int .i64 ((bD y cx cy).f1.f1), .int .i64 ((bD y cx cy).f1.f2), .int .i64 ((bD y cx cy).f1.f3), .int .i64 ((bD y cx cy).f2), .slice As ((bD y cx cy).f3.length) cs] 0 7 S ?_; clear S; intro kG S))
      refine bodyPost_ret (kF rfl _ _ b8 26 _ (0, 0) _ rfl (S.out.blk _ lK _ rfl) Try.underlying26 rfl (by kernel_rfl)) rfl ?_
      exact ⟨_, _, (by (rw [Uz.out]; rfl)), S.out.oV, S.out.below⟩
     case neg =>
      rw [if_neg (fun h => hb0 (sZ.symm.trans h.1))] at hrq
      subst hrq
      obtain ⟨Fq, sZ, hdd⟩ := eqF (a := d) (b := 0) (by omega)
      obtain ⟨hka, hkb, hkd⟩ := eqF (a := -d) (b := 0) (by omega)
      obtain ⟨hya, hyb, MN⟩ := eqF (a := aC) (b := 0) (by omega)
      clear hb0 sZ hnd BL
      obtain ⟨fO, fP, fQ, fU, fV, fZ, f_⟩ := St.dD S (.head _)
      obtain ⟨d_, dn, dA, ed, eF, eG, dM⟩ := St.dD S lK
      have jO := (S.out.at aY 0).trans rfl
      go_wp2_with (first | (refine iT (some 111) Try.func103 (DK ⟨ck, ⟨cx, cy, cw, ch⟩, ay, l⟩ ⟨z.f0, z.f1, z.f2, KL⟩ pq y AX.out HZ.out (S.out.tree _ aY) (S.out.tree _ (.head _)) (dY iC.out S.out dL je.out).1 (dY iC.out S.out dL je.out).2) ?_; rintro e di ⟨Ay, BJ, rfl, h1, hb⟩; refine ⟨_, rfl, ?_⟩; replace S := ae.mk (S.out.res h1 hb); clear h1 hb; clear fO fP fQ fU fV fZ f_ d_ dn dA ed eF eG dM jO) | (refine boxS 17 _ 26 S ?_; clear S; intro b17 dS S) | (refine gy 26 17 112 #[.int .u8 y.f0, .int .i64 y.f1.f0, .int .i64 y.f1.f1, .int .i64 y.f1.f2, .int .i64 y.f1.f3, .int .i64 y.f2, .slice Ay y.f3.length BJ] 0 7 S ?_; clear S; intro gq S; obtain ⟨uG, uH, uI, uJ, uK, uM, uN⟩ := St.dD S (.head _); have dn := (S.out.at qB 1).trans rfl; have dA := (S.out.at qB 2).trans rfl) | (refine Ba (some 121) Try.func67 S (zF y cx cy Jd.out (S.out.tree _ (.head _))) ?_; clear S; intro As cs gz S; clear uG uH uI uJ uK uM uN dn dA) | (refine KZ 26 8 121 #[.int .u8 ((bD y cx cy).f0), .int .i64 ((bD y cx cy).f1.f0), .int .i64 ((bD y cx cy).f1.f1), .int .i64 ((bD y cx cy).f1.f2), .int .i64 ((bD y cx cy).f1.f3), .int .i64 ((bD y cx cy).f2), .slice As ((bD y cx cy).f3.length) cs] 0 7 S ?_; clear S; intro kG S))
      refine bodyPost_ret (kF rfl _ _ b8 26 _ (0, 0) _ rfl (S.out.blk _ lK _ rfl) Try.underlying26 rfl (by kernel_rfl)) rfl ?_
      exact ⟨_, _, (by (rw [Uz.out]; rfl)), S.out.oV, S.out.below⟩
    case neg =>
     have sV := ae.mk (show d < LF by omega)
     have nH := ae.mk hl
     have sZ : ¬ (-d = aC) := by have := UA.out; have := sV.out; have h1 := Bj.out; have := HD.out; split at h1 <;> omega
     obtain ⟨hxa, hxb, hxd⟩ := eqF (a := -d) (b := aC) (by omega)
     clear hl sZ
     cases hgv : jY ax q false KL with
     | none =>
      have HG := ae.mk hgv
      have hrr := (wR hgv).symm.trans HR.out
      have BL : L' = KL := (congrArg Prod.fst hrr).symm
      have hnd : n' = -d := by have h := congrArg Prod.snd hrr; simp only [] at h; omega
      have AX := ae.mk (show pO ⟨z.f0, z.f1, z.f2, KL⟩ pq ⟨ck, ⟨cx, cy, cw, ch⟩, ay, l⟩ = some y by rw [← BL]; exact H9.out)
      have hrq := HRR.out
      rw [hnd] at hrq
      have hb0 : aC ≠ 0 := by have := sV.out; have := HD0.out; have h1 := Bj.out; split at h1 <;> omega
      clear hgv hgg hrr
      have h47 : decide ((-1 : Int) < 0) = true := rfl
      by_cases hd0 : d = 0
      case pos =>
       rw [if_pos ⟨by omega, hb0⟩] at hrq
       subst hrq
       obtain ⟨Fq, sZ, hdd⟩ := rU (a := d) (b := 0) (by omega)
       obtain ⟨hka, hkb, hkd⟩ := rU (a := -d) (b := 0) (by omega)
       obtain ⟨hya, hyb, MN⟩ := eqF (a := aC) (b := 0) (by omega)
       clear hb0 hd0 hnd BL
       obtain ⟨fO, fP, fQ, fU, fV, fZ, f_⟩ := St.dD S (.head _)
       have jm := (S.out.at aY 1).trans rfl
       go_wp2_with (first | (refine bG (some 45) Try.func159 S (Em HG.out (rW ⟨z.f0, z.f1, z.f2, KL⟩ ik.out q false v_.out ax jh.out (fun j hj => HI.out.good.kN _ (jP hj)) _ _ _ _ _ (S.out.tree _ (.head _)))) ?_; clear S; intro di S; clear fO fP fQ fU fV fZ f_ jm) | (refine KY 26 8 105 #[.int .u8 0, .int .i64 0, .int .i64 0, .int .i64 0, .int .i64 0, .int .i64 0, .slice none 0 0] 0 7 S ?_; clear S; intro dS S))
       refine bodyPost_ret (kF rfl _ _ b8 26 _ (0, 0) _ rfl (S.out.blk _ jB _ rfl) Try.underlying26 rfl (by kernel_rfl)) rfl ?_
       exact ⟨_, _, rfl, Kd.oO _ _ _ _ _, S.out.below⟩
      case neg =>
       rw [if_neg (fun h => hd0 (by omega))] at hrq
       subst hrq
       obtain ⟨Fq, sZ, hdd⟩ := eqF (a := d) (b := 0) (by omega)
       obtain ⟨hka, hkb, hkd⟩ := eqF (a := -d) (b := 0) (by omega)
       clear hb0 hd0 hnd BL
       obtain ⟨fO, fP, fQ, fU, fV, fZ, f_⟩ := St.dD S (.head _)
       have jm := (S.out.at aY 1).trans rfl
       go_wp2_with (first | (refine bG (some 45) Try.func159 S (Em HG.out (rW ⟨z.f0, z.f1, z.f2, KL⟩ ik.out q false v_.out ax jh.out (fun j hj => HI.out.good.kN _ (jP hj)) _ _ _ _ _ (S.out.tree _ (.head _)))) ?_; clear S; intro di S; clear fO fP fQ fU fV fZ f_ jm; obtain ⟨fO, fP, fQ, fU, fV, fZ, f_⟩ := St.dD S (.head _); obtain ⟨d_, dn, dA, ed, eF, eG, dM⟩ := St.dD S lK; have jO := (S.out.at aY 0).trans rfl) | (refine iT (some 111) Try.func103 (DK ⟨ck, ⟨cx, cy, cw, ch⟩, ay, l⟩ ⟨z.f0, z.f1, z.f2, KL⟩ pq y AX.out HZ.out (S.out.tree _ aY) (S.out.tree _ (.head _)) (dY iC.out S.out dL je.out).1 (dY iC.out S.out dL je.out).2) ?_; rintro e dS ⟨Ay, BJ, rfl, h1, hb⟩; refine ⟨_, rfl, ?_⟩; replace S := ae.mk (S.out.res h1 hb); clear h1 hb; clear fO fP fQ fU fV fZ f_ d_ dn dA ed eF eG dM jO) | (refine boxS 17 _ 26 S ?_; clear S; intro b17 gq S) | (refine gy 26 17 112 #[.int .u8 y.f0, .int .i64 y.f1.f0, .int .i64 y.f1.f1, .int .i64 y.f1.f2, .int .i64 y.f1.f3, .int .i64 y.f2, .slice Ay y.f3.length BJ] 0 7 S ?_; clear S; intro gz S; obtain ⟨uG, uH, uI, uJ, uK, uM, uN⟩ := St.dD S (.head _); have dn := (S.out.at qB 1).trans rfl; have dA := (S.out.at qB 2).trans rfl) | (refine Ba (some 121) Try.func67 S (zF y cx cy Jd.out (S.out.tree _ (.head _))) ?_; clear S; intro As cs kG S; clear uG uH uI uJ uK uM uN dn dA) | (refine KZ 26 8 121 #[.int .u8 ((bD y cx cy).f0), .int .i64 ((bD y cx cy).f1.f0), .int .i64 ((bD y cx cy).f1.f1), .int .i64 ((bD y cx cy).f1.f2), .int .i64 ((bD y cx cy).f1.f3), .int .i64 ((bD y cx cy).f2), .slice As ((bD y cx cy).f3.length) cs] 0 7 S ?_; clear S; intro tJ S))
       refine bodyPost_ret (kF rfl _ _ b8 26 _ (0, 0) _ rfl (S.out.blk _ lK _ rfl) Try.underlying26 rfl (by kernel_rfl)) rfl ?_
       exact ⟨_, _, (by rfl), S.out.oV, S.out.below⟩
     | some i =>
      have hs := yl hgv v_.out
      have HG := ae.mk hgv
      have g_ := ae.mk hs.1
      have uz := ae.mk (show i ≠ pl by rw [Bq.out]; exact hs.2.1)
      have hg2 := Pure.jA jh.out (HI.out.good.kN _ (jP hs.1))
      have Iz := hs.2.2
      obtain ⟨G, hG⟩ : ∃ g, aH ax (kd KL i) = g := ⟨_, rfl⟩
      rw [hG] at hg2 Iz
      have Ey := ae.mk hG
      have xU := ae.mk Iz
      have qW := ae.mk (show G ≤ 10000 by omega)
      have fM := ae.mk hgg
      have hf : f ≠ 0 := by have := HF.out; have := HD.out; omega
      obtain ⟨f', rfl⟩ : ∃ f', f = f' + 1 := ⟨f - 1, by omega⟩
      have hstep := (tZ nH.out hgv).symm.trans HR.out
      rw [show place q false = pl from Bq.out.symm, hG] at hstep
      have HST := ae.mk hstep
      have h47 : decide ((i : Int) < 0) = false := decide_eq_false (by omega)
      have aiP : ¬ ((i : Int) < 0) := by omega
      obtain ⟨u, hu⟩ : ∃ u, wrap64 (-d - G) = u := ⟨_, rfl⟩
      have HU := ae.mk (show u = -d - G by rw [← hu]; have := qW.out; have := xU.out; have := HD.out; have := HD0.out; unfold wrap64; omega)
      clear hs hgv hgg hg2 Iz hf hstep hG
      by_cases hmn : LF - d < G
      case pos =>
       obtain ⟨n, hn⟩ : ∃ n, wrap64 (-d - aC) = n := ⟨_, rfl⟩
       have FN : n = LF - d := by rw [← hn]; have h1 := Bj.out; have h2 := zk.out; have h3 := L_.out; have := HD.out; have := HD0.out; have := qW.out; split at h1 <;> (unfold wrap64; omega)
       have hmv : mn (LF - d) G = n := by rw [FN]; unfold mn; rw [if_neg (by omega)]
       have xW := ae.mk (show n = LF - d from FN)
       have hc : u < aC ↔ LF - d < G := by have := HU.out; have h1 := Bj.out; have := HD.out; have := HD0.out; have := qW.out; have := xU.out; split at h1 <;> omega
       have hca : decide (u < aC) = true := decide_eq_true (hc.2 hmn)
       have hcb : decide (aC > u) = true := hca
       have r_ := ae.mk (show gW ax q false LF f' (cZ ax pl n (cZ ax i (-n) KL)) (d + n) = (L', -n') by have h := HST.out; rw [hmv] at h; exact h)
       have jE := ae.mk (show 0 < n by have := xU.out; have := sV.out; have := xW.out; omega)
       have nY := ae.mk (show n ≤ aH ax (kd KL i) by rw [Ey.out]; have := xW.out; omega)
       have Bl := ae.mk (show n ≤ G by have := xW.out; omega)
       have NV := ae.mk (show d + n ≤ LF by have := xW.out; have := sV.out; omega)
       have xX := ae.mk (HI.out.step jh.out g_.out uz.out (Int.le_of_lt jE.out) nY.out)
       have hneg : wrap64 (-n) = -n := by have := qW.out; have := Bl.out; have := jE.out; unfold wrap64; omega
       obtain ⟨L1, hL1⟩ : ∃ L, L = cZ ax i (wrap64 (-n)) KL := ⟨_, rfl⟩
       have G_ := ae.mk hL1
       have sN : L1 = cZ ax i (-n) KL := by rw [hL1, hneg]
       obtain ⟨L2, hL2⟩ : ∃ L, L = cZ ax pl n L1 := ⟨_, rfl⟩
       have HL2 := ae.mk hL2
       have xh := ae.mk (show pl < L1.length by rw [sN, show (cZ ax i (-n) KL).length = KL.length from List.length_set]; exact HI.out.FY)
       have xg := ae.mk (show dU L1 ≤ 1000000 by rw [sN, (HI.out.good.move jh.out g_.out (n := -n) (by have := nY.out; omega) (by have := HI.out.good.small; have := jE.out; omega)).2.2.2.2.1]; exact ik.out)
       rw [← sN, ← hL2] at r_ xX
       have NW := ae.mk (show wrap64 (-d - n) = -(d + n) by have := qW.out; have := Bl.out; have := jE.out; have := HD.out; have := HD0.out; unfold wrap64; omega)
       clear hneg sN hL1 hL2 hmv hmn hc FN
       obtain ⟨fO, fP, fQ, fU, fV, fZ, f_⟩ := St.dD S (.head _)
       have jm := (S.out.at aY 1).trans rfl
       go_wp2_with (first | (refine bG (some 45) Try.func159 S (En HG.out (rW ⟨z.f0, z.f1, z.f2, KL⟩ ik.out q false v_.out ax jh.out (fun j hj => HI.out.good.kN _ (jP hj)) _ _ _ _ _ (S.out.tree _ (.head _)))) ?_; clear S; intro di S; clear fO fP fQ fU fV fZ f_ jm; obtain ⟨fO, fP, fQ, fU, fV, fZ, f_⟩ := St.dD S (.head _)) | (refine bG (some 51) Try.func160 S (Eo Ey.out (o7 ⟨z.f0, z.f1, z.f2, KL⟩ ik.out i g_.out ax jh.out (HI.out.good.kN _ (jP g_.out)) _ _ _ _ _ (S.out.tree _ (.head _)))) ?_; clear S; intro dS S; clear fO fP fQ fU fV fZ f_))
       refine gX (n := 13) (S := fun w' => St w _ _ _ _ _ w') (ds := [12]) (bA 13 0) (by kernel_rfl) rfl rfl (S.out.call (a_ (Below.refl _ _))) (fun hHeld => ?_); refine dZ uh.Z8 uh.U1 (fun aj dE => ?_)
       replace S := ae.mk (S.out.call (a_ (Below.refl _ _)))
       generalize dS.drew = wd3 at S hHeld ⊢
       refine b_ 0 84 (bA 13 1) aj dE hHeld ?_ (hv := by intro w' hs_; have fO := (hs_.at (.head _) 0).trans rfl; have fP := (hs_.at (.head _) 1).trans rfl; have fQ := (hs_.at (.head _) 2).trans rfl; have fU := (hs_.at (.head _) 3).trans rfl; have fV := (hs_.at (.head _) 4).trans rfl; have fZ := (hs_.at (.head _) 5).trans rfl; have f_ := (hs_.at (.head _) 6).trans rfl; go_simp; with_reducible rfl)
       refine ak 1 85 (bA 13 3) aj ?_
       refine ak 2 86 (bA 13 7) aj ?_
       refine ak 3 87 (bA 13 15) aj ?_
       refine ak 4 88 (bA 13 31) aj ?_
       refine ak 6 90 (bA 13 95) aj ?_
       refine b_ 7 91 (bA 13 223) aj dE hHeld ?_ (hv := by intro w' hs_; have jm := (hs_.at aY 1).trans rfl; go_simp; with_reducible rfl)
       refine ak 8 92 (bA 13 479) aj ?_
       refine ak 9 93 (bA 13 991) aj ?_
       refine ak 10 94 (bA 13 2015) aj ?_
       refine iL 5 (some 89) (bA 13 2047) aj (fun K hK => ?_)
       refine ja Try.func161 (by kernel_rfl) rfl #[.agg #[.int .u8 z.f0, .int .i64 z.f1.f0, .int .i64 z.f1.f1, .int .i64 z.f1.f2, .int .i64 z.f1.f3, .int .i64 z.f2, .slice Ax KL.length AP], .int .i64 (i : Int), .int .u8 ax, .int .i64 (wrap64 (-n))] (by rfl) rfl rfl (by (try simp only [List.map_toArray, List.map_cons, List.map_nil]); rfl) ?_
       refine (zW rfl z KL G_.out ik.out g_.out (S.out.tree _ (.head _))).mono ?_
       rintro e gz ⟨A1, c1, rfl, h1, hb⟩
       refine ⟨_, rfl, ?_⟩
       replace S := ae.mk (S.out.res (Kd.oD (base' := 0) h1) hb)
       clear h1 hb
       refine hK.out _ _ S.out.bQ (fun hHeld => ?_)
       clear hK K
       refine dR 89 ?_
       refine iL 11 (some 95) (bA 13 4095) aj (fun K hK => ?_)
       refine ja Try.func161 (by kernel_rfl) rfl #[.agg #[.int .u8 z.f0, .int .i64 z.f1.f0, .int .i64 z.f1.f1, .int .i64 z.f1.f2, .int .i64 z.f1.f3, .int .i64 z.f2, .slice A1 L1.length c1], .int .i64 (wrap64 ((q : Int) + 1)), .int .u8 ax, .int .i64 n] (by rfl) rfl rfl (by (try simp only [List.map_toArray, List.map_cons, List.map_nil]); rfl) ?_
       refine (zW Jc.out z L1 HL2.out xg.out xh.out (S.out.tree _ (.head _))).mono ?_
       rintro e kG ⟨A2, c2, rfl, h1, hb⟩
       refine ⟨_, rfl, ?_⟩
       replace S := ae.mk (S.out.res (Kd.oD (base' := 0) h1) hb)
       clear h1 hb
       refine hK.out _ _ S.out.bQ.bQ (fun hHeld => ?_)
       clear hK K
       refine dR 95 ?_
       refine lV 12 none (bA 13 8191) aj (fun K hK => ?_)
       refine lg 0 rfl 26 (.tmp 12) (.tmp 95) rfl #[.int .u8 z.f0, .int .i64 z.f1.f0, .int .i64 z.f1.f1, .int .i64 z.f1.f2, .int .i64 z.f1.f3, .int .i64 z.f2, .slice A2 L2.length c2] (j := 0) (u := .agg #[.int .u8 z.f0, .int .i64 z.f1.f0, .int .i64 z.f1.f1, .int .i64 z.f1.f2, .int .i64 z.f1.f3, .int .i64 z.f2, .slice A2 L2.length c2]) (bK := [.int .u8 z.f0, .int .i64 z.f1.f0, .int .i64 z.f1.f1, .int .i64 z.f1.f2, .int .i64 z.f1.f3, .int .i64 z.f2, .slice A2 L2.length c2]) S.out (by rfl) rfl rfl rfl rfl (by kernel_rfl) (by simp [Value.oneCell']) (by simp) rfl ?_
       intro tJ S1
       simp only [List.set_cons_zero, List.set_cons_succ] at S1
       replace S := ae.mk S1
       clear S1
       refine hK.out _ _ ?_
       clear hK K
       refine jf (fJ aj.out (by kernel_rfl)) ?_
       clear hHeld
       go_wp2
       go_roundg f'
       case measure => exact Nat.lt_of_lt_of_le (Nat.lt_succ_self _) fM.out
       case rel => exact ⟨L2, _, _, d + n, f', (by rw [NW.out]), r_, xX, ⟨by have := HF.out; have := jE.out; omega⟩, Nat.le_refl _, NV, ⟨S.out.Uf (fun t ht => by
        rcases List.mem_cons.1 ht with rfl | ht
        ·exact .head _
        ·rw [List.mem_singleton.1 ht]; exact jB)⟩⟩
      case neg =>
       have hmv : mn (LF - d) G = G := by unfold mn; split <;> omega
       have xW := ae.mk (show G = G from rfl)
       have hc : u < aC ↔ LF - d < G := by have := HU.out; have h1 := Bj.out; have := HD.out; have := HD0.out; have := qW.out; have := xU.out; split at h1 <;> omega
       have hca : decide (u < aC) = false := decide_eq_false (fun h => hmn (hc.1 h))
       have hcb : decide (aC > u) = false := hca
       have r_ := ae.mk (show gW ax q false LF f' (cZ ax pl G (cZ ax i (-G) KL)) (d + G) = (L', -n') by have h := HST.out; rw [hmv] at h; exact h)
       have jE := ae.mk (show 0 < G by have := xU.out; have := sV.out; have := xW.out; omega)
       have nY := ae.mk (show G ≤ aH ax (kd KL i) by rw [Ey.out]; have := xW.out; omega)
       have Bl := ae.mk (show G ≤ G by have := xW.out; omega)
       have NV := ae.mk (show d + G ≤ LF by have := xW.out; have := sV.out; omega)
       have xX := ae.mk (HI.out.step jh.out g_.out uz.out (Int.le_of_lt jE.out) nY.out)
       have hneg : wrap64 (-G) = -G := by have := qW.out; have := Bl.out; have := jE.out; unfold wrap64; omega
       obtain ⟨L1, hL1⟩ : ∃ L, L = cZ ax i (wrap64 (-G)) KL := ⟨_, rfl⟩
       have G_ := ae.mk hL1
       have sN : L1 = cZ ax i (-G) KL := by rw [hL1, hneg]
       obtain ⟨L2, hL2⟩ : ∃ L, L = cZ ax pl G L1 := ⟨_, rfl⟩
       have HL2 := ae.mk hL2
       have xh := ae.mk (show pl < L1.length by rw [sN, show (cZ ax i (-G) KL).length = KL.length from List.length_set]; exact HI.out.FY)
       have xg := ae.mk (show dU L1 ≤ 1000000 by rw [sN, (HI.out.good.move jh.out g_.out (n := -G) (by have := nY.out; omega) (by have := HI.out.good.small; have := jE.out; omega)).2.2.2.2.1]; exact ik.out)
       rw [← sN, ← hL2] at r_ xX
       have NW := ae.mk (show wrap64 (-d - G) = -(d + G) by have := qW.out; have := Bl.out; have := jE.out; have := HD.out; have := HD0.out; unfold wrap64; omega)
       clear hneg sN hL1 hL2 hmv hmn hc
       obtain ⟨fO, fP, fQ, fU, fV, fZ, f_⟩ := St.dD S (.head _)
       have jm := (S.out.at aY 1).trans rfl
       go_wp2_with (first | (refine bG (some 45) Try.func159 S (En HG.out (rW ⟨z.f0, z.f1, z.f2, KL⟩ ik.out q false v_.out ax jh.out (fun j hj => HI.out.good.kN _ (jP hj)) _ _ _ _ _ (S.out.tree _ (.head _)))) ?_; clear S; intro di S; clear fO fP fQ fU fV fZ f_ jm; obtain ⟨fO, fP, fQ, fU, fV, fZ, f_⟩ := St.dD S (.head _)) | (refine bG (some 51) Try.func160 S (Eo Ey.out (o7 ⟨z.f0, z.f1, z.f2, KL⟩ ik.out i g_.out ax jh.out (HI.out.good.kN _ (jP g_.out)) _ _ _ _ _ (S.out.tree _ (.head _)))) ?_; clear S; intro dS S; clear fO fP fQ fU fV fZ f_))
       refine gX (n := 13) (S := fun w' => St w _ _ _ _ _ w') (ds := [12]) (bA 13 0) (by kernel_rfl) rfl rfl (S.out.call (a_ (Below.refl _ _))) (fun hHeld => ?_); refine dZ uh.Z8 uh.U1 (fun aj dE => ?_)
       replace S := ae.mk (S.out.call (a_ (Below.refl _ _)))
       generalize dS.drew = wd3 at S hHeld ⊢
       refine b_ 0 84 (bA 13 1) aj dE hHeld ?_ (hv := by intro w' hs_; have fO := (hs_.at (.head _) 0).trans rfl; have fP := (hs_.at (.head _) 1).trans rfl; have fQ := (hs_.at (.head _) 2).trans rfl; have fU := (hs_.at (.head _) 3).trans rfl; have fV := (hs_.at (.head _) 4).trans rfl; have fZ := (hs_.at (.head _) 5).trans rfl; have f_ := (hs_.at (.head _) 6).trans rfl; go_simp; with_reducible rfl)
       refine ak 1 85 (bA 13 3) aj ?_
       refine ak 2 86 (bA 13 7) aj ?_
       refine ak 3 87 (bA 13 15) aj ?_
       refine ak 4 88 (bA 13 31) aj ?_
       refine ak 6 90 (bA 13 95) aj ?_
       refine b_ 7 91 (bA 13 223) aj dE hHeld ?_ (hv := by intro w' hs_; have jm := (hs_.at aY 1).trans rfl; go_simp; with_reducible rfl)
       refine ak 8 92 (bA 13 479) aj ?_
       refine ak 9 93 (bA 13 991) aj ?_
       refine ak 10 94 (bA 13 2015) aj ?_
       refine iL 5 (some 89) (bA 13 2047) aj (fun K hK => ?_)
       refine ja Try.func161 (by kernel_rfl) rfl #[.agg #[.int .u8 z.f0, .int .i64 z.f1.f0, .int .i64 z.f1.f1, .int .i64 z.f1.f2, .int .i64 z.f1.f3, .int .i64 z.f2, .slice Ax KL.length AP], .int .i64 (i : Int), .int .u8 ax, .int .i64 (wrap64 (-G))] (by rfl) rfl rfl (by (try simp only [List.map_toArray, List.map_cons, List.map_nil]); rfl) ?_
       refine (zW rfl z KL G_.out ik.out g_.out (S.out.tree _ (.head _))).mono ?_
       rintro e gz ⟨A1, c1, rfl, h1, hb⟩
       refine ⟨_, rfl, ?_⟩
       replace S := ae.mk (S.out.res (Kd.oD (base' := 0) h1) hb)
       clear h1 hb
       refine hK.out _ _ S.out.bQ (fun hHeld => ?_)
       clear hK K
       refine dR 89 ?_
       refine iL 11 (some 95) (bA 13 4095) aj (fun K hK => ?_)
       refine ja Try.func161 (by kernel_rfl) rfl #[.agg #[.int .u8 z.f0, .int .i64 z.f1.f0, .int .i64 z.f1.f1, .int .i64 z.f1.f2, .int .i64 z.f1.f3, .int .i64 z.f2, .slice A1 L1.length c1], .int .i64 (wrap64 ((q : Int) + 1)), .int .u8 ax, .int .i64 G] (by rfl) rfl rfl (by (try simp only [List.map_toArray, List.map_cons, List.map_nil]); rfl) ?_
       refine (zW Jc.out z L1 HL2.out xg.out xh.out (S.out.tree _ (.head _))).mono ?_
       rintro e kG ⟨A2, c2, rfl, h1, hb⟩
       refine ⟨_, rfl, ?_⟩
       replace S := ae.mk (S.out.res (Kd.oD (base' := 0) h1) hb)
       clear h1 hb
       refine hK.out _ _ S.out.bQ.bQ (fun hHeld => ?_)
       clear hK K
       refine dR 95 ?_
       refine lV 12 none (bA 13 8191) aj (fun K hK => ?_)
       refine lg 0 rfl 26 (.tmp 12) (.tmp 95) rfl #[.int .u8 z.f0, .int .i64 z.f1.f0, .int .i64 z.f1.f1, .int .i64 z.f1.f2, .int .i64 z.f1.f3, .int .i64 z.f2, .slice A2 L2.length c2] (j := 0) (u := .agg #[.int .u8 z.f0, .int .i64 z.f1.f0, .int .i64 z.f1.f1, .int .i64 z.f1.f2, .int .i64 z.f1.f3, .int .i64 z.f2, .slice A2 L2.length c2]) (bK := [.int .u8 z.f0, .int .i64 z.f1.f0, .int .i64 z.f1.f1, .int .i64 z.f1.f2, .int .i64 z.f1.f3, .int .i64 z.f2, .slice A2 L2.length c2]) S.out (by rfl) rfl rfl rfl rfl (by kernel_rfl) (by simp [Value.oneCell']) (by simp) rfl ?_
       intro tJ S1
       simp only [List.set_cons_zero, List.set_cons_succ] at S1
       replace S := ae.mk S1
       clear S1
       refine hK.out _ _ ?_
       clear hK K
       refine jf (fJ aj.out (by kernel_rfl)) ?_
       clear hHeld
       go_wp2
       go_roundg f'
       case measure => exact Nat.lt_of_lt_of_le (Nat.lt_succ_self _) fM.out
       case rel => exact ⟨L2, _, _, d + G, f', (by rw [NW.out]), r_, xX, ⟨by have := HF.out; have := jE.out; omega⟩, Nat.le_refl _, NV, ⟨S.out.Uf (fun t ht => by
        rcases List.mem_cons.1 ht with rfl | ht
        ·exact .head _
        ·rw [List.mem_singleton.1 ht]; exact jB)⟩⟩
 case neg =>
  obtain ⟨n, hn⟩ : ∃ n, AU ax id c = n := ⟨_, rfl⟩
  rw [hn] at hn0
  rw [IL hn hn0]
  obtain ⟨hna, hnb, hnd⟩ := eqF (a := n) (b := 0) (by omega)
  have HN := ae.mk hn
  have jE := ae.mk hn0
  clear hn hn0
  obtain ⟨ck, ⟨cx, cy, cw, ch⟩, ay, l⟩ := c
  simp only [] at S ⊢
  go_enter Try.func115, Try.ntmps115
  go_wp2_with (first | (refine boxS 4 _ 26 S ?_; clear S; intro b4 di S) | (refine boxS 8 _ 26 S ?_; clear S; intro b8 dS S; obtain ⟨d_, dn, dA, ed, eF, eG, dM⟩ := St.dD S aY) | (refine bG (some 22) Try.func116 S ((QZ ⟨ck, ⟨cx, cy, cw, ch⟩, ay, l⟩ HZ.out id ax _ _ _ _ _ (S.out.tree _ (.head _))).1 n HN.out jE.out) ?_; clear S; intro gq S; clear d_ dn dA ed eF eG dM) | (refine boxS 11 _ 110 S ?_; clear S; intro b11 gz S) | (refine gy 110 11 22 #[.slice none 0 0, .int .i64 0, .int .i64 n] 0 3 S ?_; clear S; intro kG S; have n_ := (S.out.at (.head _) 2).trans rfl))
  clear n_
  refine gX (n := 6) (S := fun w' => w'.cell? ⟨b11, 2, none⟩ = some (.int .i64 n)) (ds := []) (bA 6 0) (by kernel_rfl) rfl rfl (((S.out.call (a_ (Below.refl _ _))).at (.head _) 2).trans rfl) (fun hHeld => ?_); refine dZ zL.Lp zL.Gv (fun aj dE => ?_)
  replace S := ae.mk (S.out.call (a_ (Below.refl _ _)))
  generalize kG.drew = wd6 at S hHeld ⊢
  refine ak 0 26 (bA 6 1) aj ?_
  refine ak 1 27 (bA 6 3) aj ?_
  refine b_ 2 28 (bA 6 7) aj dE hHeld ?_ (hv := by intro w' hs_; have n_ := hs_; go_simp; with_reducible rfl)
  refine iL 3 none (bA 6 15) aj (fun K hK => ?_)
  refine lg 1 rfl 26 (.tmp 8) (.tmp 26) rfl #[.int .u8 0, .int .i64 0, .int .i64 0, .int .i64 0, .int .i64 0, .int .i64 0, .slice none 0 0] (j := 0) (u := .agg #[.int .u8 0, .int .i64 0, .int .i64 0, .int .i64 0, .int .i64 0, .int .i64 0, .slice none 0 0]) (bK := [.int .u8 0, .int .i64 0, .int .i64 0, .int .i64 0, .int .i64 0, .int .i64 0, .slice none 0 0]) S.out (by rfl) rfl rfl rfl rfl (by kernel_rfl) (by simp [Value.oneCell']) (by decide) rfl ?_
  intro vV S1
  simp only [List.set_cons_zero, List.set_cons_succ] at S1
  replace S := ae.mk S1
  clear S1
  refine hK.out _ _ ((S.out.at (.head _) 2).trans rfl) (fun hHeld => ?_)
  clear hK K
  refine ak 4 9 (bA 6 31) aj ?_
  refine ak 5 10 (bA 6 63) aj ?_
  refine jf (fJ aj.out (by kernel_rfl)) ?_
  clear hHeld
  go_wp2
  refine bodyPost_ret (kF rfl _ _ b8 26 _ (0, 0) _ rfl (S.out.blk _ aY _ rfl) Try.underlying26 rfl (by kernel_rfl)) rfl ?_
  exact ⟨_, _, rfl, Kd.oO _ _ _ _ _, S.out.below⟩
theorem Me {W : World} {b : Nat} {P : Nat → Prop} {A : Option Addr} {cc : Nat} (c : ai) (hz : sz c ≤ 1048576) (hV : Kd.V k26 26 W b P (.slice A c.f3.length cc) c.f3) :
  Calls Try.prog 79 #[.agg #[.int .u8 c.f0, .int .i64 c.f1.f0, .int .i64 c.f1.f1, .int .i64 c.f1.f2, .int .i64 c.f1.f3, .int .i64 c.f2, .slice A c.f3.length cc]] W fun e w' => ∃ A' c', e = .returned (.slice A' (sz c) c') ∧ Below W.heap.size W w' := (OD c hz hV).mono (fun _ _ ⟨A', c', he, _, hB⟩ => ⟨A', c', he, hB⟩)
theorem WM (c : ai) (id ax aC : Int) (A : Option Addr) (cc : Nat) (w : World) (hr : Kd.C k26 w A c.f3.length c.f3) (hc : c.f3.length ≤ cc) (hz : sz c ≤ 1048576) (hby : -9223372036854775808 ≤ aC ∧ aC ≤ 9223372036854775807) (h1 : ∃ k, kL.f k c.f0 c.f1.f0 c.f1.f1 c.f1.f2 c.f1.f3 c.f2 c.f3 = some true)  :
  Calls Try.prog 28 #[.agg #[.int .u8 c.f0, .int .i64 c.f1.f0, .int .i64 c.f1.f1, .int .i64 c.f1.f2, .int .i64 c.f1.f3, .int .i64 c.f2, .slice A c.f3.length cc], .int .i64 id, .int .u8 ax, .int .i64 aC] w fun e w' => e = .returned (.bool true) ∧ Below w.heap.size w w' := by
 have S := ae.mk (St.start (ts := [(.slice A c.f3.length cc, c.f3)]) (b0 := w.heap.size) (w := w) (P := fun k => k < w.heap.size) (fun t ht => by
  rw [List.mem_singleton.1 ht]; exact Kd.x_ hc (Kd.GY qM hr)))
 have G1 := ae.mk h1
 have Oa := ae.mk hz
 have zk := ae.mk hby
 clear hr hc h1 hz hby
 obtain ⟨ck, ⟨cx, cy, cw, ch⟩, ay, l⟩ := c
 simp only [] at S G1 Oa ⊢
 go_enter Try.func28, Try.ntmps28
 go_wp2_with (first
  | (refine boxS 4 _ 26 S ?_; clear S; intro b4 di S; obtain ⟨d_, dn, dA, ed, eF, eG, dM⟩ := St.dD S (.head _))
  | (refine bG (some 16) Try.func34 S (Kq ⟨ck, ⟨cx, cy, cw, ch⟩, ay, l⟩ true G1.out (S.out.tree _ (.head _))) ?_; clear S; intro dS S; clear d_ dn dA ed eF eG dM)
  | (refine bG (some 23) Try.func113 S (EU) ?_; clear S; intro gq S)
  | fail)
 go_ret
 exact ⟨rfl, S.out.below⟩
theorem YN (c : ai) (id ax aC : Int) (A : Option Addr) (cc : Nat) (w : World) (hr : Kd.C k26 w A c.f3.length c.f3) (hc : c.f3.length ≤ cc) (hz : sz c ≤ 1048576) (hby : -9223372036854775808 ≤ aC ∧ aC ≤ 9223372036854775807) (h1 : ∃ k, kL.f k c.f0 c.f1.f0 c.f1.f1 c.f1.f2 c.f1.f3 c.f2 c.f3 = some false) (h3 : 100 < sz c) :
  Calls Try.prog 28 #[.agg #[.int .u8 c.f0, .int .i64 c.f1.f0, .int .i64 c.f1.f1, .int .i64 c.f1.f2, .int .i64 c.f1.f3, .int .i64 c.f2, .slice A c.f3.length cc], .int .i64 id, .int .u8 ax, .int .i64 aC] w fun e w' => e = .returned (.bool true) ∧ Below w.heap.size w w' := by
 have S := ae.mk (St.start (ts := [(.slice A c.f3.length cc, c.f3)]) (b0 := w.heap.size) (w := w) (P := fun k => k < w.heap.size) (fun t ht => by
  rw [List.mem_singleton.1 ht]; exact Kd.x_ hc (Kd.GY qM hr)))
 have G1 := ae.mk h1
 have Oa := ae.mk hz
 have zk := ae.mk hby
 have h3b : decide ((sz c : Int) > 100) = true := decide_eq_true (by omega)
 have h3c : decide (100 < (sz c : Int)) = true := decide_eq_true (by omega)
 clear h3
 clear hr hc h1 hz hby
 obtain ⟨ck, ⟨cx, cy, cw, ch⟩, ay, l⟩ := c
 simp only [] at S G1 Oa ⊢
 go_enter Try.func28, Try.ntmps28
 go_wp2_with (first
  | (refine boxS 4 _ 26 S ?_; clear S; intro b4 di S; obtain ⟨d_, dn, dA, ed, eF, eG, dM⟩ := St.dD S (.head _))
  | (refine bG (some 16) Try.func34 S (Kq ⟨ck, ⟨cx, cy, cw, ch⟩, ay, l⟩ false G1.out (S.out.tree _ (.head _))) ?_; clear S; intro dS S; clear d_ dn dA ed eF eG dM; obtain ⟨d_, dn, dA, ed, eF, eG, dM⟩ := St.dD S (.head _))
  | (refine iI 19 rfl ?_; (refine iV (by rfl) ?_; dsimp only); refine iT (some 19) Try.func79 (Me ⟨ck, ⟨cx, cy, cw, ch⟩, ay, l⟩ Oa.out (S.out.tree _ (.head _))) ?_; rintro e gq ⟨Aa, ca, rfl, hb⟩; refine ⟨_, rfl, ?_⟩; replace S := ae.mk (S.out.call hb); clear hb; clear d_ dn dA ed eF eG dM)
  | (refine bG (some 23) Try.func113 S (EU) ?_; clear S; intro gz S)
  | fail)
 go_ret
 exact ⟨rfl, S.out.below⟩
theorem YO (c : ai) (id ax aC : Int) (A : Option Addr) (cc : Nat) (w : World) (hr : Kd.C k26 w A c.f3.length c.f3) (hc : c.f3.length ≤ cc) (hz : sz c ≤ 1048576) (hby : -9223372036854775808 ≤ aC ∧ aC ≤ 9223372036854775807) (h1 : ∃ k, kL.f k c.f0 c.f1.f0 c.f1.f1 c.f1.f2 c.f1.f3 c.f2 c.f3 = some false) (h3 : ¬ 100 < sz c) :
  Calls Try.prog 28 #[.agg #[.int .u8 c.f0, .int .i64 c.f1.f0, .int .i64 c.f1.f1, .int .i64 c.f1.f2, .int .i64 c.f1.f3, .int .i64 c.f2, .slice A c.f3.length cc], .int .i64 id, .int .u8 ax, .int .i64 aC] w fun e w' => e = .returned (.bool true) ∧ Below w.heap.size w w' := by
 have S := ae.mk (St.start (ts := [(.slice A c.f3.length cc, c.f3)]) (b0 := w.heap.size) (w := w) (P := fun k => k < w.heap.size) (fun t ht => by
  rw [List.mem_singleton.1 ht]; exact Kd.x_ hc (Kd.GY qM hr)))
 have G1 := ae.mk h1
 have Oa := ae.mk hz
 have zk := ae.mk hby
 have h3b : decide ((sz c : Int) > 100) = false := decide_eq_false (by omega)
 have h3c : decide (100 < (sz c : Int)) = false := decide_eq_false (by omega)
 have HZ6 := ae.mk (show sz c ≤ 1000000 by omega)
 have hz1 := acp ax id aC c
 obtain ⟨⟨z1, n1, e1⟩, ha⟩ : ∃ r, qU ax id aC c = r := ⟨_, rfl⟩
 rw [ha] at hz1
 have HR := ae.mk ha
 have HZ1 := ae.mk (show sz z1 ≤ 1048576 from hz1)
 clear ha hz1 h3
 clear hr hc h1 hz hby
 obtain ⟨ck, ⟨cx, cy, cw, ch⟩, ay, l⟩ := c
 simp only [] at S G1 Oa ⊢
 go_enter Try.func28, Try.ntmps28
 go_wp2_with (first
  | (refine boxS 4 _ 26 S ?_; clear S; intro b4 di S; obtain ⟨d_, dn, dA, ed, eF, eG, dM⟩ := St.dD S (.head _))
  | (refine bG (some 16) Try.func34 S (Kq ⟨ck, ⟨cx, cy, cw, ch⟩, ay, l⟩ false G1.out (S.out.tree _ (.head _))) ?_; clear S; intro dS S; clear d_ dn dA ed eF eG dM; obtain ⟨d_, dn, dA, ed, eF, eG, dM⟩ := St.dD S (.head _))
  | (refine iI 19 rfl ?_; (refine iV (by rfl) ?_; dsimp only); refine iT (some 19) Try.func79 (Me ⟨ck, ⟨cx, cy, cw, ch⟩, ay, l⟩ Oa.out (S.out.tree _ (.head _))) ?_; rintro e gq ⟨Aa, ca, rfl, hb⟩; refine ⟨_, rfl, ?_⟩; replace S := ae.mk (S.out.call hb); clear hb; clear d_ dn dA ed eF eG dM; obtain ⟨d_, dn, dA, ed, eF, eG, dM⟩ := St.dD S (.head _))
  | (refine wZ (some 29) Try.func114 S (PY HR.out (RF ⟨ck, ⟨cx, cy, cw, ch⟩, ay, l⟩ HZ6.out id ax aC zk.out _ A cc _ (eY (S.out.tree _ (.head _))))) ?_; clear S; intro A29 c29 gz S; clear d_ dn dA ed eF eG dM)
  | (refine boxS 9 _ 26 S ?_; clear S; intro b9 kG S)
  | (refine gy 26 9 30 #[.int .u8 z1.f0, .int .i64 z1.f1.f0, .int .i64 z1.f1.f1, .int .i64 z1.f1.f2, .int .i64 z1.f1.f3, .int .i64 z1.f2, .slice A29 z1.f3.length c29] 0 7 S ?_; clear S; intro tJ S; obtain ⟨d_, dn, dA, ed, eF, eG, dM⟩ := St.dD S aY)
  | (refine wZ (some 38) Try.func115 S (PY HR.out (YW ⟨ck, ⟨cx, cy, cw, ch⟩, ay, l⟩ HZ6.out id ax aC zk.out _ A cc _ (eY (S.out.tree _ aY)))) ?_; clear S; intro A38 c38 vV S; clear d_ dn dA ed eF eG dM)
  | (refine boxS 12 _ 26 S ?_; clear S; intro b12 wV S)
  | (refine gy 26 12 39 #[.int .u8 z1.f0, .int .i64 z1.f1.f0, .int .i64 z1.f1.f1, .int .i64 z1.f1.f2, .int .i64 z1.f1.f3, .int .i64 z1.f2, .slice A38 z1.f3.length c38] 0 7 S ?_; clear S; intro Gn S; obtain ⟨fO, fP, fQ, fU, fV, fZ, f_⟩ := St.dD S (.head _); obtain ⟨sG, A8, vz, A_, Jl, Jm, Jn⟩ := St.dD S aY)
  | (refine iI 53 rfl ?_; (refine iV (by rfl) ?_; dsimp only); refine bG (some 53) Try.func64 S (af6 z1 HZ1.out (S.out.tree _ aY) (S.out.tree _ (.head _))) ?_; clear S; intro Aj S; clear fO fP fQ fU fV fZ f_ sG A8 vz A_ Jl Jm Jn)
  | (refine iI 56 rfl ?_; (refine iV (by rfl) ?_; dsimp only); refine bG (some 56) Try.func113 S (EU) ?_; clear S; intro Gm S)
  | fail)
 go_ret
 exact ⟨rfl, S.out.below⟩
def nP.f (a0 a1 a2 a3 a4 a5 : Int) (l : List ai) (_ : Int) (_ : Int) (b3 : Int) : Option Bool := if sz ⟨a0, ⟨a1, a2, a3, a4⟩, a5, l⟩ ≤ 1048576 ∧ (-9223372036854775808 ≤ b3 ∧ b3 ≤ 9223372036854775807) then some true else none
theorem QC (c : ai) (id : Int) (ax : Int) (aC : Int) (A : Option Addr) (cc : Nat) (w : World) (hr : Kd.C k26 w A c.f3.length c.f3) (hc : c.f3.length ≤ cc) (hz : sz c ≤ 1048576) (Py : -9223372036854775808 ≤ aC ∧ aC ≤ 9223372036854775807) :
  Calls Try.prog 28 #[.agg #[.int .u8 c.f0, .int .i64 c.f1.f0, .int .i64 c.f1.f1, .int .i64 c.f1.f2, .int .i64 c.f1.f3, .int .i64 c.f2, .slice A c.f3.length cc], .int .i64 id, .int .u8 ax, .int .i64 aC] w fun e w' => e = .returned (.bool true) ∧ Below w.heap.size w w' := by
 obtain ⟨g, eg, hg⟩ := Yf c hz
 cases g with
 | true => exact WM c id ax aC A cc w hr hc hz Py eg.rounds
 | false =>
  by_cases h3 : 100 < sz c
  ·exact YN c id ax aC A cc w hr hc hz Py eg.rounds h3
  ·exact YO c id ax aC A cc w hr hc hz Py eg.rounds h3
theorem nP.calls (az aK aI aJ bH bI : Int) (dW : Option Addr) (dX : Nat) (aT : List ai) (a1 : Int) (a2 : Int) (a3 : Int) (r : Bool) (w : World) (qR : Kd.C k26 w dW aT.length aT) (sO : aT.length ≤ dX) (h : nP.f az aK aI aJ bH bI aT a1 a2 a3 = some r) :
  Calls Try.prog 28 #[.agg #[.int .u8 az, .int .i64 aK, .int .i64 aI, .int .i64 aJ, .int .i64 bH, .int .i64 bI, .slice dW aT.length dX], .int .i64 a1, .int .u8 a2, .int .i64 a3] w fun e w' => e = .returned (.bool r) ∧ Below w.heap.size w w' := by
 unfold nP.f at h
 split at h
 ·rename_i hz
  injection h with h
  subst h
  exact QC ⟨az, ⟨aK, aI, aJ, bH⟩, bI, aT⟩ a1 a2 a3 dW dX w qR sO hz.1 hz.2
 ·exact absurd h (by simp)
end Go.Proofs.Ytfdmfgaiblfbhaa.P
namespace Go.Proofs.Ytfdmfgaiblfbhaa.P
open Go.RowKit Go.Proofs.ag.aV Go.Proofs.ag.bP Go.Proofs.ag.cO
open Go.ChangeShapes Go.WideShapes Go.ChangeAt Go.Joins Go.Deep
def I64 (n : Int) : Prop := -9223372036854775808 ≤ n ∧ n ≤ 9223372036854775807
def U8 (n : Int) : Prop := 0 ≤ n ∧ n ≤ 255
def agf (r : dO) : Prop := I64 r.f0 ∧ I64 r.f1 ∧ I64 r.f2 ∧ I64 r.f3
def GU : Nat → ai → Prop
 | 0, _ => False
 | n + 1, c => U8 c.f0 ∧ agf c.f1 ∧ I64 c.f2 ∧ c.f3.length ≤ 9223372036854775807 ∧ ∀ k, k ∈ c.f3 → GU n k
def agh (c : ai) : Prop := ∃ n, GU n c
theorem Qw : ∀ {n m : Nat} (_ : n ≤ m) {c : ai}, GU n c → GU m c
 | 0, _, _, _, h => h.elim
 | n + 1, 0, hm, _, _ => absurd hm (by omega)
 | n + 1, m + 1, hm, _, h => ⟨h.1, h.2.1, h.2.2.1, h.2.2.2.1, fun k hk => Qw (by omega) (h.2.2.2.2 k hk)⟩
section
variable {H : Type} {enc : TypeId × Value → H} {P : Program} {w : World} {base : Nat} {spare : Nat → Bool} {held : Bool}
theorem row_of {α : Type} {Q : Nat → α → Prop} : ∀ (n : Nat), (∀ i, i < n → ∃ p, Q i p) → ∃ l : List α, l.length = n ∧ ∀ i p, l[i]? = some p → Q i p
 | 0, _ => ⟨[], rfl, fun i p h => by simp at h⟩
 | n + 1, h => by
  obtain ⟨l, hl, hq⟩ := row_of n fun i hi => h i (by omega)
  obtain ⟨p, hp⟩ := h n (by omega)
  refine ⟨l ++ [p], by simp [hl], fun i q hi => ?_⟩
  rcases Nat.lt_trichotomy i n with h1 | h1 | h1
  ·rw [List.getElem?_append_left (by omega)] at hi
   exact hq i q hi
  ·subst h1
   rw [List.getElem?_append_right (by omega), hl, Nat.sub_self] at hi
   obtain rfl : p = q := by simpa using hi
   exact hp
  ·rw [List.getElem?_eq_none (by simp; omega)] at hi
   cases hi
theorem cells_at {a : Addr} {n : Nat} {cs : List Value} (h : w.cells? base a n = some cs) : cs.length = n ∧ ∀ i u, cs[i]? = some u → w.cell? (a.add i) = some u := by
 obtain ⟨_, h1, h2⟩ := World.cells?_some h
 exact ⟨h1, fun i u hi => by
  have hlt : i < n := by rw [← h1]; exact (List.getElem?_eq_some_iff.1 hi).1
  rw [h2 i hlt, hi]⟩
end
section
variable {H : Type} {enc : TypeId × Value → H} {w : World} {base : Nat} {spare : Nat → Bool} {held : Bool}
theorem BP {n : Int} (h : (Lit.int .i64 n).wf = true) : I64 n := by
 have := bounds_i64 h
 unfold I64
 omega
theorem Z_ {n : Int} (h : (Lit.int .u8 n).wf = true) : U8 n := bounds_u8 h
theorem ad4 {a : Array Value} {l : List Value} (h : (Value.agg a).cells.toList = l) : a = l.toArray := by
 subst h
 simp [Value.cells]
theorem cells23 : Try.prog.cellsOf 23 = 4 := by kernel_rfl
theorem cells26 : Try.prog.cellsOf 26 = 7 := by kernel_rfl
theorem cells3 : Try.prog.cellsOf 3 = 1 := by kernel_rfl
theorem cells5 : Try.prog.cellsOf 5 = 1 := by kernel_rfl
theorem cells24 : Try.prog.cellsOf 24 = 1 := by kernel_rfl
theorem afZ {fuel : Nat} {cs : List Value} {x : DataW H × List MemPlace} (h : DataW.trod enc Try.prog w base spare held fuel 23 cs = some x) : ∃ r : dO, k23.K w r cs ∧ agf r := by
 obtain ⟨y0, y1, y2, y3, n, _, hl, h0, h1, h2, h3⟩ := trod_struct4 Try.underlying23 h
 rw [cells23] at hl
 match cs, hl with
 | [c0, c1, c2, c3], _ =>
  simp only [cells3, List.drop_zero, List.take_succ_cons, List.take_zero, List.drop_succ_cons] at h0 h1 h2 h3
  obtain ⟨n0, e0, _, w0⟩ := DataW.trod_int Try.underlying3 h0
  obtain ⟨n1, e1, _, w1⟩ := DataW.trod_int Try.underlying3 h1
  obtain ⟨n2, e2, _, w2⟩ := DataW.trod_int Try.underlying3 h2
  obtain ⟨n3, e3, _, w3⟩ := DataW.trod_int Try.underlying3 h3
  simp only [List.cons.injEq, and_true] at e0 e1 e2 e3
  subst e0 e1 e2 e3
  exact ⟨⟨n0, n1, n2, n3⟩, PV w ⟨n0, n1, n2, n3⟩, BP w0, BP w1, BP w2, BP w3⟩
end
end Go.Proofs.Ytfdmfgaiblfbhaa.P
namespace Go.Proofs.Ytfdmfgaiblfbhaa.Pure
open Go.RowKit Go.Proofs.Ytfdmfgaiblfbhaa.P Go.Proofs.ag.aV Go.Proofs.ag.bP Go.Proofs.ag.cO
theorem PushIs : ∀ (a0 : ai) (a1 : Int) (a2 : Int) (a3 : Int), agh a0 → sz a0 ≤ 1048576 → I64 a1 → U8 a2 → I64 a3 → nP.f a0.f0 a0.f1.f0 a0.f1.f1 a0.f1.f2 a0.f1.f3 a0.f2 a0.f3 a1 a2 a3 = some true := by
 intro c id ax aC _ hz _ _ Py
 unfold nP.f
 rw [Gz, if_pos ⟨hz, Py⟩]
end Go.Proofs.Ytfdmfgaiblfbhaa.Pure
namespace Go.Proofs.Ytfdmfgaiblfbhaa.P
open Go.RowKit
def MJ : List Char := [104, 97, 114, 110, 101, 115, 115, 32, 57, 48, 98, 52, 50, 100, 98, 100, 99, 50, 52, 54, 55, 51, 50, 51, 56, 57, 50, 48, 100, 50, 50, 98, 56, 57, 53, 102, 48, 48, 55, 48, 53, 101, 102, 48, 53, 53, 102, 54, 54, 55, 97, 57, 54, 56, 100, 50, 56, 97, 57, 52, 55, 52, 56, 57, 49, 49, 48, 97, 48, 101, 53, 55, 32, 99, 117, 116, 32, 97, 116, 32, 115, 97, 115, 104, 47, 115, 97, 115, 104, 108, 97, 119, 48, 55, 46, 70, 108, 97, 116, 78, 101, 120, 116, 115, 32, 115, 97, 115, 104, 47, 115, 97, 115, 104, 108, 97, 119, 48, 55, 46, 70, 108, 97, 116, 76, 105, 115, 116, 115, 32, 115, 97, 115, 104, 47, 115, 97, 115, 104, 108, 97, 119, 48, 52, 46, 82, 101, 99, 116, 67, 117, 116, 115, 32, 115, 97, 115, 104, 47, 115, 97, 115, 104, 108, 97, 119, 48, 57, 46, 65, 100, 106, 117, 115, 116, 83, 104, 97, 114, 101, 115, 32, 115, 97, 115, 104, 47, 115, 97, 115, 104, 108, 97, 119, 48, 57, 46, 65, 100, 106, 117, 115, 116, 69, 118, 101, 110, 115, 32, 115, 97, 115, 104, 47, 115, 97, 115, 104, 108, 97, 119, 49, 54, 46, 83, 112, 114, 101, 97, 100, 83, 105, 122, 101, 115, 32, 115, 97, 115, 104, 47, 115, 97, 115, 104, 108, 97, 119, 48, 55, 46, 70, 108, 97, 116, 67, 104, 97, 110, 103, 101, 115, 32, 115, 97, 115, 104, 47, 115, 97, 115, 104, 108, 97, 119, 48, 52, 46, 82, 101, 99, 116, 73, 110, 115, 105, 100, 101, 32, 115, 97, 115, 104, 47, 115, 97, 115, 104, 108, 97, 119, 48, 55, 46, 70, 108, 97, 116, 78, 97, 109, 101, 115, 32, 115, 97, 115, 104, 47, 115, 97, 115, 104, 108, 97, 119, 48, 57, 46, 65, 100, 106, 117, 115, 116, 83, 101, 116, 115, 32, 115, 97, 115, 104, 47, 115, 97, 115, 104, 108, 97, 119, 48, 52, 46, 82, 101, 99, 116, 77, 101, 101, 116, 115, 32, 115, 97, 115, 104, 47, 115, 97, 115, 104, 108, 97, 119, 48, 52, 46, 82, 101, 99, 116, 77, 97, 121, 115, 32, 115, 97, 115, 104, 47, 115, 97, 115, 104, 108, 97, 119, 48, 55, 46, 70, 108, 97, 116, 83, 116, 105, 108, 108, 32, 115, 97, 115, 104, 47, 115, 97, 115, 104, 108, 97, 119, 48, 53, 46, 67, 101, 108, 108, 77, 97, 121, 115, 32, 115, 97, 115, 104, 47, 115, 97, 115, 104, 108, 97, 119, 48, 53, 46, 67, 101, 108, 108, 83, 97, 109, 101, 32, 115, 97, 115, 104, 47, 115, 97, 115, 104, 108, 97, 119, 48, 53, 46, 67, 101, 108, 108, 67, 111, 117, 110, 116, 115, 32, 115, 97, 115, 104, 47, 115, 97, 115, 104, 108, 97, 119, 48, 56, 46, 76, 101, 97, 115, 116, 83, 117, 109, 115, 32, 115, 97, 115, 104, 47, 115, 97, 115, 104, 108, 97, 119, 48, 53, 46, 67, 101, 108, 108, 70, 105, 110, 100, 115, 32, 115, 97, 115, 104, 47, 115, 97, 115, 104, 108, 97, 119, 48, 56, 46, 76, 101, 97, 115, 116, 73, 115, 32, 115, 97, 115, 104, 47, 115, 97, 115, 104, 108, 97, 119, 48, 56, 46, 76, 101, 97, 115, 116, 70, 105, 116, 115, 32, 115, 97, 115, 104, 47, 115, 97, 115, 104, 108, 97, 119, 48, 56, 46, 76, 101, 97, 115, 116, 80, 97, 116, 104, 115, 32, 115, 97, 115, 104, 47, 115, 97, 115, 104, 108, 97, 119, 48, 53, 46, 67, 101, 108, 108, 80, 117, 116, 115, 32, 115, 97, 115, 104, 47, 115, 97, 115, 104, 108, 97, 119, 49, 50, 46, 83, 112, 108, 105, 116, 83, 105, 122, 101, 115, 32, 115, 97, 115, 104, 47, 115, 97, 115, 104, 108, 97, 119, 49, 54, 46, 83, 112, 114, 101, 97, 100, 65, 108, 108, 32, 115, 97, 115, 104, 47, 115, 97, 115, 104, 108, 97, 119, 49, 54, 46, 83, 112, 114, 101, 97, 100, 65, 116, 32, 115, 97, 115, 104, 47, 115, 97, 115, 104, 108, 97, 119, 49, 52, 46, 80, 117, 115, 104, 73, 115, 32, 115, 97, 115, 104, 47, 115, 97, 115, 104, 108, 97, 119, 49, 52, 46, 80, 117, 115, 104, 79, 110, 101, 32, 115, 97, 115, 104, 47, 115, 97, 115, 104, 108, 97, 119, 49, 52, 46, 80, 117, 115, 104, 70, 114, 97, 109, 101, 115, 32, 115, 97, 115, 104, 47, 115, 97, 115, 104, 108, 97, 119, 49, 52, 46, 80, 117, 115, 104, 67, 97, 110, 32, 115, 97, 115, 104, 47, 115, 97, 115, 104, 108, 97, 119, 49, 50, 46, 83, 112, 108, 105, 116, 73, 115, 32, 115, 97, 115, 104, 47, 115, 97, 115, 104, 108, 97, 119, 49, 50, 46, 83, 112, 108, 105, 116, 67, 97, 110].map Char.ofNat
def MK : List (List Char) := [[104, 97, 114, 110, 101, 115, 115].map Char.ofNat,
 [57, 48, 98, 52, 50, 100, 98, 100, 99, 50, 52, 54, 55, 51, 50, 51, 56, 57, 50, 48, 100, 50, 50, 98, 56, 57, 53, 102, 48, 48, 55, 48, 53, 101, 102, 48, 53, 53, 102, 54, 54, 55, 97, 57, 54, 56, 100, 50, 56, 97, 57, 52, 55, 52, 56, 57, 49, 49, 48, 97, 48, 101, 53, 55].map Char.ofNat,
 [99, 117, 116].map Char.ofNat,
 [97, 116].map Char.ofNat,
 [115, 97, 115, 104, 47, 115, 97, 115, 104, 108, 97, 119, 48, 55, 46, 70, 108, 97, 116, 78, 101, 120, 116, 115].map Char.ofNat,
 [115, 97, 115, 104, 47, 115, 97, 115, 104, 108, 97, 119, 48, 55, 46, 70, 108, 97, 116, 76, 105, 115, 116, 115].map Char.ofNat,
 [115, 97, 115, 104, 47, 115, 97, 115, 104, 108, 97, 119, 48, 52, 46, 82, 101, 99, 116, 67, 117, 116, 115].map Char.ofNat,
 [115, 97, 115, 104, 47, 115, 97, 115, 104, 108, 97, 119, 48, 57, 46, 65, 100, 106, 117, 115, 116, 83, 104, 97, 114, 101, 115].map Char.ofNat,
 [115, 97, 115, 104, 47, 115, 97, 115, 104, 108, 97, 119, 48, 57, 46, 65, 100, 106, 117, 115, 116, 69, 118, 101, 110, 115].map Char.ofNat,
 [115, 97, 115, 104, 47, 115, 97, 115, 104, 108, 97, 119, 49, 54, 46, 83, 112, 114, 101, 97, 100, 83, 105, 122, 101, 115].map Char.ofNat,
 [115, 97, 115, 104, 47, 115, 97, 115, 104, 108, 97, 119, 48, 55, 46, 70, 108, 97, 116, 67, 104, 97, 110, 103, 101, 115].map Char.ofNat,
 [115, 97, 115, 104, 47, 115, 97, 115, 104, 108, 97, 119, 48, 52, 46, 82, 101, 99, 116, 73, 110, 115, 105, 100, 101].map Char.ofNat,
 [115, 97, 115, 104, 47, 115, 97, 115, 104, 108, 97, 119, 48, 55, 46, 70, 108, 97, 116, 78, 97, 109, 101, 115].map Char.ofNat,
 [115, 97, 115, 104, 47, 115, 97, 115, 104, 108, 97, 119, 48, 57, 46, 65, 100, 106, 117, 115, 116, 83, 101, 116, 115].map Char.ofNat,
 [115, 97, 115, 104, 47, 115, 97, 115, 104, 108, 97, 119, 48, 52, 46, 82, 101, 99, 116, 77, 101, 101, 116, 115].map Char.ofNat,
 [115, 97, 115, 104, 47, 115, 97, 115, 104, 108, 97, 119, 48, 52, 46, 82, 101, 99, 116, 77, 97, 121, 115].map Char.ofNat,
 [115, 97, 115, 104, 47, 115, 97, 115, 104, 108, 97, 119, 48, 55, 46, 70, 108, 97, 116, 83, 116, 105, 108, 108].map Char.ofNat,
 [115, 97, 115, 104, 47, 115, 97, 115, 104, 108, 97, 119, 48, 53, 46, 67, 101, 108, 108, 77, 97, 121, 115].map Char.ofNat,
 [115, 97, 115, 104, 47, 115, 97, 115, 104, 108, 97, 119, 48, 53, 46, 67, 101, 108, 108, 83, 97, 109, 101].map Char.ofNat,
 [115, 97, 115, 104, 47, 115, 97, 115, 104, 108, 97, 119, 48, 53, 46, 67, 101, 108, 108, 67, 111, 117, 110, 116, 115].map Char.ofNat,
 [115, 97, 115, 104, 47, 115, 97, 115, 104, 108, 97, 119, 48, 56, 46, 76, 101, 97, 115, 116, 83, 117, 109, 115].map Char.ofNat,
 [115, 97, 115, 104, 47, 115, 97, 115, 104, 108, 97, 119, 48, 53, 46, 67, 101, 108, 108, 70, 105, 110, 100, 115].map Char.ofNat,
 [115, 97, 115, 104, 47, 115, 97, 115, 104, 108, 97, 119, 48, 56, 46, 76, 101, 97, 115, 116, 73, 115].map Char.ofNat,
 [115, 97, 115, 104, 47, 115, 97, 115, 104, 108, 97, 119, 48, 56, 46, 76, 101, 97, 115, 116, 70, 105, 116, 115].map Char.ofNat,
 [115, 97, 115, 104, 47, 115, 97, 115, 104, 108, 97, 119, 48, 56, 46, 76, 101, 97, 115, 116, 80, 97, 116, 104, 115].map Char.ofNat,
 [115, 97, 115, 104, 47, 115, 97, 115, 104, 108, 97, 119, 48, 53, 46, 67, 101, 108, 108, 80, 117, 116, 115].map Char.ofNat,
 [115, 97, 115, 104, 47, 115, 97, 115, 104, 108, 97, 119, 49, 50, 46, 83, 112, 108, 105, 116, 83, 105, 122, 101, 115].map Char.ofNat,
 [115, 97, 115, 104, 47, 115, 97, 115, 104, 108, 97, 119, 49, 54, 46, 83, 112, 114, 101, 97, 100, 65, 108, 108].map Char.ofNat,
 [115, 97, 115, 104, 47, 115, 97, 115, 104, 108, 97, 119, 49, 54, 46, 83, 112, 114, 101, 97, 100, 65, 116].map Char.ofNat,
 [115, 97, 115, 104, 47, 115, 97, 115, 104, 108, 97, 119, 49, 52, 46, 80, 117, 115, 104, 73, 115].map Char.ofNat,
 [115, 97, 115, 104, 47, 115, 97, 115, 104, 108, 97, 119, 49, 52, 46, 80, 117, 115, 104, 79, 110, 101].map Char.ofNat,
 [115, 97, 115, 104, 47, 115, 97, 115, 104, 108, 97, 119, 49, 52, 46, 80, 117, 115, 104, 70, 114, 97, 109, 101, 115].map Char.ofNat,
 [115, 97, 115, 104, 47, 115, 97, 115, 104, 108, 97, 119, 49, 52, 46, 80, 117, 115, 104, 67, 97, 110].map Char.ofNat,
 [115, 97, 115, 104, 47, 115, 97, 115, 104, 108, 97, 119, 49, 50, 46, 83, 112, 108, 105, 116, 73, 115].map Char.ofNat,
 [115, 97, 115, 104, 47, 115, 97, 115, 104, 108, 97, 119, 49, 50, 46, 83, 112, 108, 105, 116, 67, 97, 110].map Char.ofNat]
theorem VI : Try.prog.initOrder.toList = MJ := by
 have e : Try.prog.initOrder = String.ofList MJ := by kernel_rfl
 rw [e, String.toList_ofList]
theorem TD : wordsSigns Try.prog.initOrder.toList = MK := by
 rw [VI]
 kernel_rfl
def yN : List (List Char) := MK.drop 3
theorem Qz : behindMainWord (wordsSigns Try.prog.initOrder.toList) = ([99, 117, 116].map Char.ofNat) :: yN := by
 rw [TD]
 kernel_rfl
theorem aex : ([99, 117, 116].map Char.ofNat : List Char) = "cut".toList := by decide +kernel
theorem BM : behindMainWord (wordsSigns Try.prog.initOrder.toList) = "cut".toList :: yN := Qz.trans (congrArg (fun c => c :: yN) aex)
theorem JL (rest : List (List Char)) : stripLifts liftWords ("cut".toList :: rest) = ([], "cut".toList :: rest) := by
 have key : ∀ (l : List String), (l.all fun o => !("cut".toList == o.toList)) = true → stripLifts l ("cut".toList :: rest) = ([], "cut".toList :: rest) := by
  intro l
  induction l with
  | nil => intro _; rfl
  | cons o l ih =>
   intro h
   simp only [List.all_cons, Bool.and_eq_true] at h
   unfold stripLifts
   rw [if_neg (by simpa using h.1)]
   exact ih h.2
 exact key _ (by decide +kernel)
theorem aci (P : Program) (rest : List (List Char)) (h : behindMainWord (wordsSigns P.initOrder.toList) = "cut".toList :: rest) : P.make = some .cut := by
 unfold Program.make
 rw [h]
 simp only
 have h1 : ("cut".toList == "gc".toList) = false := by decide +kernel
 have h2 : ("cut".toList == "spec".toList) = false := by decide +kernel
 rw [h1, h2, if_neg (by simp), if_pos (by simp)]
theorem Yx (P : Program) (rest : List (List Char)) (h : behindMainWord (wordsSigns P.initOrder.toList) = "cut".toList :: rest) : P.headLifts = [] := by
 unfold Program.headLifts
 simp only [h, JL]
 simp
theorem Yb (P : Program) (rest : List (List Char)) (h : behindMainWord (wordsSigns P.initOrder.toList) = "cut".toList :: rest) : P.liftsFinal = false := by
 have h1 : (some "cut".toList == some "carried".toList) = false := by decide +kernel
 unfold Program.liftsFinal
 simp only [h, Yx P rest h, List.head?_cons, h1, Bool.false_and, List.contains_nil, Bool.or_false]
theorem X8 (P : Program) (rest : List (List Char)) (h : behindMainWord (wordsSigns P.initOrder.toList) = "cut".toList :: rest) (h1 : P.laysLater = false) (h2 : P.bearsReflect = false) (h3 : P.doorFits [] = true) : P.mayEnter = true := by
 unfold Program.mayEnter
 rw [h]
 simp only [JL]
 rw [h1, h2, h3]
 simp
theorem VJ : Try.prog.make = some .cut := aci Try.prog yN BM
theorem TA : Try.prog.liftsFinal = false := Yb Try.prog yN BM
theorem TC : Try.prog.laysLater = false := by kernel_rfl
theorem PI : Try.prog.bearsReflect = false := by kernel_rfl
theorem VG : Try.prog.doorFits [] = true := by kernel_rfl
theorem Tz : Try.prog.mayEnter = true := X8 Try.prog yN BM TC PI VG
theorem VH : (true == Try.prog.plainKeys) = true := by kernel_rfl
theorem TB : Try.prog.stopsHeard = true := by kernel_rfl
theorem V_ {P : Program} {f : FuncId} {fn : Func} {s : ChangeSpec} {c : OpenClaim}
  (h0 : (c.wf (OpenSpec.ofChange s)) = true)
  (h1 : (laidOutB P) = true)
  (h2 : (mapsRowed P) = true)
  (h3 : (fn.params.all (P.readableRec ·)) = true)
  (h4 : (namedTie P c.named s.vars) = true)
  (h5 : ((c.stops == [])) = true)
  (h6 : ((P.stops == [])) = true)
  (h7 : ((c.knobs == [])) = true)
  (h8 : ((P.stopKnobs == [])) = true)
  (h9 : ((c.inPlace == P.inPlace f)) = true)
  (h10 : ((c.unfollowed == P.unfollowed f)) = true)
  (h11 : ((c.recurses == P.recurses f)) = true)
  (h12 : ((c.named == P.varsNamed f)) = true)
  (h13 : ((c.maps == (fn.params.toList ++ s.plain.varTypes P).any (P.mapsRec ·))) = true)
  (h14 : ((c.ifaces == (fn.params.toList ++ s.plain.varTypes P).any (P.ifacesRec ·))) = true)
  (h15 : ((c.mapsOut == P.mapsAmong fn.resultTypes.toList)) = true)
  (h16 : ((c.loops == (fn.params.toList ++ s.plain.varTypes P).any (P.loopsFrom ·))) = true)
  (h17 : ((c.wideKeys == (fn.params.toList ++ s.plain.varTypes P ++ fn.resultTypes.toList).any (P.wideKeysFrom ·))) = true)
  (h18 : (s.vars.all (P.varReadable ·)) = true)
  (h19 : (fn.resultTypes.all (fun t => P.readableRec t && decide (t < P.types.size))) = true)
  (h20 : ((c.ifacesOut == fn.resultTypes.toList.any (P.ifacesRec ·))) = true)
  (h21 : ((c.loopsOut == fn.resultTypes.toList.any (P.loopsFrom ·))) = true)
  (h22 : ((c.plainKeys == P.plainKeys)) = true)
  (h23 : (c.shortTexts.isNone) = true)
  (h24 : (P.stopsHeard) = true)
  (h25 : (P.mayEnter) = true)
  (h26 : ((c.lifted == P.liftsFinal)) = true)
  (h27 : ((P.make == some c.make)) = true)
  (hd : c.domain.isEmpty = true) (hk : c.kinds = [])
  (h29 : ((c.pinned == c.pinnedBy)) = true)
  (h30 : ((c.veiled == (fn.params.toList ++ s.plain.varTypes P ++ fn.resultTypes.toList).any (P.veiledRec ·))) = true)
  (h31 : (c.veiledFits P fn.params.toList (fn.params.toList ++ s.plain.varTypes P ++ fn.resultTypes.toList)) = true)
  : joinedFacts P f fn s c = true := by
 unfold joinedFacts
 rw [h0, h1, h2, h3, h4, h5, h6, h7, h8, h9, h10, h11, h12, h13, h14, h15, h16, h17, h18, h19, h20, h21, h22, h23, h24, h25, h26, h27, if_pos hd, hk, h29, h30, h31]
 rfl
end Go.Proofs.Ytfdmfgaiblfbhaa.P
namespace Go.Proofs.Ytfdmfgaiblfbhaa.P
open Go.RowKit Go.Proofs.ag.aV Go.Proofs.ag.bP Go.Proofs.ag.cO
open Go.ChangeShapes Go.WideShapes Go.ChangeAt Go.Joins Go.Deep
section
variable {H : Type} {enc : TypeId × Value → H} {P : Program} {w : World} {base : Nat} {spare : Nat → Bool} {held : Bool}
theorem OL (d : DataW H) : 1 ≤ Rows.uptoBulk d := by
 cases d with
 | lit l => cases l <;> simp [Rows.uptoBulk]
 | _ => simp [Rows.uptoBulk]
theorem XM (l : List (DataW H)) : l.length ≤ Rows.uptoBulkAll l := by
 induction l with
 | nil => simp
 | cons x xs ih =>
  have := OL x
  simp only [Rows.uptoBulkAll, List.length_cons]
  omega
theorem XN {α : Type} (m : α → Nat) : ∀ (l : List α) (es : List (DataW H)), l.length = es.length → (∀ (i : Nat) (p : α) (e : DataW H), l[i]? = some p → es[i]? = some e → m p ≤ Rows.uptoBulk e) → (l.map m).sum ≤ Rows.uptoBulkAll es := by
 intro l
 induction l with
 | nil => intro es _ _; simp
 | cons x xs ih =>
  intro es hl h
  cases es with
  | nil => simp at hl
  | cons e es =>
   have h0 := h 0 x e rfl rfl
   have h1 := ih es (by simpa using hl) (fun i p e hp he => h (i + 1) p e (by simpa using hp) (by simpa using he))
   simp only [List.map_cons, List.sum_cons, Rows.uptoBulkAll]
   omega
theorem Nr {t : TypeId} {f0 f1 f2 f3 : Field} {fuel : Nat} {cs : List Value} {x : DataW H × List MemPlace} (ht : P.underlying t = some (.struct #[f0, f1, f2, f3])) (h : DataW.trod enc P w base spare held fuel t cs = some x) :
  ∃ y0 y1 y2 y3 n, fuel = n + 1 ∧ x.1 = .agg [y0.1, y1.1, y2.1, y3.1] ∧ cs.length = P.cellsOf t ∧ DataW.trod enc P w base spare held n f0.type ((cs.drop f0.offset).take (P.cellsOf f0.type)) = some y0 ∧
   DataW.trod enc P w base spare held n f1.type ((cs.drop f1.offset).take (P.cellsOf f1.type)) = some y1 ∧ DataW.trod enc P w base spare held n f2.type ((cs.drop f2.offset).take (P.cellsOf f2.type)) = some y2 ∧
   DataW.trod enc P w base spare held n f3.type ((cs.drop f3.offset).take (P.cellsOf f3.type)) = some y3 := by
 obtain ⟨xs, n, hn, rfl, hl, hlen, hf⟩ := DataW.trod_struct ht h
 match xs, hlen with
 | [y0, y1, y2, y3], _ => exact ⟨y0, y1, y2, y3, n, hn, rfl, hl, by simpa using hf 0 f0 rfl, by simpa using hf 1 f1 rfl, by simpa using hf 2 f2 rfl, by simpa using hf 3 f3 rfl⟩
theorem WC {α : Type} {k : Kd α} {ok : α → Prop} (m : α → Nat) {t e : TypeId} {fuel : Nat} {cs : List Value} {x : DataW H × List MemPlace} (ht : P.underlying t = some (.slice e)) (hs : k.sz = P.cellsOf e)
  (hE : ∀ n, n < fuel → ∀ cs y, DataW.trod enc P w base spare held n e cs = some y → ∃ p, k.K w p cs ∧ ok p ∧ m p ≤ Rows.uptoBulk y.1) (h : DataW.trod enc P w base spare held fuel t cs = some x) :
  ∃ A c l, cs = [.slice A (l : List α).length c] ∧ l.length ≤ c ∧ k.C w A l.length l ∧ (∀ p, p ∈ l → ok p) ∧ (l.map m).sum < Rows.uptoBulk x.1 ∧ l.length < Rows.uptoBulk x.1 := by
 rcases DataW.trod_slice ht h with ⟨rfl, rfl⟩ | ⟨a, len, cap, elems, rest, n, hn, rfl, rfl, hb, hl, hm, hlen, hel, hsp, hns⟩
 ·exact ⟨none, 0, [], rfl, Nat.le_refl _, ⟨rfl, by simp, fun h => absurd h (by simp)⟩, (fun p hp => by cases hp), (by simp [Rows.uptoBulk]), (by simp [Rows.uptoBulk])⟩
 ·obtain ⟨l, hl2, hq⟩ := row_of (α := α) (Q := fun i p => ok p ∧ (∃ c, c.length = k.sz ∧ k.K w p c ∧ ∀ j u, c[j]? = some u → w.cell? (a.add (i * k.sz + j)) = some u) ∧ ∀ e, elems[i]? = some e → m p ≤ Rows.uptoBulk e.1) len (fun i hi => by
   have key := hel i hi
   rw [List.getElem?_eq_getElem (by omega)] at key
   obtain ⟨cs', h1, h2⟩ := Option.bind_eq_some_iff.1 key
   obtain ⟨p, hp, hok, hm⟩ := hE n (by omega) cs' _ h2
   obtain ⟨h3, h4⟩ := cells_at h1
   refine ⟨p, hok, ⟨cs', by rw [h3, hs], hp, fun j u hj => ?_⟩, fun e he => ?_⟩
   ·rw [hs, ← Deep.add_add]
    exact h4 j u hj
   ·rw [List.getElem?_eq_getElem (by omega)] at he
    cases he
    exact hm)
  subst hl2
  refine ⟨some a, cap, l, rfl, hl, ⟨rfl, by unfold maxLen at hm; omega, fun _ => ⟨a, rfl, fun j p hj => ?_⟩⟩, fun p hp => ?_, ?_, ?_⟩
  ·obtain ⟨_, ⟨c, h1, h2, h3⟩, _⟩ := hq j p hj
   exact ⟨c, h1, h2, h3⟩
  ·obtain ⟨i, hi, rfl⟩ := List.getElem_of_mem hp
   exact (hq i _ (List.getElem?_eq_getElem hi)).1
  ·have := XN m l (elems.map (·.1)) (by simp [hlen]) (fun i p e hp he => by
    rw [List.getElem?_map] at he
    obtain ⟨e', he', rfl⟩ := Option.map_eq_some_iff.1 he
    exact (hq i p hp).2.2 e' he')
   simp only [Rows.uptoBulk]
   omega
  ·have := XM (elems.map (·.1))
   simp only [List.length_map] at this
   simp only [Rows.uptoBulk]
   omega
end
section
variable {H : Type} {enc : TypeId × Value → H} {w : World} {base : Nat} {spare : Nat → Bool} {held : Bool}
theorem YT : ∀ (fuel : Nat) {cs : List Value} {x : DataW H × List MemPlace} (_ : DataW.trod enc Try.prog w base spare held fuel 26 cs = some x), ∃ r : ai, (Kd.upto QI 7 [26] fuel).K w r cs ∧ GU fuel r ∧ sz r ≤ Rows.uptoBulk x.1 := by
 intro fuel
 induction fuel using Nat.strongRecOn with
 | _ fuel ih =>
 intro cs x h
 cases fuel with
 | zero => simp [DataW.trod] at h
 | succ fuel =>
  obtain ⟨y0, y1, y2, y3, m, hm, hx, hl, h0, h1, h2, h3⟩ := Nr Try.underlying26 h
  obtain rfl : fuel = m := by omega
  rw [cells26] at hl
  match cs, hl with
  | [c0, c1, c2, c3, c4, c5, c6], _ =>
    simp only [cells3, cells5, cells23, cells24, List.drop_zero, List.take_succ_cons, List.take_zero, List.drop_succ_cons] at h0 h1 h2 h3
    obtain ⟨n0, e0, _, w0⟩ := DataW.trod_int Try.underlying5 h0
    obtain ⟨n2, e2, _, w2⟩ := DataW.trod_int Try.underlying3 h2
    simp only [List.cons.injEq, and_true] at e0 e2
    subst e0 e2
    obtain ⟨r, hr, hw⟩ := afZ h1
    obtain e1 := IC hr
    simp only [List.cons.injEq, and_true] at e1
    obtain ⟨rfl, rfl, rfl, rfl⟩ := e1
    obtain ⟨A, c, l, e3, hlc, hC, hok, hsum, _⟩ := WC (k := Kd.upto QI 7 [26] fuel) (ok := GU fuel) sz Try.underlying24 (by rw [Ug, cells26]) (fun n hn cs y hy => by
     obtain ⟨p, hp, hok, hz⟩ := ih n (by omega) hy
     exact ⟨p, Kd.Gl P5 Ug (by omega) hp, Qw (by omega) hok, hz⟩) h3
    simp only [List.cons.injEq, and_true] at e3
    subst e3
    have ag' : l.length ≤ 9223372036854775807 := hC.2.1
    refine ⟨⟨n0, r, n2, l⟩, ?_, ⟨Z_ w0, hw, BP w2, ag', hok⟩, ?_⟩
    ·exact ⟨[.int .u8 n0], [.int .i64 r.f0, .int .i64 r.f1, .int .i64 r.f2, .int .i64 r.f3, .int .i64 n2, .slice A l.length c], rfl, rfl, [.int .i64 r.f0, .int .i64 r.f1, .int .i64 r.f2, .int .i64 r.f3], [.int .i64 n2, .slice A l.length c], rfl, PV w r, [.int .i64 n2], [.slice A l.length c], rfl, rfl, A, c, rfl, hlc, hC⟩
    ·rw [hx, bV]
     have := acF l
     simp only [Rows.uptoBulk, Rows.uptoBulkAll]
     have h3 := OL y0.1
     omega
theorem acy {fuel : Nat} {cs : List Value} {x : DataW H × List MemPlace} (h : DataW.trod enc Try.prog w base spare held fuel 26 cs = some x) : ∃ r : ai, k26.K w r cs ∧ agh r ∧ sz r ≤ Rows.uptoBulk x.1 := by
 obtain ⟨r, hr, hw, hz⟩ := YT fuel h
 exact ⟨r, ⟨fuel, hr⟩, ⟨fuel, hw⟩, hz⟩
end
end Go.Proofs.Ytfdmfgaiblfbhaa.P
namespace Go.Proofs.Ytfdmfgaiblfbhaa.JE
open Go.ChangeShapes Go.WideShapes Go.ChangeAt Go.RowKit Go.Proofs.Ytfdmfgaiblfbhaa.P Go.Proofs.ag.aV
open Go.ChangeMaps (open_string shut_string)
theorem own : ownKnob Try.prog.godebug = none := by kernel_rfl
theorem laidOut : laidOutB Try.prog = true := by kernel_rfl
theorem lifted (os : Os) (started : os.Started) (H : Type) (enc : TypeId × Value → H) (F : Stop.Interp) :
  ReturnsInHanded {} Try.checked os 28 .any ((Rows.OpenSpec.upto Rows.pushIsSpec).pre6 enc Try.prog Try.f28 Rows.pushIsUptoRow.domain false) (((Rows.OpenSpec.upto Rows.pushIsSpec).at F).post enc Try.prog Try.f28 false true false false) := by
 refine returnsInHanded_of_cond (C := Try.checked) (s := Rows.OpenSpec.upto Rows.pushIsSpec) (k := Rows.uptoSmall) rfl own started (by kernel_rfl) Try.func28
  (OpenSpec.witness (enc := enc) (C := Try.checked) (s := Rows.OpenSpec.upto Rows.pushIsSpec) (k := Rows.uptoSmall) rfl false ⟨#[], #[.agg #[.int .u8 0, .int .i64 0, .int .i64 0, .int .i64 0, .int .i64 0, .int .i64 0, .slice none 0 0], .int .i64 0, .int .u8 0, .int .i64 0], []⟩ 8 (by kernel_rfl) (by kernel_rfl) (by kernel_rfl)
   (x := ([.agg [.lit (.int .u8 0), .agg [.lit (.int .i64 0), .lit (.int .i64 0), .lit (.int .i64 0), .lit (.int .i64 0)], .lit (.int .i64 0), .nil], .lit (.int .i64 0), .lit (.int .u8 0), .lit (.int .i64 0)], [], [])) (by kernel_rfl) rfl (by kernel_rfl)) ?_
 intro W base args ds gs before hval0 hW hcnd hk0 _
 have hval : ∀ (j : Nat) t v, Try.f28.params[j]? = some t → args[j]? = some v → Value.okWide Try.prog W .any base t v := hval0
 have hW' := hW
 obtain ⟨p, q, hA0, hV, rfl, hfz, hnd⟩ := hW
 have hA : DataW.TrodAll enc Try.prog W 0 (fun _ => true) true Try.f28.params.toList args.toList ds p := hA0
 rw [Try.params28] at hA hval
 obtain ⟨v0, vs0, d0, ds0, p0, q0, hargs, rfl, rfl, h0, r0⟩ := trodAll_cons hA
 obtain ⟨v1, vs1, d1, ds1, p1, q1, rfl, rfl, rfl, h1, r1⟩ := trodAll_cons r0
 obtain ⟨v2, vs2, d2, ds2, p2, q2, rfl, rfl, rfl, h2, r2⟩ := trodAll_cons r1
 obtain ⟨v3, vs3, d3, ds3, p3, q3, rfl, rfl, rfl, h3, r3⟩ := trodAll_cons r2
 obtain ⟨rfl, rfl, rfl⟩ := trodAll_nil r3
 obtain rfl : args = #[v0, v1, v2, v3] := by cases args; simp_all
 obtain ⟨rfl, rfl⟩ := trodVars_none hV
 have hB := of_decide_eq_true hk0
 simp only [List.cons_append, List.nil_append, List.append_nil, Rows.uptoBulkAll] at hB
 have z0 : Rows.uptoBulk d0 ≤ 1048576 := by omega
 have k0 := h0
 have lt0 : ∀ x ∈ p0, x.block < W.heap.size := by obtain ⟨m, hm⟩ := k0; exact DataW.trod_lt m _ _ _ hm
 obtain ⟨fuel0, hf0⟩ := h0
 obtain ⟨cs0, rfl, _⟩ := okWide_struct Try.underlying26 (hval 0 26 v0 rfl rfl)
 obtain ⟨a0, b0, w0, y0⟩ := acy hf0
 obtain ⟨A0, c0, e0, hc0, hr0⟩ := Ea b0
 obtain rfl := ad4 e0
 obtain ⟨a1, rfl, rfl, rfl, w1⟩ := open_int Try.underlying3 (hval 1 3 v1 rfl rfl) h1
 obtain ⟨a2, rfl, rfl, rfl, w2⟩ := open_int Try.underlying5 (hval 2 5 v2 rfl rfl) h2
 obtain ⟨a3, rfl, rfl, rfl, w3⟩ := open_int Try.underlying3 (hval 3 3 v3 rfl rfl) h3
 have hP := Pure.PushIs a0 a1 a2 a3 w0 (Nat.le_trans y0 z0) (BP w1) (Z_ w2) (BP w3)
 refine (nP.calls a0.f0 a0.f1.f0 a0.f1.f1 a0.f1.f2 a0.f1.f3 a0.f2 _ _ a0.f3 a1 a2 a3 true W hr0 hc0 hP).mono fun e W' ⟨he, ais⟩ => ?_
 have bel : Below W.heap.size W W' := ais
 subst he
 exact ⟨_, rfl, _, _, _, [], _, [], hW', trodAll_mk1 (shut_bool Try.underlying4 _), (trodAll_cons_mk (Below.trod laidOut (by kernel_rfl) (of_decide_eq_true (by kernel_rfl)) k0 bel lt0) (trodAll_cons_mk (shut_int Try.underlying3 w1) (trodAll_cons_mk (shut_int Try.underlying5 w2) (trodAll_cons_mk (shut_int Try.underlying3 w3) trodAll_mk0)))), rfl, bel.frame _, fun h => by cases h⟩
theorem j0 : (Rows.pushIsUptoRow.wf (OpenSpec.ofChange (Rows.OpenSpec.upto Rows.pushIsSpec).bare)) = true := by kernel_rfl
theorem j1 : (laidOutB Try.prog) = true := by kernel_rfl
theorem j2 : (mapsRowed Try.prog) = true := by kernel_rfl
theorem j3 : (Try.f28.params.all (Try.prog.readableRec ·)) = true := by kernel_rfl
theorem j4 : (namedTie Try.prog Rows.pushIsUptoRow.named (Rows.OpenSpec.upto Rows.pushIsSpec).bare.vars) = true := by kernel_rfl
theorem j5 : ((Rows.pushIsUptoRow.stops == [])) = true := by kernel_rfl
theorem j6 : ((Try.prog.stops == [])) = true := by kernel_rfl
theorem j7 : ((Rows.pushIsUptoRow.knobs == [])) = true := by kernel_rfl
theorem j8 : ((Try.prog.stopKnobs == [])) = true := by kernel_rfl
theorem j9 : ((Rows.pushIsUptoRow.inPlace == Try.prog.inPlace 28)) = true := by kernel_rfl
theorem j10 : ((Rows.pushIsUptoRow.unfollowed == Try.prog.unfollowed 28)) = true := by kernel_rfl
theorem j11 : ((Rows.pushIsUptoRow.recurses == Try.prog.recurses 28)) = true := by kernel_rfl
theorem j12 : ((Rows.pushIsUptoRow.named == Try.prog.varsNamed 28)) = true := by kernel_rfl
theorem j13 : ((Rows.pushIsUptoRow.maps == (Try.f28.params.toList ++ (Rows.OpenSpec.upto Rows.pushIsSpec).bare.plain.varTypes Try.prog).any (Try.prog.mapsRec ·))) = true := by kernel_rfl
theorem j14 : ((Rows.pushIsUptoRow.ifaces == (Try.f28.params.toList ++ (Rows.OpenSpec.upto Rows.pushIsSpec).bare.plain.varTypes Try.prog).any (Try.prog.ifacesRec ·))) = true := by kernel_rfl
theorem j15 : ((Rows.pushIsUptoRow.mapsOut == Try.prog.mapsAmong Try.f28.resultTypes.toList)) = true := by kernel_rfl
theorem j16 : ((Rows.pushIsUptoRow.loops == (Try.f28.params.toList ++ (Rows.OpenSpec.upto Rows.pushIsSpec).bare.plain.varTypes Try.prog).any (Try.prog.loopsFrom ·))) = true := by kernel_rfl
theorem j17 : ((Rows.pushIsUptoRow.wideKeys == (Try.f28.params.toList ++ (Rows.OpenSpec.upto Rows.pushIsSpec).bare.plain.varTypes Try.prog ++ Try.f28.resultTypes.toList).any (Try.prog.wideKeysFrom ·))) = true := by kernel_rfl
theorem j18 : ((Rows.OpenSpec.upto Rows.pushIsSpec).bare.vars.all (Try.prog.varReadable ·)) = true := by kernel_rfl
theorem j19 : (Try.f28.resultTypes.all (fun t => Try.prog.readableRec t && decide (t < Try.prog.types.size))) = true := by kernel_rfl
theorem j20 : ((Rows.pushIsUptoRow.ifacesOut == Try.f28.resultTypes.toList.any (Try.prog.ifacesRec ·))) = true := by kernel_rfl
theorem j21 : ((Rows.pushIsUptoRow.loopsOut == Try.f28.resultTypes.toList.any (Try.prog.loopsFrom ·))) = true := by kernel_rfl
theorem j23 : (Rows.pushIsUptoRow.shortTexts.isNone) = true := by kernel_rfl
theorem j29 : ((Rows.pushIsUptoRow.pinned == Rows.pushIsUptoRow.pinnedBy)) = true := by kernel_rfl
theorem j30 : ((Rows.pushIsUptoRow.veiled == (Try.f28.params.toList ++ (Rows.OpenSpec.upto Rows.pushIsSpec).bare.plain.varTypes Try.prog ++ Try.f28.resultTypes.toList).any (Try.prog.veiledRec ·))) = true := by kernel_rfl
theorem j31 : (Rows.pushIsUptoRow.veiledFits Try.prog Try.f28.params.toList (Try.f28.params.toList ++ (Rows.OpenSpec.upto Rows.pushIsSpec).bare.plain.varTypes Try.prog ++ Try.f28.resultTypes.toList)) = true := by kernel_rfl
theorem closed : joinedFacts Try.prog 28 Try.f28 (Rows.OpenSpec.upto Rows.pushIsSpec).bare Rows.pushIsUptoRow = true := P.V_ j0 j1 j2 j3 j4 j5 j6 j7 j8 j9 j10 j11 j12 j13 j14 j15 j16 j17 j18 j19 j20 j21 P.VH j23 P.TB P.Tz (by rw [P.TA]; rfl) (by rw [P.VJ]; rfl) rfl rfl j29 j30 j31
theorem over : Rows.pushIsUptoRow.holds Try.pinned (Rows.OpenSpec.upto Rows.pushIsSpec) :=
 OpenClaim.holds_of_cond 28 Try.f28 rfl rfl rfl rfl rfl rfl rfl ⟨rfl, rfl, rfl, rfl, rfl⟩ rfl rfl rfl rfl rfl (by kernel_rfl) Try.func28 closed
  (of_decide_eq_true (by kernel_rfl)) (by unfold Func.isWrapper; first | (rw [if_pos (by decide +kernel)]; kernel_rfl) | (rw [if_neg (by decide +kernel)]; exact ⟨rfl, rfl⟩))
  (fun os started H enc _ F => lifted os started H enc F)
theorem proved : Rows.PushIsUptoSaid := over
#print axioms proved
end Go.Proofs.Ytfdmfgaiblfbhaa.JE
namespace Go.Proofs.Ytfdmfgaiblfbhaa
theorem pushIsUpto_holds : Rows.PushIsUptoSaid := JE.proved
end Go.Proofs.Ytfdmfgaiblfbhaa
