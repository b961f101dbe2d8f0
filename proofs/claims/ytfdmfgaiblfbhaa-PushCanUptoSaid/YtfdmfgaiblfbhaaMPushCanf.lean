/- The row of the law PushCan, second form (what it reads is of bulk at most 1048576), out of its plain law and its walk. -/
import Derived.Test.YtfdmfgaiblfbhaaMPushCane
import Derived.Test.YtfdmfgaiblfbhaaMPushCand
import Derived.Test.YtfdmfgaiblfbhaaMPushCanc
import Derived.ProofKit
import Derived.Deep.Slices
import Derived.Lib.SmallJoins
import Derived.OpenShut
import Derived.Test.YtfdmfgaiblfbhaaRows
import Derived.WalkKit
import Derived.ShutString
import Derived.ChangeOld
import Derived.Below
import Derived.SizedLaws
import Derived.JoinedCond
set_option maxHeartbeats 8000000
set_option maxRecDepth 100000
set_option linter.unusedVariables false
set_option linter.unusedSimpArgs false
namespace Go.Proofs.Ytfdmfgaiblfbhaa.P
open Go.RowKit Go.Proofs.ag.aK Go.Proofs.ag.bG Go.Proofs.ag.bV
def vG.T18 : Bool × List (List Nat × List Nat) := (true, [([], []), ([0], [0]), ([], []), ([], []), ([], []), ([], []), ([3, 4, 5], [3, 4, 5]), ([1, 2, 0, 1, 2, 3, 4, 5, 6], [1, 2]), ([7, 6, 6, 0, 1, 2, 3, 4, 5, 6], [6, 7])])
def vG.B18 : List Nat := [0, 1, 0, 0, 0, 0, 56, 127, 255]
theorem vG.afP : g_ .any (opsOf Try.f199 18) = vG.T18 := by kernel_rfl
theorem vG.acg : iO vG.T18.2 vG.B18 = true := by kernel_rfl
theorem YG {W : World} {b : Nat} {P : Nat → Prop} {A : Option Addr} {n cc : Nat} (c : ai) (ax : Int) (hV : Kd.V k26 26 W b P (.slice A n cc) c.f3) :
  Calls Try.prog 99 #[.agg #[.int .u8 c.f0, .int .i64 c.f1.f0, .int .i64 c.f1.f1, .int .i64 c.f1.f2, .int .i64 c.f1.f3, .int .i64 c.f2, .slice A n cc], .int .u8 ax] W fun e w' => e = .returned (.bool (fC ax c.f0)) ∧ Below W.heap.size W w' := by
 obtain rfl := (Kd.kP hV).1
 exact YF c ax hV
theorem ab8 (ax : Int) : ∀ (N : Nat) (c : ai), sz c ≤ N → N ≤ 100000 → ∀ (bu : Int), (-2147483647 ≤ bu ∧ bu ≤ 2147483647) → ∀ (P : Nat → Prop) (A : Option Addr) (cc : Nat) (w : World), Kd.V k26 26 w w.heap.size P (.slice A c.f3.length cc) c.f3 →
  Calls Try.prog 199 #[.agg #[.int .u8 c.f0, .int .i64 c.f1.f0, .int .i64 c.f1.f1, .int .i64 c.f1.f2, .int .i64 c.f1.f3, .int .i64 c.f2, .slice A c.f3.length cc], .int .u8 ax, .int .i64 bu] w (Qk w P (fE ax c bu)) := by
 intro N
 induction N with
 | zero => intro c h; rw [cO] at h; omega
 | succ N ih =>
  intro c hc hN bu hby P A cc w hv
  have hsz := cO c
  have hlen := ik c.f3
  have hl1 : c.f3.length ≤ 100000 := by omega
  have IH := ae.mk fun (k : ai) (hk : k ∈ c.f3) (n : Int) (hn : -2147483647 ≤ n ∧ n ≤ 2147483647) P A cc w h => ih k (by have := PU hk; omega) (by omega) n hn P A cc w h
  have OL := ae.mk fun (k : ai) (hk : k ∈ c.f3) => (show sz k ≤ 1048576 by have := PU hk; omega)
  have gW := ae.mk (show c.f3.length ≤ 1000000 by omega)
  have Tq := Ea bu (c.f3.map (az ax)) (by simpa using hl1) hby.1 hby.2
  have hsl := aaO (b := bu) (gs := c.f3.map (az ax)) (by simpa using hl1) hby.1 hby.2
  have hsb := U2 (b := bu) (gs := c.f3.map (az ax)) (by simpa using hl1) hby.1 hby.2
  have QD := fun (Ag : Option Addr) (cg : Nat) (W : World) (hC : Kd.C (Kd.int .i64) W Ag (c.f3.map (az ax)).length (c.f3.map (az ax))) (h2 : (c.f3.map (az ax)).length ≤ cg) => Xo bu (c.f3.map (az ax)) (by simpa using hl1) hby.1 hby.2 hC h2
  have O4 : ∀ i, JM ax c.f0 c.f3 bu i = if (qP bu (c.f3.map (az ax))).2 = true ∧ fC ax c.f0 = true then rd (qP bu (c.f3.map (az ax))).1 (i : Int) else bu := fun i => rfl
  rw [yV]
  have S := ae.mk (St.start (ts := [(.slice A c.f3.length cc, c.f3)]) (b0 := w.heap.size) (w := w) (P := P) (fun t ht => by rw [List.mem_singleton.1 ht]; exact hv))
  obtain ⟨ck, ⟨cx, cy, cw, ch⟩, aU, l⟩ := c
  simp only [] at S IH OL gW Tq hsl hsb QD O4 hl1 ⊢
  obtain ⟨gw, hgw⟩ : ∃ gw, gw = if ax = 1 then wrap64 (cw + bu) else cw := ⟨_, rfl⟩
  obtain ⟨gh, hgh⟩ : ∃ gh, gh = if ax = 1 then ch else wrap64 (ch + bu) := ⟨_, rfl⟩
  simp only [grow]
  rw [← hgw, ← hgh]
  generalize JM ax ck l bu = NS at O4 ⊢
  obtain ⟨⟨sl, ok⟩, hsp⟩ : ∃ sp, sp = qP bu (l.map (az ax)) := ⟨_, rfl⟩
  simp only [← hsp, List.length_map] at hsl hsb QD O4
  have HNB := ae.mk (show ∀ i, i < l.length → -2147483647 ≤ NS i ∧ NS i ≤ 2147483647 from fun i hi => by
   rw [O4 i]
   split
   ·rename_i h
    exact hsb _ (by unfold rd; rw [List.getD_eq_getElem?_getD, List.getElem?_eq_getElem (by rw [hsl h.1]; simpa using hi)]; exact List.getElem_mem _)
   ·exact hby)
  have KQ := ae.mk hsl
  have HNS := ae.mk O4
  have HSC := ae.mk QD
  have OJ := ae.mk hgw
  have HGH := ae.mk hgh
  have HL1 := ae.mk hl1
  clear ih hc hN hby hv hsz hlen Tq hsl hsb QD O4 hgw hgh hsp hl1
  go_enter Try.func199, Try.ntmps199
  go_upto_if 16 with (first
   | (refine boxS 3 _ 26 S ?_; clear S; intro b3 dF S)
   | (refine boxS 6 _ 26 S ?_; clear S; intro b6 dV S)
   | fail)
  go_cut [] (fun wc => ae (St w P [(some b6, .cells #[.int .u8 0, .int .i64 0, .int .i64 0, .int .i64 0, .int .i64 0, .int .i64 0, .slice none 0 0] 26 (0, 0)), (some b3, .cells #[.int .u8 ck, .int .i64 cx, .int .i64 cy, .int .i64 gw, .int .i64 gh, .int .i64 aU, .slice A l.length cc] 26 (0, 0))] [] [(.slice A l.length cc, l)] [] wc))
  case first =>
   by_cases hx : ax = 1
   ·have hxb : (ax == 1) = true := beq_iff_eq.mpr hx
    have HX := ae.mk hx
    clear hx
    have aX := (S.out.at bI 3).trans rfl
    go_wp2_with (first
     | (refine Aw 3 23 21 #[.int .u8 ck, .int .i64 cx, .int .i64 cy, .int .i64 (wrap64 (cw + bu)), .int .i64 ch, .int .i64 aU, .slice A l.length cc] 3 1 S ?_; clear S; intro fV S; clear aX)
     | fail)
    go_meet
    case rel => rw [OJ.out, HGH.out, if_pos HX.out, if_pos HX.out]; exact S
   ·have hxb : (ax == 1) = false := beq_eq_false_iff_ne.mpr hx
    have HX := ae.mk hx
    clear hx
    have bM := (S.out.at bI 4).trans rfl
    go_wp2_with (first
     | (refine Aw 3 30 28 #[.int .u8 ck, .int .i64 cx, .int .i64 cy, .int .i64 cw, .int .i64 (wrap64 (ch + bu)), .int .i64 aU, .slice A l.length cc] 4 1 S ?_; clear S; intro iQ S; clear bM)
     | fail)
    go_meet
    case rel => rw [OJ.out, HGH.out, if_neg HX.out, if_neg HX.out]; exact S
  case rest =>
   clear S OJ HGH
   rename World => wx
   have S := hcut
   clear hcut
   have bC := (S.out.at bI 6).trans rfl
   go_wp2_with (first
    | (refine QC (some 33) Try.func137 S (YL l gW.out (S.out.tree _ (.head _))) ?_; clear S; intro A1 c1 mO S; clear bC)
    | (refine Aw 24 34 33 #[.int .u8 ck, .int .i64 cx, .int .i64 cy, .int .i64 gw, .int .i64 gh, .int .i64 aU, .slice A1 l.length c1] 6 1 S ?_; clear S; intro Bz S; have bC := (S.out.at bI 6).trans rfl)
    | fail)
   clear bC
   obtain ⟨oi, S1, HI0⟩ := S.out.noI
   clear S
   go_loopg [7, 38] l.length (fun gg v7 v38 wr => ∃ (pre rest : List ai) (Ag : Option Addr) (cg : Nat) (og : Obj), v7 = .slice Ag pre.length cg ∧ v38 = .int .i64 (pre.length : Int) ∧ ae (pre ++ rest = l) ∧ rest.length ≤ gg ∧ ae (IR w.heap.size (.slice Ag pre.length cg) (pre.map (az ax)) og) ∧ ae (St w P [((Value.slice Ag pre.length cg).ownBlock, og), (some b6, .cells #[.int .u8 0, .int .i64 0, .int .i64 0, .int .i64 0, .int .i64 0, .int .i64 0, .slice none 0 0] 26 (0, 0)), (some b3, .cells #[.int .u8 ck, .int .i64 cx, .int .i64 cy, .int .i64 gw, .int .i64 gh, .int .i64 aU, .slice A1 l.length c1] 26 (0, 0))] [(.slice A1 l.length c1, l)] [(.slice A l.length cc, l)] [] wr))
   case atStart => exact ⟨[], l, none, 0, oi, rfl, rfl, ⟨rfl⟩, Nat.le_refl _, ⟨HI0⟩, ⟨S1⟩⟩
   case round =>
    clear S1 HI0 oi
    obtain ⟨pre, rest, Ag, cg, og, rfl, rfl, HE, hgg, HI, S⟩ := hrel
    cases rest with
    | nil =>
     have hE := HE.out
     rw [List.append_nil] at hE
     have hE2 := hE.symm
     subst hE2
     clear hE HE hgg
     have hlt : ¬ ((l.length : Int) < (l.length : Int)) := by omega
     have Tq := fun W hW => HSC.out Ag cg W (by have h := (Kd.dO (HI.out W hW)).2.2; rw [List.length_map] at h; exact h) (by have h := (Kd.dO (HI.out W hW)).2.1; exact h)
     have HSH := ae.mk Tq
     clear Tq HSC
     go_wp2_with (first
      | (refine iF (some 52) Try.func49 (HSH.out _ (S.out.blk _ (.head _))) ?_; rintro e yH ⟨As, cs, rfl, h1, hb⟩; refine ⟨_, rfl, ?_⟩; obtain ⟨os, S1, HI1⟩ := S.out.Xg h1 hb; replace S := ae.mk S1; have HIS := ae.mk HI1; clear S1 HI1 h1 hb; have bC := (S.out.at kW 6).trans rfl)
      | fail)
     clear bC
     go_loopg [58] l.length (fun gg v58 wr => ∃ (pre rest : List ai), v58 = .int .i64 (pre.length : Int) ∧ ae (pre ++ rest = l) ∧ rest.length ≤ gg ∧ ae (St w P [((Value.slice As sl.length cs).ownBlock, os), ((Value.slice Ag l.length cg).ownBlock, og), (some b6, .cells #[.int .u8 0, .int .i64 0, .int .i64 0, .int .i64 0, .int .i64 0, .int .i64 0, .slice none 0 0] 26 (0, 0)), (some b3, .cells #[.int .u8 ck, .int .i64 cx, .int .i64 cy, .int .i64 gw, .int .i64 gh, .int .i64 aU, .slice A1 l.length c1] 26 (0, 0))] [(.slice A1 l.length c1, (kQ ax pre NS 0 ++ rest))] [(.slice A l.length cc, l)] [] wr))
     case atStart => exact ⟨[], l, rfl, ⟨rfl⟩, Nat.le_refl _, ⟨by rw [rV]; exact S.out⟩⟩
     case round =>
      clear S
      obtain ⟨pre, rest, rfl, HE, hgg, S⟩ := hrel
      cases rest with
      | nil =>
       have hE := HE.out
       rw [List.append_nil] at hE
       have hE2 := hE.symm
       subst hE2
       clear hE HE hgg
       have hlt : ¬ ((l.length : Int) < (l.length : Int)) := by omega
       obtain ⟨a_, aW, aY, aX, bM, bP, bC⟩ := St.ed S kW
       go_wp2_with (first
        | (refine Q4 26 6 83 #[.int .u8 ck, .int .i64 cx, .int .i64 cy, .int .i64 gw, .int .i64 gh, .int .i64 aU, .slice A1 l.length c1] 0 7 S ?_; clear S; intro zL S; clear a_ aW aY aX bM bP bC)
        | fail)
       refine bodyPost_ret (results_cell_row rfl _ _ b6 26 _ (0, 0) _ rfl (S.out.blk _ dQ _ rfl) Try.underlying26 rfl (by kernel_rfl)) rfl ?_
       have hN := S.out.yA
       rw [List.append_nil] at hN
       simp only [Qk, y8]
       exact ⟨_, _, rfl, hN, S.out.below⟩
      | cons k rest =>
       have hk : k ∈ l := by rw [← HE.out]; simp
       have hlt : (pre.length : Int) < (l.length : Int) := by rw [← HE.out, List.length_append, List.length_cons]; omega
       have hw1 : wrap64 ((pre.length : Int) + 1) = ((pre ++ [k]).length : Int) := by have := gW.out; rw [List.length_append, List.length_singleton]; unfold wrap64; omega
       have HW1 := ae.mk hw1
       have fF := ae.mk hgg
       have HK := ae.mk hk
       have kL := ae.mk (OL.out k hk)
       have EO := ae.mk (show pre.length ≤ 1000000 by have := gW.out; omega)
       have HJ := ae.mk (show pre.length < l.length by omega)
       have uV := ae.mk (show (pre.length : Int) < ((kQ ax pre NS 0 ++ k :: rest).length : Int) by rw [List.length_append, y8, List.length_cons]; omega)
       obtain ⟨g, cap, ev, _⟩ := Kd.xJ S.out.yA (by have := uV.out; omega)
       injection ev with e1 e2 e3
       subst e1
       clear e2 e3 hk hgg hw1
       obtain ⟨ua, uc, S1, hcell⟩ := S.out.Ik (pre.length : Int) (Int.natCast_nonneg _) uV.out
       have hrd : aA (kQ ax pre NS 0 ++ k :: rest) (pre.length : Int) = k := ab9 ax NS pre k rest
       rw [hrd] at S1 hcell
       replace S := ae.mk S1
       have x0 : wr.cell? ⟨g, pre.length * 7, none⟩ = some (.int .u8 k.f0) := hcell 0 _ rfl
       have x1 : wr.cell? ⟨g, pre.length * 7 + 1, none⟩ = some (.int .i64 k.f1.f0) := hcell 1 _ rfl
       have x2 : wr.cell? ⟨g, pre.length * 7 + 2, none⟩ = some (.int .i64 k.f1.f1) := hcell 2 _ rfl
       have x3 : wr.cell? ⟨g, pre.length * 7 + 3, none⟩ = some (.int .i64 k.f1.f2) := hcell 3 _ rfl
       have x4 : wr.cell? ⟨g, pre.length * 7 + 4, none⟩ = some (.int .i64 k.f1.f3) := hcell 4 _ rfl
       have x5 : wr.cell? ⟨g, pre.length * 7 + 5, none⟩ = some (.int .i64 k.f2) := hcell 5 _ rfl
       have x6 : wr.cell? ⟨g, pre.length * 7 + 6, none⟩ = some (.slice ua k.f3.length uc) := hcell 6 _ rfl
       clear S1 hcell hrd
       go_upto_region 16 with (first
        | (refine boxS 13 _ 26 S ?_; clear S; intro b13 Ot S; clear x0 x1 x2 x3 x4 x5 x6)
        | (refine gX 26 13 62 #[.int .u8 k.f0, .int .i64 k.f1.f0, .int .i64 k.f1.f1, .int .i64 k.f1.f2, .int .i64 k.f1.f3, .int .i64 k.f2, .slice ua k.f3.length uc] 0 7 S ?_; clear S; intro AB S)
        | fail)
       go_cut [69] (fun v69 wc => v69 = .bool (ok && fC ax ck) ∧ ae (St w P [(some b13, .cells #[.int .u8 k.f0, .int .i64 k.f1.f0, .int .i64 k.f1.f1, .int .i64 k.f1.f2, .int .i64 k.f1.f3, .int .i64 k.f2, .slice ua k.f3.length uc] 26 (0, 0)), ((Value.slice As sl.length cs).ownBlock, os), ((Value.slice Ag l.length cg).ownBlock, og), (some b6, .cells #[.int .u8 0, .int .i64 0, .int .i64 0, .int .i64 0, .int .i64 0, .int .i64 0, .slice none 0 0] 26 (0, 0)), (some b3, .cells #[.int .u8 ck, .int .i64 cx, .int .i64 cy, .int .i64 gw, .int .i64 gh, .int .i64 aU, .slice (some ⟨g, 0, none⟩) l.length c1] 26 (0, 0))] [(.slice (some ⟨g, 0, none⟩) l.length c1, (kQ ax pre NS 0 ++ k :: rest))] [(.slice ua k.f3.length uc, k.f3), (.slice A l.length cc, l)] [] wc))
       case first =>
        cases ok with
        | false =>
         go_wp2
         go_meet
         case rel => exact ⟨by first | rfl | simp, S⟩
        | true =>
         obtain ⟨a_, aW, aY, aX, bM, bP, bC⟩ := St.ed S qj
         go_wp2_with (first
          | (refine ig 68 rfl ?_; (refine iE (by rfl) ?_; dsimp only); refine bH (some 68) Try.func99 S (YG ⟨ck, ⟨cx, cy, gw, gh⟩, aU, _⟩ ax (Kd.qL (base' := 0) (S.out.own _ (.head _)))) ?_; clear S; intro Oq S; clear a_ aW aY aX bM bP bC)
          | fail)
         go_meet
         case rel => exact ⟨by first | rfl | simp, S⟩
       case rest =>
        clear S
        obtain ⟨rfl, S⟩ := hcut
        rename World => wz
        go_upto_if 69 with fail
        go_cut [14] (fun v14 wc => v14 = .int .i64 (NS pre.length) ∧ ae (St w P [(some b13, .cells #[.int .u8 k.f0, .int .i64 k.f1.f0, .int .i64 k.f1.f1, .int .i64 k.f1.f2, .int .i64 k.f1.f3, .int .i64 k.f2, .slice ua k.f3.length uc] 26 (0, 0)), ((Value.slice As sl.length cs).ownBlock, os), ((Value.slice Ag l.length cg).ownBlock, og), (some b6, .cells #[.int .u8 0, .int .i64 0, .int .i64 0, .int .i64 0, .int .i64 0, .int .i64 0, .slice none 0 0] 26 (0, 0)), (some b3, .cells #[.int .u8 ck, .int .i64 cx, .int .i64 cy, .int .i64 gw, .int .i64 gh, .int .i64 aU, .slice (some ⟨g, 0, none⟩) l.length c1] 26 (0, 0))] [(.slice (some ⟨g, 0, none⟩) l.length c1, (kQ ax pre NS 0 ++ k :: rest))] [(.slice ua k.f3.length uc, k.f3), (.slice A l.length cc, l)] [] wc))
        case first =>
         cases hoa : (ok && fC ax ck) with
         | false =>
          go_wp2
          go_meet
          case rel => exact ⟨by rw [HNS.out, if_neg (by intro h; rw [h.1, h.2] at hoa; cases hoa)], S⟩
         | true =>
          have hok : ok = true ∧ fC ax ck = true := by simpa using hoa
          have hsl2 : sl.length = l.length := KQ.out hok.1
          have hlt2 : (pre.length : Int) < (sl.length : Int) := by rw [hsl2]; exact hlt
          obtain ⟨ads, ea, _⟩ := Kd.iR (Kd.dO (HIS.out _ (S.out.blk _ bI))).2.2 (pre.length : Int) (Int.natCast_nonneg _) hlt2
          subst ea
          have RQ := ae.mk hok
          clear hok
          have xs := BA HIS.out (S.out.blk _ bI) pre.length hlt2
          go_wp2
          clear xs
          go_meet
          case rel => exact ⟨by rw [HNS.out, if_pos RQ.out], S⟩
        case rest =>
         clear S
         obtain ⟨rfl, S⟩ := hcut
         rename World => wy
         go_wp2
         refine iU (n := 9) (S := fun w' => St w _ _ _ _ _ w') (ds := [8]) (bA 9 0) (by kernel_rfl) rfl rfl (S.out.call (bJ (Below.refl _ _))) (fun hHeld => ?_); refine eU vG.afP vG.acg (fun aj dY => ?_)
         replace S := ae.mk (S.out.call (bJ (Below.refl _ _)))
         generalize wy.drew = akM at S hHeld ⊢
         refine ay 0 74 (bA 9 1) aj ?_
         refine dN 1 75 (bA 9 3) aj dY hHeld ?_ (hv := by intro w' hs_; have bC := (hs_.at qj 6).trans rfl; go_simp; with_reducible rfl)
         refine ay 2 76 (bA 9 7) aj ?_
         refine dN 3 77 (bA 9 15) aj dY hHeld ?_ (hv := by intro w' hs_; have ai4 := (hs_.at (.head _) 0).trans rfl; have ai5 := (hs_.at (.head _) 1).trans rfl; have ai6 := (hs_.at (.head _) 2).trans rfl; have ai7 := (hs_.at (.head _) 3).trans rfl; have ai8 := (hs_.at (.head _) 4).trans rfl; have ai9 := (hs_.at (.head _) 5).trans rfl; have ai_ := (hs_.at (.head _) 6).trans rfl; go_simp; with_reducible rfl)
         refine ay 4 78 (bA 9 31) aj ?_
         refine ay 5 79 (bA 9 63) aj ?_
         refine jH 6 (some 80) (bA 9 127) aj (fun K hK => ?_)
         refine zW Try.func199 #[.agg #[.int .u8 k.f0, .int .i64 k.f1.f0, .int .i64 k.f1.f1, .int .i64 k.f1.f2, .int .i64 k.f1.f3, .int .i64 k.f2, .slice ua k.f3.length uc], .int .u8 ax, .int .i64 (NS pre.length)] ?_
         refine (IH.out k HK.out (NS pre.length) (HNB.out _ HJ.out) _ ua uc _ (fK (S.out.tree _ (.head _)))).mono ?_
         rintro e aew ⟨Av, cv, rfl, h1, hb⟩
         refine ⟨_, rfl, ?_⟩
         replace S := ae.mk (S.out.res (Kd.qL (base' := 0) h1) hb)
         clear h1 hb
         refine hK.out _ _ S.out.dE (fun hHeld => ?_)
         clear hK K
         refine d_ 80 ?_
         refine ay 7 81 (bA 9 255) aj ?_
         refine oP 8 none (bA 9 511) aj (fun K hK => ?_)
         refine PQ (pre.length : Int) (fE ax k (NS pre.length)) (.tmp 81) (.tmp 80) rfl S.out (by rfl) rfl (Int.natCast_nonneg _) uV.out (by first | rfl | (go_simp; rfl)) rfl (by kernel_rfl) (.head _) ?_
         intro aex S1
         rw [show (kQ ax pre NS 0 ++ k :: rest).set (pre.length : Int).toNat (fE ax k (NS pre.length)) = kQ ax (pre ++ [k]) NS 0 ++ rest from YE ax NS pre k rest] at S1
         replace S := ae.mk S1
         clear S1
         refine hK.out _ _ ?_
         clear hK K
         refine jJ (gK aj.out (by kernel_rfl)) ?_
         clear hHeld
         go_wp2
         have hw1 := HW1.out
         go_wp2
         go_roundg rest.length
         case measure => exact Nat.lt_of_lt_of_le (Nat.lt_succ_self _) fF.out
         case rel => exact ⟨pre ++ [k], rest, (by rw [hw1]), ⟨by rw [List.append_assoc]; exact HE.out⟩, Nat.le_refl _, ⟨S.out.dP.dE.dE⟩⟩
    | cons k rest =>
     have hk : k ∈ l := by rw [← HE.out]; simp
     have hlt : (pre.length : Int) < (l.length : Int) := by rw [← HE.out, List.length_append, List.length_cons]; omega
     have hw1 : wrap64 ((pre.length : Int) + 1) = ((pre ++ [k]).length : Int) := by have := gW.out; rw [List.length_append, List.length_singleton]; unfold wrap64; omega
     have HW1 := ae.mk hw1
     have fF := ae.mk hgg
     have HK := ae.mk hk
     have kL := ae.mk (OL.out k hk)
     have EO := ae.mk (show pre.length ≤ 1000000 by have := gW.out; omega)
     have HJ := ae.mk (show pre.length < l.length by omega)
     have uV := ae.mk (show (pre.length : Int) < ((l).length : Int) by omega)
     obtain ⟨g, cap, ev, _⟩ := Kd.xJ S.out.yA (by have := uV.out; omega)
     injection ev with e1 e2 e3
     subst e1
     clear e2 e3 hk hgg hw1
     obtain ⟨ua, uc, S1, hcell⟩ := S.out.Ik (pre.length : Int) (Int.natCast_nonneg _) uV.out
     have hrd : aA (l) (pre.length : Int) = k := (by rw [← HE.out]; exact lu pre k rest)
     rw [hrd] at S1 hcell
     replace S := ae.mk S1
     have x0 : wr.cell? ⟨g, pre.length * 7, none⟩ = some (.int .u8 k.f0) := hcell 0 _ rfl
     have x1 : wr.cell? ⟨g, pre.length * 7 + 1, none⟩ = some (.int .i64 k.f1.f0) := hcell 1 _ rfl
     have x2 : wr.cell? ⟨g, pre.length * 7 + 2, none⟩ = some (.int .i64 k.f1.f1) := hcell 2 _ rfl
     have x3 : wr.cell? ⟨g, pre.length * 7 + 3, none⟩ = some (.int .i64 k.f1.f2) := hcell 3 _ rfl
     have x4 : wr.cell? ⟨g, pre.length * 7 + 4, none⟩ = some (.int .i64 k.f1.f3) := hcell 4 _ rfl
     have x5 : wr.cell? ⟨g, pre.length * 7 + 5, none⟩ = some (.int .i64 k.f2) := hcell 5 _ rfl
     have x6 : wr.cell? ⟨g, pre.length * 7 + 6, none⟩ = some (.slice ua k.f3.length uc) := hcell 6 _ rfl
     clear S1 hcell hrd
     go_wp2_with (first
      | (refine boxS 9 _ 26 S ?_; clear S; intro b9 ahn S; clear x0 x1 x2 x3 x4 x5 x6)
      | (refine gX 26 9 41 #[.int .u8 k.f0, .int .i64 k.f1.f0, .int .i64 k.f1.f1, .int .i64 k.f1.f2, .int .i64 k.f1.f3, .int .i64 k.f2, .slice ua k.f3.length uc] 0 7 S ?_; clear S; intro akJ S; obtain ⟨l9, qx, mY, qy, vX, vY, sW⟩ := St.ed S (.head _))
      | (refine bH (some 45) Try.func86 S (Bc k ax kL.out (S.out.tree _ (.head _))) ?_; clear S; intro akK S; clear l9 qx mY qy vX vY sW)
      | ((with_reducible refine aG (N := 47) rfl ?_); at_builtin; go_loud (refine YH (.tmp 42) (.tmp 46) rfl rfl Try.underlying41 info3 S.out.Yh HI.out (az ax k) rfl (by first | (go_simp; done) | (go_simp; rfl)) (by have := EO.out; simp only [List.length_map]; omega) ?_); intro Ag2 cg2 og2 akL S1 I1; rw [show (pre.map (az ax) ++ [az ax k]).length = (pre ++ [k]).length by simp] at S1 I1 ⊢; replace S := ae.mk S1.Yh; have HI2 := ae.mk I1; clear S1 I1 HI)
      | fail)
     have hw1 := HW1.out
     go_wp2
     go_roundg rest.length
     case measure => exact Nat.lt_of_lt_of_le (Nat.lt_succ_self _) fF.out
     case rel => exact ⟨pre ++ [k], rest, Ag2, cg2, og2, (by simp), (by rw [hw1]), ⟨by rw [List.append_assoc]; exact HE.out⟩, Nat.le_refl _, ⟨by rw [List.map_append]; exact HI2.out⟩, ⟨S.out.dP.dE⟩⟩
def xY.T6 : Bool × List (List Nat × List Nat) := (true, [([], []), ([], []), ([], []), ([0, 1, 2], [0, 1, 2]), ([], []), ([4], [4]), ([5], [5]), ([], []), ([7], [7]), ([8], [8]), ([3, 6, 9, 3], [3, 6, 9]), ([10, 10, 0, 1, 2, 3, 4, 5, 6, 7, 8, 9, 10], [10]), ([11, 0, 1, 2, 3, 4, 5, 6, 7, 8, 9, 10, 11], [])])
def xY.B6 : List Nat := [0, 0, 0, 7, 0, 16, 48, 0, 128, 384, 1023, 2047, 4095]
theorem xY.tab6 : g_ .any (opsOf Try.f183 6) = xY.T6 := by kernel_rfl
theorem xY.Gz : iO xY.T6.2 xY.B6 = true := by kernel_rfl
theorem SC (ax : Int) (c : ai) (hz : sz c ≤ 1048576) (bu : Int) (P : Nat → Prop) (A : Option Addr) (cc : Nat) (w : World) (hv : Kd.V k26 26 w w.heap.size P (.slice A c.f3.length cc) c.f3) :
  Calls Try.prog 183 #[.agg #[.int .u8 c.f0, .int .i64 c.f1.f0, .int .i64 c.f1.f1, .int .i64 c.f1.f2, .int .i64 c.f1.f3, .int .i64 c.f2, .slice A c.f3.length cc], .int .u8 ax, .int .i64 bu] w (ae2 w P (aZ ax c bu) (aN ax c bu)) := by
 have S := ae.mk (St.start (ts := [(.slice A c.f3.length cc, c.f3)]) (b0 := w.heap.size) (w := w) (P := P) (fun t ht => by rw [List.mem_singleton.1 ht]; exact hv))
 have HZ := ae.mk hz
 obtain ⟨ck, ⟨cx, cy, cw, ch⟩, aU, l⟩ := c
 simp only [] at S
 clear hv hz
 cases ht : di ⟨ck, ⟨cx, cy, cw, ch⟩, aU, l⟩ with
 | false =>
  have HB := ae.mk (show yl ax ⟨ck, ⟨cx, cy, cw, ch⟩, aU, l⟩ = true by unfold yl; rw [ht]; rfl)
  go_enter Try.func183, Try.ntmps183
  go_wp2_with (first | (refine boxS 3 _ 26 S ?_; clear S; intro b3 dF S) | (refine boxS 6 _ 26 S ?_; clear S; intro b6 dV S; obtain ⟨a_, aW, aY, aX, bM, bP, bC⟩ := St.ed S bI) | ((with_reducible refine aG (N := 10) rfl ?_); refine tH (N := 10) rfl rfl ⟨ck, ⟨cx, cy, cw, ch⟩, aU, l⟩ S.out (S.out.tree _ (.head _)) ?hr ?_; (case hr => (go_simp; rfl)); intro Vg VL fV S1 h1 h2; replace S := ae.mk S1; have rO := ae.mk h1; have vI := ae.mk h2; clear S1 h1 h2; clear a_ aW aY aX bM bP bC) | (refine bH (some 11) Try.func148 S (tN ⟨ck, ⟨cx, cy, cw, ch⟩, aU, l⟩ HZ.out vI.out rO.out) ?_; clear S; intro iQ S) | (refine gX 26 6 21 #[.int .u8 0, .int .i64 0, .int .i64 0, .int .i64 0, .int .i64 0, .int .i64 0, .slice none 0 0] 0 7 S ?_; clear S; intro mO S))
  refine bodyPost_ret (fB rfl _ _ b6 26 _ (0, 0) _ rfl (S.out.blk _ (.head _) _ rfl) Try.underlying26 rfl (by kernel_rfl)) rfl ?_
  rw [show aN ax ⟨ck, ⟨cx, cy, cw, ch⟩, aU, l⟩ bu = 1 by unfold aN; rw [if_pos HB.out], show aZ ax ⟨ck, ⟨cx, cy, cw, ch⟩, aU, l⟩ bu = z26 by unfold aZ; rw [if_pos HB.out]]
  exact ⟨_, _, rfl, Kd.yK _ _ _ _ _, S.out.below⟩
 | true =>
  have HT := ae.mk ht
  by_cases hax : ax = 1 ∨ ax = 2
  ·have HB := ae.mk (show yl ax ⟨ck, ⟨cx, cy, cw, ch⟩, aU, l⟩ = false by unfold yl; rw [ht]; rcases hax with rfl | rfl <;> rfl)
   have mG := ae.mk hax
   clear ht hax
   go_enter Try.func183, Try.ntmps183
   go_upto_region 1 with (first | (refine boxS 3 _ 26 S ?_; clear S; intro b3 dF S) | (refine boxS 6 _ 26 S ?_; clear S; intro b6 dV S))
   (skip)
   go_cut [20] (fun v20 wc => v20 = .bool false ∧ ae (St w P [(some b6, .cells #[.int .u8 0, .int .i64 0, .int .i64 0, .int .i64 0, .int .i64 0, .int .i64 0, .slice none 0 0] 26 (0, 0)), (some b3, .cells #[.int .u8 ck, .int .i64 cx, .int .i64 cy, .int .i64 cw, .int .i64 ch, .int .i64 aU, .slice A l.length cc] 26 (0, 0))] [] [(.slice A l.length cc, l)] [] wc))
   case first =>
    by_cases h1 : ax = 1
    ·skip
     have h1b : (ax != 1) = false := by rw [h1]; rfl
     clear h1
     obtain ⟨a_, aW, aY, aX, bM, bP, bC⟩ := St.ed S bI
     go_wp2_with (first | ((with_reducible refine aG (N := 10) rfl ?_); refine tH (N := 10) rfl rfl ⟨ck, ⟨cx, cy, cw, ch⟩, aU, l⟩ S.out (S.out.tree _ (.head _)) ?hr ?_; (case hr => (go_simp; rfl)); intro Vg VL dF S1 h1 h2; replace S := ae.mk S1; have rO := ae.mk h1; have vI := ae.mk h2; clear S1 h1 h2; clear a_ aW aY aX bM bP bC) | (refine bH (some 11) Try.func148 S (nH HT.out (tN ⟨ck, ⟨cx, cy, cw, ch⟩, aU, l⟩ HZ.out vI.out rO.out)) ?_; clear S; intro dV S))
     go_meet
     case rel => exact ⟨by rfl, S⟩
    ·skip
     have h1b : (ax != 1) = true := bne_iff_ne.mpr h1
     have h2b : (ax != 2) = false := by rw [mG.out.resolve_left h1]; rfl
     clear h1
     obtain ⟨a_, aW, aY, aX, bM, bP, bC⟩ := St.ed S bI
     go_wp2_with (first | ((with_reducible refine aG (N := 10) rfl ?_); refine tH (N := 10) rfl rfl ⟨ck, ⟨cx, cy, cw, ch⟩, aU, l⟩ S.out (S.out.tree _ (.head _)) ?hr ?_; (case hr => (go_simp; rfl)); intro Vg VL dF S1 h1 h2; replace S := ae.mk S1; have rO := ae.mk h1; have vI := ae.mk h2; clear S1 h1 h2; clear a_ aW aY aX bM bP bC) | (refine bH (some 11) Try.func148 S (nH HT.out (tN ⟨ck, ⟨cx, cy, cw, ch⟩, aU, l⟩ HZ.out vI.out rO.out)) ?_; clear S; intro dV S))
     go_meet
     case rel => exact ⟨by rfl, S⟩
   case rest =>
    clear S
    obtain ⟨rfl, S⟩ := hcut
    rename World => wx
    have aW := (S.out.at bI 1).trans rfl
    have aX := (S.out.at bI 3).trans rfl
    have aY := (S.out.at bI 2).trans rfl
    have bM := (S.out.at bI 4).trans rfl
    go_upto_region 4 with ((refine bH (some 38) Try.func98 S (aen ⟨0, 0, wrap64 (cx + cw), wrap64 (cy + ch)⟩ ax) ?_; clear S; intro dF S; clear aW aX aY bM))
    (skip)
    by_cases h4 : bu < wrap64 (-(az ax ⟨ck, ⟨cx, cy, cw, ch⟩, aU, l⟩))
    ·have GX : decide (bu < wrap64 (-(az ax ⟨ck, ⟨cx, cy, cw, ch⟩, aU, l⟩))) = true := decide_eq_true h4
     have HO := ae.mk (show yt ax ⟨ck, ⟨cx, cy, cw, ch⟩, aU, l⟩ bu = true by unfold yt; rw [GX]; rfl)
     clear h4
     obtain ⟨a_, aW, aY, aX, bM, bP, bC⟩ := St.ed S bI
     go_wp2_with (first | (refine bH (some 42) Try.func86 S (Bc ⟨ck, ⟨cx, cy, cw, ch⟩, aU, l⟩ ax HZ.out (S.out.tree _ (.head _))) ?_; clear S; intro dF S; clear a_ aW aY aX bM bP bC) | (refine gX 26 6 51 #[.int .u8 0, .int .i64 0, .int .i64 0, .int .i64 0, .int .i64 0, .int .i64 0, .slice none 0 0] 0 7 S ?_; clear S; intro dV S))
     refine bodyPost_ret (fB rfl _ _ b6 26 _ (0, 0) _ rfl (S.out.blk _ (.head _) _ rfl) Try.underlying26 rfl (by kernel_rfl)) rfl ?_
     rw [show aN ax ⟨ck, ⟨cx, cy, cw, ch⟩, aU, l⟩ bu = 7 by unfold aN; rw [if_neg (by rw [HB.out]; simp), if_pos HO.out], show aZ ax ⟨ck, ⟨cx, cy, cw, ch⟩, aU, l⟩ bu = z26 by unfold aZ; rw [if_neg (by rw [HB.out]; simp), if_pos HO.out]]
     exact ⟨_, _, rfl, Kd.yK _ _ _ _ _, S.out.below⟩
    ·have GX : decide (bu < wrap64 (-(az ax ⟨ck, ⟨cx, cy, cw, ch⟩, aU, l⟩))) = false := decide_eq_false h4
     by_cases h5 : bu > wrap64 (10000 - (aV ax ⟨0, 0, wrap64 (cx + cw), wrap64 (cy + ch)⟩))
     ·have MZ : decide (bu > wrap64 (10000 - (aV ax ⟨0, 0, wrap64 (cx + cw), wrap64 (cy + ch)⟩))) = true := decide_eq_true h5
      have Tn : decide (wrap64 (10000 - (aV ax ⟨0, 0, wrap64 (cx + cw), wrap64 (cy + ch)⟩)) < bu) = true := decide_eq_true h5
      have HO := ae.mk (show yt ax ⟨ck, ⟨cx, cy, cw, ch⟩, aU, l⟩ bu = true by unfold yt; rw [GX]; exact MZ)
      clear h4 h5
      obtain ⟨a_, aW, aY, aX, bM, bP, bC⟩ := St.ed S bI
      go_wp2_with (first | (refine bH (some 42) Try.func86 S (Bc ⟨ck, ⟨cx, cy, cw, ch⟩, aU, l⟩ ax HZ.out (S.out.tree _ (.head _))) ?_; clear S; intro dF S; clear a_ aW aY aX bM bP bC) | (refine gX 26 6 51 #[.int .u8 0, .int .i64 0, .int .i64 0, .int .i64 0, .int .i64 0, .int .i64 0, .slice none 0 0] 0 7 S ?_; clear S; intro dV S))
      refine bodyPost_ret (fB rfl _ _ b6 26 _ (0, 0) _ rfl (S.out.blk _ (.head _) _ rfl) Try.underlying26 rfl (by kernel_rfl)) rfl ?_
      rw [show aN ax ⟨ck, ⟨cx, cy, cw, ch⟩, aU, l⟩ bu = 7 by unfold aN; rw [if_neg (by rw [HB.out]; simp), if_pos HO.out], show aZ ax ⟨ck, ⟨cx, cy, cw, ch⟩, aU, l⟩ bu = z26 by unfold aZ; rw [if_neg (by rw [HB.out]; simp), if_pos HO.out]]
      exact ⟨_, _, rfl, Kd.yK _ _ _ _ _, S.out.below⟩
     ·have MZ : decide (bu > wrap64 (10000 - (aV ax ⟨0, 0, wrap64 (cx + cw), wrap64 (cy + ch)⟩))) = false := decide_eq_false h5
      have Tn : decide (wrap64 (10000 - (aV ax ⟨0, 0, wrap64 (cx + cw), wrap64 (cy + ch)⟩)) < bu) = false := decide_eq_false h5
      have HO := ae.mk (show yt ax ⟨ck, ⟨cx, cy, cw, ch⟩, aU, l⟩ bu = false by unfold yt; rw [GX]; exact MZ)
      have hf := agL HB.out HO.out
      have HZ2 := ae.mk (show sz ⟨ck, ⟨cx, cy, cw, ch⟩, aU, l⟩ ≤ 100000 by omega)
      have HZ3 := ae.mk (show sz (fE ax ⟨ck, ⟨cx, cy, cw, ch⟩, aU, l⟩ bu) ≤ 1000000 by rw [(ab_ ax _).1 _ (Nat.le_refl _)]; omega)
      have HBY := ae.mk (show -2147483647 ≤ bu ∧ bu ≤ 2147483647 by omega)
      clear hf h4 h5
      obtain ⟨a_, aW, aY, aX, bM, bP, bC⟩ := St.ed S bI
      go_wp2_with ((refine bH (some 42) Try.func86 S (Bc ⟨ck, ⟨cx, cy, cw, ch⟩, aU, l⟩ ax HZ.out (S.out.tree _ (.head _))) ?_; clear S; intro dF S; clear a_ aW aY aX bM bP bC))
      refine iU (n := 13) (S := fun w' => St w _ _ _ _ _ w') (ds := [11]) (bA 13 0) (by kernel_rfl) rfl rfl (S.out.call (bJ (Below.refl _ _))) (fun hHeld => ?_); refine eU xY.tab6 xY.Gz (fun aj dY => ?_)
      replace S := ae.mk (S.out.call (bJ (Below.refl _ _)))
      generalize dF.drew = wd2 at S hHeld ⊢
      refine dN 0 52 (bA 13 1) aj dY hHeld ?_ (hv := by intro w' hs_; have a_ := (hs_.at bI 0).trans rfl; have aW := (hs_.at bI 1).trans rfl; have aY := (hs_.at bI 2).trans rfl; have aX := (hs_.at bI 3).trans rfl; have bM := (hs_.at bI 4).trans rfl; have bP := (hs_.at bI 5).trans rfl; have bC := (hs_.at bI 6).trans rfl; go_simp; with_reducible rfl)
      refine ay 1 53 (bA 13 3) aj ?_
      refine ay 2 54 (bA 13 7) aj ?_
      refine ay 4 56 (bA 13 23) aj ?_
      refine ay 5 57 (bA 13 55) aj ?_
      refine dN 6 58 (bA 13 119) aj dY hHeld ?_ (hv := by intro w' hs_; have aW := (hs_.at bI 1).trans rfl; go_simp; with_reducible rfl)
      refine ay 7 59 (bA 13 247) aj ?_
      refine ay 8 60 (bA 13 503) aj ?_
      refine dN 9 61 (bA 13 1015) aj dY hHeld ?_ (hv := by intro w' hs_; have aY := (hs_.at bI 2).trans rfl; go_simp; with_reducible rfl)
      refine jH 3 (some 55) (bA 13 1023) aj (fun K hK => ?_)
      refine jD Try.func199 (by kernel_rfl) rfl #[.agg #[.int .u8 ck, .int .i64 cx, .int .i64 cy, .int .i64 cw, .int .i64 ch, .int .i64 aU, .slice A l.length cc], .int .u8 ax, .int .i64 bu] (by rfl) rfl rfl (by (try simp only [List.map_toArray, List.map_cons, List.map_nil]); rfl) ?_
      refine (ab8 ax 100000 ⟨ck, ⟨cx, cy, cw, ch⟩, aU, l⟩ HZ2.out (Nat.le_refl _) bu HBY.out _ A cc _ (fK (S.out.tree _ (.head _)))).mono ?_
      rintro e fV ⟨A55, agR, rfl, h1, hb⟩
      refine ⟨_, rfl, ?_⟩
      replace S := ae.mk (S.out.res (Kd.qL (base' := 0) h1) hb)
      clear h1 hb
      refine hK.out _ _ S.out.dE (fun hHeld => ?_)
      clear hK K
      refine d_ 55 ?_
      refine jH 10 (some 62) (bA 13 2047) aj (fun K hK => ?_)
      refine jD Try.func66 (by kernel_rfl) rfl #[.agg #[.int .u8 ((fE ax ⟨ck, ⟨cx, cy, cw, ch⟩, aU, l⟩ bu).f0), .int .i64 ((fE ax ⟨ck, ⟨cx, cy, cw, ch⟩, aU, l⟩ bu).f1.f0), .int .i64 ((fE ax ⟨ck, ⟨cx, cy, cw, ch⟩, aU, l⟩ bu).f1.f1), .int .i64 ((fE ax ⟨ck, ⟨cx, cy, cw, ch⟩, aU, l⟩ bu).f1.f2), .int .i64 ((fE ax ⟨ck, ⟨cx, cy, cw, ch⟩, aU, l⟩ bu).f1.f3), .int .i64 ((fE ax ⟨ck, ⟨cx, cy, cw, ch⟩, aU, l⟩ bu).f2), .slice A55 ((fE ax ⟨ck, ⟨cx, cy, cw, ch⟩, aU, l⟩ bu).f3.length) agR], .int .i64 cx, .int .i64 cy] (by rfl) rfl rfl (by (try simp only [List.map_toArray, List.map_cons, List.map_nil]); rfl) ?_
      refine (Ku (fE ax ⟨ck, ⟨cx, cy, cw, ch⟩, aU, l⟩ bu) cx cy HZ3.out (S.out.tree _ (.head _))).mono ?_
      rintro e iQ ⟨A62, VH, rfl, h1, hb⟩
      refine ⟨_, rfl, ?_⟩
      replace S := ae.mk (S.out.yC h1 hb)
      clear h1 hb
      refine hK.out _ _ S.out.free.dE.dE (fun hHeld => ?_)
      clear hK K
      refine d_ 62 ?_
      refine oP 11 none (bA 13 4095) aj (fun K hK => ?_)
      refine oD 0 rfl 26 (.tmp 6) (.tmp 62) rfl #[.int .u8 ((dA (fE ax ⟨ck, ⟨cx, cy, cw, ch⟩, aU, l⟩ bu) cx cy).f0), .int .i64 ((dA (fE ax ⟨ck, ⟨cx, cy, cw, ch⟩, aU, l⟩ bu) cx cy).f1.f0), .int .i64 ((dA (fE ax ⟨ck, ⟨cx, cy, cw, ch⟩, aU, l⟩ bu) cx cy).f1.f1), .int .i64 ((dA (fE ax ⟨ck, ⟨cx, cy, cw, ch⟩, aU, l⟩ bu) cx cy).f1.f2), .int .i64 ((dA (fE ax ⟨ck, ⟨cx, cy, cw, ch⟩, aU, l⟩ bu) cx cy).f1.f3), .int .i64 ((dA (fE ax ⟨ck, ⟨cx, cy, cw, ch⟩, aU, l⟩ bu) cx cy).f2), .slice A62 ((dA (fE ax ⟨ck, ⟨cx, cy, cw, ch⟩, aU, l⟩ bu) cx cy).f3.length) VH] (j := 0) (u := .agg #[.int .u8 ((dA (fE ax ⟨ck, ⟨cx, cy, cw, ch⟩, aU, l⟩ bu) cx cy).f0), .int .i64 ((dA (fE ax ⟨ck, ⟨cx, cy, cw, ch⟩, aU, l⟩ bu) cx cy).f1.f0), .int .i64 ((dA (fE ax ⟨ck, ⟨cx, cy, cw, ch⟩, aU, l⟩ bu) cx cy).f1.f1), .int .i64 ((dA (fE ax ⟨ck, ⟨cx, cy, cw, ch⟩, aU, l⟩ bu) cx cy).f1.f2), .int .i64 ((dA (fE ax ⟨ck, ⟨cx, cy, cw, ch⟩, aU, l⟩ bu) cx cy).f1.f3), .int .i64 ((dA (fE ax ⟨ck, ⟨cx, cy, cw, ch⟩, aU, l⟩ bu) cx cy).f2), .slice A62 ((dA (fE ax ⟨ck, ⟨cx, cy, cw, ch⟩, aU, l⟩ bu) cx cy).f3.length) VH]) (bK := [.int .u8 ((dA (fE ax ⟨ck, ⟨cx, cy, cw, ch⟩, aU, l⟩ bu) cx cy).f0), .int .i64 ((dA (fE ax ⟨ck, ⟨cx, cy, cw, ch⟩, aU, l⟩ bu) cx cy).f1.f0), .int .i64 ((dA (fE ax ⟨ck, ⟨cx, cy, cw, ch⟩, aU, l⟩ bu) cx cy).f1.f1), .int .i64 ((dA (fE ax ⟨ck, ⟨cx, cy, cw, ch⟩, aU, l⟩ bu) cx cy).f1.f2), .int .i64 ((dA (fE ax ⟨ck, ⟨cx, cy, cw, ch⟩, aU, l⟩ bu) cx cy).f1.f3), .int .i64 ((dA (fE ax ⟨ck, ⟨cx, cy, cw, ch⟩, aU, l⟩ bu) cx cy).f2), .slice A62 ((dA (fE ax ⟨ck, ⟨cx, cy, cw, ch⟩, aU, l⟩ bu) cx cy).f3.length) VH]) S.out (by rfl) rfl rfl rfl rfl (by kernel_rfl) (by simp [Value.oneCell']) (by simp) rfl ?_
      intro mO S1
      simp only [List.set_cons_zero, List.set_cons_succ] at S1
      replace S := ae.mk S1
      clear S1
      refine hK.out _ _ ?_
      clear hK K
      refine ay 12 7 (bA 13 8191) aj ?_
      refine jJ (gK aj.out (by kernel_rfl)) ?_
      clear hHeld
      go_wp2
      refine bodyPost_ret (fB rfl _ _ b6 26 _ (0, 0) _ rfl (S.out.blk _ (.head _) _ rfl) Try.underlying26 rfl (by kernel_rfl)) rfl ?_
      rw [show aN ax ⟨ck, ⟨cx, cy, cw, ch⟩, aU, l⟩ bu = 0 by unfold aN; rw [if_neg (by rw [HB.out]; simp), if_neg (by rw [HO.out]; simp)], show aZ ax ⟨ck, ⟨cx, cy, cw, ch⟩, aU, l⟩ bu = dA (fE ax ⟨ck, ⟨cx, cy, cw, ch⟩, aU, l⟩ bu) cx cy by unfold aZ; rw [if_neg (by rw [HB.out]; simp), if_neg (by rw [HO.out]; simp)]]
      exact ⟨_, _, rfl, S.out.yA, S.out.below⟩
  ·have h1b : (ax != 1) = true := bne_iff_ne.mpr (fun h => hax (.inl h))
   have h2b : (ax != 2) = true := bne_iff_ne.mpr (fun h => hax (.inr h))
   have HB := ae.mk (show yl ax ⟨ck, ⟨cx, cy, cw, ch⟩, aU, l⟩ = true by unfold yl; rw [ht, h1b, h2b]; rfl)
   clear hax
   go_enter Try.func183, Try.ntmps183
   go_wp2_with (first | (refine boxS 3 _ 26 S ?_; clear S; intro b3 dF S) | (refine boxS 6 _ 26 S ?_; clear S; intro b6 dV S; obtain ⟨a_, aW, aY, aX, bM, bP, bC⟩ := St.ed S bI) | ((with_reducible refine aG (N := 10) rfl ?_); refine tH (N := 10) rfl rfl ⟨ck, ⟨cx, cy, cw, ch⟩, aU, l⟩ S.out (S.out.tree _ (.head _)) ?hr ?_; (case hr => (go_simp; rfl)); intro Vg VL fV S1 h1 h2; replace S := ae.mk S1; have rO := ae.mk h1; have vI := ae.mk h2; clear S1 h1 h2; clear a_ aW aY aX bM bP bC) | (refine bH (some 11) Try.func148 S (tN ⟨ck, ⟨cx, cy, cw, ch⟩, aU, l⟩ HZ.out vI.out rO.out) ?_; clear S; intro iQ S) | (refine gX 26 6 21 #[.int .u8 0, .int .i64 0, .int .i64 0, .int .i64 0, .int .i64 0, .int .i64 0, .slice none 0 0] 0 7 S ?_; clear S; intro mO S))
   refine bodyPost_ret (fB rfl _ _ b6 26 _ (0, 0) _ rfl (S.out.blk _ (.head _) _ rfl) Try.underlying26 rfl (by kernel_rfl)) rfl ?_
   rw [show aN ax ⟨ck, ⟨cx, cy, cw, ch⟩, aU, l⟩ bu = 1 by unfold aN; rw [if_pos HB.out], show aZ ax ⟨ck, ⟨cx, cy, cw, ch⟩, aU, l⟩ bu = z26 by unfold aZ; rw [if_pos HB.out]]
   exact ⟨_, _, rfl, Kd.yK _ _ _ _ _, S.out.below⟩
end Go.Proofs.Ytfdmfgaiblfbhaa.P
namespace Go.Proofs.Ytfdmfgaiblfbhaa.P
open Go.RowKit Go.Proofs.ag.aK Go.Proofs.ag.bG Go.Proofs.ag.bV
attribute [local go_sem] jm jB jR kF jO jP kT kV
def Eb.f (k : Nat) (a0 : Int) (a1 : Int) : Option (List Int × Bool) := if a1 < 1 then (some (([] : List Int), false)) else (if a1 > 20000 then (some (([] : List Int), false)) else (if a0 < (wrap64 ((wrap64 (2 * a1)) - 1)) then (some (([] : List Int), false)) else (if a0 > 2147483647 then (some (([] : List Int), false)) else (if 0 ≤ a1 then (if (a1 : Int).toNat ≤ 35184372088832 then ((bF.f k (wrap64 ((wrap64 (a0 - a1)) + 1)) (List.replicate (a1 : Int).toNat 0)).bind fun ae_ => (some (ae_.1, true))) else (none)) else (none)))))
def Ye.f (k : Nat)  : Option (Bool) := (Eb.f k 80 3).bind fun XQ => ((Eb.f k 8 3).bind fun XR => (if XQ.2 = true then (if XR.2 = true then ((lV.f k XQ.1 (([26, 26, 26] : List Int))).bind fun ahh => (if ahh = true then ((lV.f k XR.1 (([2, 2, 2] : List Int))).bind fun ahi => (some ahi)) else (some false))) else (some false)) else (some false)))
mutual
def jv.j0 : Nat → Int → Int → List Int → Bool → Option (List Int × Bool)
 | 0, _, _, _, _ => none
 | k + 1, x0, x1, x6, x27 => if x27 = true then (some (x6, false)) else (if x1 = 0 then (none) else (jv.l0 k x1 x6 (wrap64 (Int.tdiv (wrap64 (x0 - (wrap64 (x1 - 1)))) x1)) (Int.tmod (wrap64 (x0 - (wrap64 (x1 - 1)))) x1) 0))
def jv.l0 : Nat → Int → List Int → Int → Int → Int → Option (List Int × Bool)
 | 0, _, _, _, _, _ => none
 | k + 1, x1, x6, x7, x8, x9 => if x9 < x1 then (if x9 < x8 then (if x6.length < 17592186044416 then (jv.l0 k x1 (x6 ++ [wrap64 (x7 + 1)]) x7 x8 (wrap64 (x9 + 1))) else (none)) else (if x6.length < 17592186044416 then (jv.l0 k x1 (x6 ++ [x7]) x7 x8 (wrap64 (x9 + 1))) else (none))) else (some (x6, true))
end
def jv.f (k : Nat) (a0 : Int) (a1 : Int) : Option (List Int × Bool) := (some (([] : List Int) : List Int)).bind fun Ru => (if a1 < 1 then (jv.j0 k a0 a1 Ru true) else (if a1 > 20000 then (jv.j0 k a0 a1 Ru true) else (if a0 < (wrap64 ((wrap64 (2 * a1)) - 1)) then (jv.j0 k a0 a1 Ru true) else (jv.j0 k a0 a1 Ru (decide (a0 > 2147483647))))))
end Go.Proofs.Ytfdmfgaiblfbhaa.P
namespace Go.Proofs.Ytfdmfgaiblfbhaa.Pure
open Go.RowKit Go.Proofs.Ytfdmfgaiblfbhaa.P Go.Proofs.ag.aK Go.Proofs.ag.bG Go.Proofs.ag.bV
def Can (s n : Int) : Prop := 1 ≤ n ∧ n ≤ 20000 ∧ 2 * n - 1 ≤ s ∧ s ≤ 2147483647
end Go.Proofs.Ytfdmfgaiblfbhaa.Pure
namespace Go.Proofs.Ytfdmfgaiblfbhaa.P
open Go.RowKit Go.Proofs.ag.aK Go.Proofs.ag.bG Go.Proofs.ag.bV
theorem ael : ∀ (N : Nat), (∀ c : ai, sz c ≤ N → ∀ x y, sz (dA c x y) = sz c) ∧ (∀ l : List ai, dI l ≤ N → ∀ a x y, dI (jo a l x y) = dI l) := by
 intro N
 induction N with
 | zero => exact ⟨fun c h => by rw [cO] at h; omega, fun l h a x y => by cases l with
  | nil => rw [lW]
  | cons k ks => rw [bY] at h; have := cO k; omega⟩
 | succ N ih =>
  have hC : ∀ c : ai, sz c ≤ N + 1 → ∀ x y, sz (dA c x y) = sz c := fun c h x y => by
   rw [lD, cO, cO c]
   show 1 + dI (jo c.f0 c.f3 x y) = _
   rw [ih.2 c.f3 (by rw [cO] at h; omega)]
  refine ⟨hC, fun l => ?_⟩
  induction l with
  | nil => intro _ a x y; rw [lW]
  | cons k ks ihl =>
   intro h a x y
   rw [nC, bY, bY]
   rw [bY] at h
   rw [hC k (by omega), ihl (by omega)]
section
variable {W : World} {b : Nat} {P : Nat → Prop} {A : Option Addr} {cc : Nat}
end
theorem xq {W W1 : World} {Q : Nat → Value → Prop} {ad : Nat → Addr} (h : ∀ (j : Nat) (u : Value), Q j u → W.cell? (ad j) = some u) (hb : Below W.heap.size W W1) : ∀ (j : Nat) (u : Value), Q j u → W1.cell? (ad j) = some u :=
 fun j u hq => (hb.cell (World.block_lt_of_cell? W _ (h j u hq))).trans (h j u hq)
def xZ.T0 : Bool × List (List Nat × List Nat) := (true, [([], []), ([0], [0]), ([1], [1]), ([2], [2]), ([3], [3]), ([], []), ([], []), ([6], [6]), ([7], [7]), ([8], [8]), ([9], [9]), ([], []), ([10, 11], [10, 11]), ([12], [12]), ([13], [13]), ([], []), ([15], [15]), ([16], [16]), ([17], [17]), ([], []), ([14, 18, 19, 14], [14, 18, 19]), ([20], [20]), ([21], [21]), ([21], [21]), ([4, 5, 0, 1, 2, 3, 4, 5, 6, 7, 8, 9, 10, 11, 12, 13, 14, 15, 16, 17, 18, 19, 20, 21, 22], [4, 5]), ([24, 22, 20, 0, 1, 2, 3, 4, 5, 6, 7, 8, 9, 10, 11, 12, 13, 14, 15, 16, 17, 18, 19, 20, 21, 22], [22, 24])])
def xZ.B0 : List Nat := [0, 1, 3, 7, 15, 0, 0, 64, 192, 448, 960, 0, 4032, 8128, 16320, 0, 32768, 98304, 229376, 0, 1048512, 2097088, 4194240, 4194240, 8388607, 25165823]
theorem xZ.ahl : g_ .any (opsOf Try.f186 0) = xZ.T0 := by kernel_rfl
theorem xZ.ae9 : iO xZ.T0.2 xZ.B0 = true := by kernel_rfl
theorem xK {w W : World} {P : Nat → Prop} {bs : List (Option Nat × Obj)} {ts : List (Value × List ai)} {ro : List (Addr × Value)} {g gr cap : Nat} {fk fx fy fw fh zV ax : Int} {VP : Value} {q : Nat} {L : List ai} (i : Nat) (n : Int) (hi : i < L.length) (hz : dI L ≤ 1000000)
  (S0 : St w P ((some g, .cells #[.int .u8 fk, .int .i64 fx, .int .i64 fy, .int .i64 fw, .int .i64 fh, .int .i64 zV, .slice (some ⟨gr, 0, none⟩) L.length cap, VP, .int .i64 (q : Int), .int .u8 ax] 147 (0, 0)) :: bs) [(.slice (some ⟨gr, 0, none⟩) L.length cap, L)] (ts) (ro) W) :
  Calls Try.prog 186 #[.pointer (some ⟨g, 0, none⟩), .int .i64 (i : Int), .int .i64 n] W fun e w' => e = .returned (.tuple #[]) ∧ St w P ((some g, .cells #[.int .u8 fk, .int .i64 fx, .int .i64 fy, .int .i64 fw, .int .i64 fh, .int .i64 zV, .slice (some ⟨gr, 0, none⟩) L.length cap, VP, .int .i64 (q : Int), .int .u8 ax] 147 (0, 0)) :: bs) [(.slice (some ⟨gr, 0, none⟩) L.length cap, (dK ax i n L))] (ts) (ro) w' := by
 have S := ae.mk S0
 clear S0
 have hi1 : (i : Int) < (L.length : Int) := by omega
 have HI1 := ae.mk hi1
 obtain ⟨ua, uc, S1, hcell⟩ := S.out.Ik (i : Int) (Int.natCast_nonneg _) hi1
 rw [Kt] at S1 hcell
 simp only [Int.toNat_natCast] at hcell
 have kL := ae.mk (show sz (kd L i) ≤ 1000000 by have := uI (lL hi); omega)
 have OL := ae.mk (show sz (dA (kd L i) 0 0) ≤ 1048576 by rw [(ael (sz (kd L i))).1 _ (Nat.le_refl _)]; have := kL.out; omega)
 unfold dK
 generalize kd L i = k at S1 hcell kL OL ⊢
 replace S := ae.mk S1
 have EL := ae.mk hcell
 clear S1 hcell hz hi
 go_enter Try.func186, Try.ntmps186
 go_wp2
 refine iU (n := 26) (S := fun w' => St w _ _ _ _ _ w' ∧ ∀ (j : Nat) (u : Value), (kR k ua uc)[j]? = some u → w'.cell? ⟨gr, i * 7 + j, none⟩ = some u) (ds := [25]) (bA 26 0) (by kernel_rfl) rfl rfl ⟨S.out.call (bJ (Below.refl _ _)), xq EL.out (bJ (Below.refl _ _))⟩ (fun hHeld => ?_); refine eU xZ.ahl xZ.ae9 (fun aj dY => ?_)
 replace S := ae.mk (S.out.call (bJ (Below.refl _ _)))
 replace EL := ae.mk (xq EL.out (bJ (Below.refl _ _)))
 generalize W.drew = CS at S EL hHeld ⊢
 refine ay 0 7 (bA 26 1) aj ?_
 refine ay 1 8 (bA 26 3) aj ?_
 refine ay 2 9 (bA 26 7) aj ?_
 refine ay 3 10 (bA 26 15) aj ?_
 refine dN 4 11 (bA 26 31) aj dY hHeld ?_ (hv := by intro w' hs_; have agT := (hs_.1.at (.head _) 6).trans rfl; go_simp; with_reducible rfl)
 refine ay 5 12 (bA 26 63) aj ?_
 refine ay 6 13 (bA 26 127) aj ?_
 refine ay 7 14 (bA 26 255) aj ?_
 refine ay 8 15 (bA 26 511) aj ?_
 refine ay 9 16 (bA 26 1023) aj ?_
 refine dN 10 17 (bA 26 2047) aj dY hHeld ?_ (hv := by intro w' hs_; have agT := (hs_.1.at (.head _) 6).trans rfl; go_simp; with_reducible rfl)
 refine ay 11 18 (bA 26 4095) aj ?_
 refine ay 12 19 (bA 26 8191) aj ?_
 refine dN 13 20 (bA 26 16383) aj dY hHeld ?_ (hv := by intro w' hs_; have xe0 := (show w'.cell? ⟨gr, i * 7, none⟩ = some (.int .u8 k.f0) from hs_.2 0 _ rfl); have xe1 := (show w'.cell? ⟨gr, i * 7 + 1, none⟩ = some (.int .i64 k.f1.f0) from hs_.2 1 _ rfl); have xe2 := (show w'.cell? ⟨gr, i * 7 + 2, none⟩ = some (.int .i64 k.f1.f1) from hs_.2 2 _ rfl); have xe3 := (show w'.cell? ⟨gr, i * 7 + 3, none⟩ = some (.int .i64 k.f1.f2) from hs_.2 3 _ rfl); have xe4 := (show w'.cell? ⟨gr, i * 7 + 4, none⟩ = some (.int .i64 k.f1.f3) from hs_.2 4 _ rfl); have xe5 := (show w'.cell? ⟨gr, i * 7 + 5, none⟩ = some (.int .i64 k.f2) from hs_.2 5 _ rfl); have xe6 := (show w'.cell? ⟨gr, i * 7 + 6, none⟩ = some (.slice ua k.f3.length uc) from hs_.2 6 _ rfl); go_simp; with_reducible rfl)
 refine ay 15 22 (bA 26 49151) aj ?_
 refine ay 16 23 (bA 26 114687) aj ?_
 refine ay 17 24 (bA 26 245759) aj ?_
 refine dN 18 25 (bA 26 507903) aj dY hHeld ?_ (hv := by intro w' hs_; have akm := (hs_.1.at (.head _) 9).trans rfl; go_simp; with_reducible rfl)
 refine ay 19 26 (bA 26 1032191) aj ?_
 refine jH 14 (some 21) (bA 26 1048575) aj (fun K hK => ?_)
 refine zW Try.func66 #[.agg #[.int .u8 k.f0, .int .i64 k.f1.f0, .int .i64 k.f1.f1, .int .i64 k.f1.f2, .int .i64 k.f1.f3, .int .i64 k.f2, .slice ua k.f3.length uc], .int .i64 0, .int .i64 0] ?_
 refine (Ku k 0 0 kL.out (S.out.tree _ (.head _))).mono ?_
 rintro e dV ⟨A1, c1, rfl, h1, hb⟩
 refine ⟨_, rfl, ?_⟩
 replace EL := ae.mk (xq EL.out hb)
 replace S := ae.mk (S.out.res (Kd.qL (base' := 0) h1) hb)
 clear h1 hb
 refine hK.out _ _ ⟨S.out.dE, EL.out⟩ (fun hHeld => ?_)
 clear hK K
 refine d_ 21 ?_
 refine jH 20 (some 27) (bA 26 2097151) aj (fun K hK => ?_)
 refine zW Try.func183 #[.agg #[.int .u8 ((dA k 0 0).f0), .int .i64 ((dA k 0 0).f1.f0), .int .i64 ((dA k 0 0).f1.f1), .int .i64 ((dA k 0 0).f1.f2), .int .i64 ((dA k 0 0).f1.f3), .int .i64 ((dA k 0 0).f2), .slice A1 ((dA k 0 0).f3.length) c1], .int .u8 ax, .int .i64 n] ?_
 refine (SC ax (dA k 0 0) OL.out n _ _ _ _ (fK (S.out.tree _ (.head _)))).mono ?_
 rintro e fV ⟨A2, c2, rfl, h1, hb⟩
 refine ⟨_, rfl, ?_⟩
 replace EL := ae.mk (xq EL.out hb)
 replace S := ae.mk (S.out.res (Kd.qL (base' := 0) h1) hb)
 clear h1 hb
 refine hK.out _ _ ⟨S.out.dE.dE, EL.out⟩ (fun hHeld => ?_)
 clear hK K
 refine d_ 27 ?_
 refine ay 21 6 (bA 26 4194303) aj ?_
 refine ay 22 28 (bA 26 8388607) aj ?_
 refine ay 23 29 (bA 26 16777215) aj ?_
 refine ay 24 30 (bA 26 33554431) aj ?_
 refine oP 25 none (bA 26 67108863) aj (fun K hK => ?_)
 refine PQ (i : Int) (yu ax n k) (.tmp 30) (.tmp 28) rfl S.out (by rfl) rfl (Int.natCast_nonneg _) HI1.out (by first | rfl | (go_simp; rfl)) rfl (by kernel_rfl) (.head _) ?_
 intro iQ S1
 rw [Int.toNat_natCast] at S1
 replace S := ae.mk S1
 clear S1
 refine hK.out _ _ ?_
 clear hK K
 refine jJ (gK aj.out (by kernel_rfl)) ?_
 clear hHeld
 go_wp2
 (try simp only [Exit.inBlock, Exit.then])
 refine bodyPost_end (results_none rfl _ _ _) rfl ?_
 exact ⟨rfl, S.out.dE.dE.dE⟩
end Go.Proofs.Ytfdmfgaiblfbhaa.P
namespace Go.Proofs.Ytfdmfgaiblfbhaa.P
open Go.RowKit Go.Proofs.ag.aK Go.Proofs.ag.bG Go.Proofs.ag.bV
attribute [local go_sem] jm jR jB kF
def oV (b : Int) : Int := if 0 < b then b else if b < -2147483647 then 2147483647 else -b
theorem Ew {ax : Int} {q : Nat} {m : Bool} {L : List ai} {i : Nat} {args : Array Value} {W : World} (h : jT ax q m L = some i) (hc : Calls Try.prog 185 args W fun e w' => e = .returned (.int .i64 (Wu (jT ax q m L))) ∧ Below W.heap.size W w') : Calls Try.prog 185 args W fun e w' => e = .returned (.int .i64 (i : Int)) ∧ Below W.heap.size W w' := by
 rw [h] at hc
 exact hc
theorem O3 {ax : Int} {q : Nat} {m : Bool} {L : List ai} {args : Array Value} {W : World} (h : jT ax q m L = none) (hc : Calls Try.prog 185 args W fun e w' => e = .returned (.int .i64 (Wu (jT ax q m L))) ∧ Below W.heap.size W w') : Calls Try.prog 185 args W fun e w' => e = .returned (.int .i64 (-1)) ∧ Below W.heap.size W w' := by
 rw [h] at hc
 exact hc
theorem aaC {w W : World} {P : Nat → Prop} {bs : List (Option Nat × Obj)} {ts : List (Value × List ai)} {ro : List (Addr × Value)} {g gr cap : Nat} {fk fx fy fw fh zV ax s : Int} {VP : Value} {q : Nat} {L : List ai} (bu : Int) (hax : ax = 1 ∨ ax = 2) (hg : qw ax s L) (hq : q + 1 < L.length) (hz : dI L ≤ 1000000) (hb : -9223372036854775808 ≤ bu ∧ bu ≤ 9223372036854775807)
  (S0 : St w P ((some g, .cells #[.int .u8 fk, .int .i64 fx, .int .i64 fy, .int .i64 fw, .int .i64 fh, .int .i64 zV, .slice (some ⟨gr, 0, none⟩) L.length cap, VP, .int .i64 (q : Int), .int .u8 ax] 147 (0, 0)) :: bs) [(.slice (some ⟨gr, 0, none⟩) L.length cap, L)] (ts) (ro) W) :
  Calls Try.prog 158 #[.pointer (some ⟨g, 0, none⟩), .int .i64 bu] W fun e w' => e = .returned (.int .i64 (if decide (0 < bu) = true then (gG ax q (decide (0 < bu)) (oV bu) 10001 L 0).2 else -(gG ax q (decide (0 < bu)) (oV bu) 10001 L 0).2)) ∧ St w P ((some g, .cells #[.int .u8 fk, .int .i64 fx, .int .i64 fy, .int .i64 fw, .int .i64 fh, .int .i64 zV, .slice (some ⟨gr, 0, none⟩) (((gG ax q (decide (0 < bu)) (oV bu) 10001 L 0).1).length) cap, VP, .int .i64 (q : Int), .int .u8 ax] 147 (0, 0)) :: bs) [(.slice (some ⟨gr, 0, none⟩) (((gG ax q (decide (0 < bu)) (oV bu) 10001 L 0).1).length) cap, (gG ax q (decide (0 < bu)) (oV bu) 10001 L 0).1)] (ts) (ro) w' := by
 have S := ae.mk S0
 have mG := ae.mk hax
 have RN := ae.mk (show L.length ≤ 1000000 by have := ik L; omega)
 have hgp : 0 ≤ az ax (kd L (place q (decide (0 < bu)))) := by
  have hp : place q (decide (0 < bu)) < L.length := by unfold place; split <;> omega
  have := Pure.iT hax (hg.jQ _ (lL hp))
  omega
 have KH := ae.mk hgp
 have HI0 := ae.mk (rU.start hg (p := place q (decide (0 < bu))) (by unfold place; split <;> omega))
 have HQQ := ae.mk hq
 have HZZ := ae.mk hz
 have Gp := ae.mk hb
 have XD := ae.mk (show wrap64 ((q : Int) + 1) = ((q + 1 : Nat) : Int) by have := RN.out; unfold wrap64; omega)
 clear S0 hgp hax hg hq hz hb
 by_cases hp : 0 < bu
 case pos =>
  rw [decide_eq_true hp] at HI0 KH ⊢
  obtain ⟨R, hR⟩ : ∃ R, R = gG ax q true (oV bu) 10001 L 0 := ⟨_, rfl⟩
  rw [← hR]
  obtain ⟨LF, M_⟩ : ∃ l, l = oV bu := ⟨_, rfl⟩
  rw [← M_] at hR
  have HI0 := ae.mk (show rU ax s q (dI L) L L 0 from HI0.out)
  have KH := ae.mk (show 0 ≤ az ax (kd L q) from KH.out)
  have HR := ae.mk hR.symm
  have KO := ae.mk (show q = place q true from rfl)
  have KJ := ae.mk (show LF = bu by rw [M_]; unfold oV; rw [if_pos hp])
  have HPB := ae.mk hp
  obtain ⟨hba, hbb⟩ := mr (a := 0) (b := bu) (by omega)
  simp only [if_true]
  clear hp hR M_
  go_enter Try.func158, Try.ntmps158
  have VI := (S.out.at (.head _) 8).trans rfl
  go_wp2
  clear VI
  go_loopg [7, 8] 10001 (fun gg v7 v8 wr => ∃ (K : List ai) (d : Int) (f : Nat), v7 = .int .i64 (LF - d) ∧ v8 = .int .i64 d ∧ ae (gG ax q true LF f K d = R) ∧ ae (rU ax s q (dI L) L K d) ∧ ae (10001 ≤ (f : Int) + d) ∧ f ≤ gg ∧ ae (St w P ((some g, .cells #[.int .u8 fk, .int .i64 fx, .int .i64 fy, .int .i64 fw, .int .i64 fh, .int .i64 zV, .slice (some ⟨gr, 0, none⟩) K.length cap, VP, .int .i64 (q : Int), .int .u8 ax] 147 (0, 0)) :: bs) [(.slice (some ⟨gr, 0, none⟩) K.length cap, K)] (ts) (ro) wr))
  case atStart => exact ⟨L, 0, 10001, (by rw [KJ.out, Int.sub_zero]), rfl, HR, HI0, ⟨by omega⟩, Nat.le_refl _, S⟩
  case round =>
   clear S HR HI0
   obtain ⟨K, d, f, rfl, rfl, HR, HI, HF, hgg, S⟩ := hrel
   have HD := ae.mk (HI.out.small mG.out KH.out)
   have HD0 := ae.mk HI.out.d0
   have Gt := ae.mk (show q + 1 < K.length by rw [HI.out.len]; exact HQQ.out)
   have EM := ae.mk (show K.length ≤ 1000000 by rw [HI.out.len]; exact RN.out)
   have kL := ae.mk (show dI K ≤ 1000000 by rw [HI.out.z]; exact HZZ.out)
   by_cases hl : LF ≤ d
   case pos =>
    have HRR := ae.mk ((xA hl).symm.trans HR.out).symm
    obtain ⟨hxa, hxb⟩ := lG (a := 0) (b := LF - d) (by omega)
    have hx2 : ¬ (d < LF) := by omega
    have hx3 : decide (d < LF) = false := decide_eq_false hx2
    clear hl hgg
    go_wp2
    have hrr := HRR.out
    subst hrr
    go_ret
    exact ⟨rfl, S.out⟩
   case neg =>
    have CW := ae.mk (show d < LF by omega)
    have lK := ae.mk hl
    obtain ⟨hxa, hxb⟩ := mr (a := 0) (b := LF - d) (by omega)
    have hx2 : d < LF := CW.out
    have hx3 : decide (d < LF) = true := decide_eq_true hx2
    clear hl
    cases hgv : jT ax q true K with
    | none =>
     have HG := ae.mk hgv
     have HRR := ae.mk ((xy hgv).symm.trans HR.out).symm
     clear hgv hgg
     have h34 : decide ((-1 : Int) < 0) = true := rfl
     go_wp2_with ((refine bH (some 32) Try.func185 S (O3 HG.out (wW true Gt.out EM.out kL.out (S.out.blk _ (.head _) _ rfl) (Kd.qL (base' := 0) (S.out.own _ (.head _))))) ?_; clear S; intro dF S))
     have hrr := HRR.out
     subst hrr
     go_ret
     exact ⟨rfl, S.out⟩
    | some i =>
     have hs := wo hgv Gt.out
     have HG := ae.mk hgv
     have iy := ae.mk hs.1
     have CX := ae.mk (show i ≠ q by rw [KO.out]; exact hs.2.1)
     have KI := ae.mk hs.2.2
     have hg2 := Pure.iT mG.out (HI.out.good.jQ _ (lL hs.1))
     have vJ := ae.mk (show (az ax (kd K i)) ≤ 10000 by omega)
     have fF := ae.mk hgg
     have hf : f ≠ 0 := by have := HF.out; have := HD.out; omega
     obtain ⟨f', rfl⟩ : ∃ f', f = f' + 1 := ⟨f - 1, by omega⟩
     have hstep := (uH lK.out hgv).symm.trans HR.out
     rw [show place q true = q from KO.out.symm] at hstep
     have HST := ae.mk hstep
     have h34 : decide ((i : Int) < 0) = false := decide_eq_false (by omega)
     have ag8 : ¬ ((i : Int) < 0) := by omega
     clear hs hgv hgg hg2 hf hstep
     by_cases hmn : (az ax (kd K i)) < LF - d
     case pos =>
      have hmv : mn (LF - d) (az ax (kd K i)) = (az ax (kd K i)) := by unfold mn; rw [if_pos hmn]
      have Fg := ae.mk (show gG ax q true LF f' (dK ax q (az ax (kd K i)) (dK ax i (-(az ax (kd K i))) K)) (d + (az ax (kd K i))) = R by have h := HST.out; rw [hmv] at h; exact h)
      have mJ := ae.mk (show 0 < (az ax (kd K i)) by have := KI.out; have := CW.out; omega)
      have rP := ae.mk (show (az ax (kd K i)) ≤ (az ax (kd K i)) by omega)
      have KP := ae.mk (HI.out.step mG.out iy.out CX.out (Int.le_of_lt mJ.out) rP.out)
      have Fe := ae.mk (show q < (dK ax i (-(az ax (kd K i))) K).length by rw [show (dK ax i (-(az ax (kd K i))) K).length = K.length from List.length_set]; exact HI.out.Hg)
      have Fb := ae.mk (show dI (dK ax i (-(az ax (kd K i))) K) ≤ 1000000 by rw [(HI.out.good.move mG.out iy.out (n := -(az ax (kd K i))) (by have := rP.out; omega) (by have := HI.out.good.small; have := mJ.out; omega)).2.2.2.2.1]; exact kL.out)
      have hneg : wrap64 (-(az ax (kd K i))) = -(az ax (kd K i)) := by have := vJ.out; have := rP.out; have := mJ.out; unfold wrap64; omega
      have hw7 : wrap64 (LF - d - (az ax (kd K i))) = LF - (d + (az ax (kd K i))) := by have h1 := KJ.out; have h2 := Gp.out; have := rP.out; have := mJ.out; have := HD.out; have := HD0.out; have := CW.out; unfold wrap64; omega
      have hw8 : wrap64 (d + (az ax (kd K i))) = d + (az ax (kd K i)) := by have := vJ.out; have := rP.out; have := mJ.out; have := HD.out; have := HD0.out; unfold wrap64; omega
      have RU := ae.mk hw7
      have KU := ae.mk hw8
      have hm1 : (az ax (kd K i)) < LF - d := hmn
      clear hmv hmn hw7 hw8
      go_wp2_with (first | (refine bH (some 32) Try.func185 S (Ew HG.out (wW true Gt.out EM.out kL.out (S.out.blk _ (.head _) _ rfl) (Kd.qL (base' := 0) (S.out.own _ (.head _))))) ?_; clear S; intro dF S) | (refine bH (some 38) Try.func164 S (jG i iy.out kL.out (S.out.blk _ (.head _) _ rfl) (Kd.qL (base' := 0) (S.out.own _ (.head _)))) ?_; clear S; intro dV S) | (refine iF (some 44) Try.func186 (xK i (wrap64 (-(az ax (kd K i)))) iy.out kL.out S.out) ?_; rintro e fV ⟨rfl, h1⟩; refine ⟨_, rfl, ?_⟩; rw [hneg] at h1; replace S := ae.mk h1; clear h1; rw [show K.length = (dK ax i (-(az ax (kd K i))) K).length from (List.length_set).symm] at S) | (refine iF (some 48) Try.func186 (xK q (az ax (kd K i)) Fe.out Fb.out S.out) ?_; rintro e iQ ⟨rfl, h1⟩; refine ⟨_, rfl, ?_⟩; replace S := ae.mk h1; clear h1; rw [show (dK ax i (-(az ax (kd K i))) K).length = (dK ax q (az ax (kd K i)) (dK ax i (-(az ax (kd K i))) K)).length from (List.length_set).symm] at S))
      go_roundg f'
      case measure => exact Nat.lt_of_lt_of_le (Nat.lt_succ_self _) fF.out
      case rel => exact ⟨_, d + (az ax (kd K i)), f', (by rw [RU.out]), (by rw [KU.out]), Fg, KP, ⟨by have := HF.out; have := mJ.out; omega⟩, Nat.le_refl _, S⟩
     case neg =>
      have hmv : mn (LF - d) (az ax (kd K i)) = (LF - d) := by unfold mn; rw [if_neg hmn]
      have Fg := ae.mk (show gG ax q true LF f' (dK ax q (LF - d) (dK ax i (-(LF - d)) K)) (d + (LF - d)) = R by have h := HST.out; rw [hmv] at h; exact h)
      have mJ := ae.mk (show 0 < (LF - d) by have := KI.out; have := CW.out; omega)
      have rP := ae.mk (show (LF - d) ≤ (az ax (kd K i)) by omega)
      have KP := ae.mk (HI.out.step mG.out iy.out CX.out (Int.le_of_lt mJ.out) rP.out)
      have Fe := ae.mk (show q < (dK ax i (-(LF - d)) K).length by rw [show (dK ax i (-(LF - d)) K).length = K.length from List.length_set]; exact HI.out.Hg)
      have Fb := ae.mk (show dI (dK ax i (-(LF - d)) K) ≤ 1000000 by rw [(HI.out.good.move mG.out iy.out (n := -(LF - d)) (by have := rP.out; omega) (by have := HI.out.good.small; have := mJ.out; omega)).2.2.2.2.1]; exact kL.out)
      have hneg : wrap64 (-(LF - d)) = -(LF - d) := by have := vJ.out; have := rP.out; have := mJ.out; unfold wrap64; omega
      have hw7 : wrap64 (LF - d - (LF - d)) = LF - (d + (LF - d)) := by have h1 := KJ.out; have h2 := Gp.out; have := rP.out; have := mJ.out; have := HD.out; have := HD0.out; have := CW.out; unfold wrap64; omega
      have hw8 : wrap64 (d + (LF - d)) = d + (LF - d) := by have := vJ.out; have := rP.out; have := mJ.out; have := HD.out; have := HD0.out; unfold wrap64; omega
      have RU := ae.mk hw7
      have KU := ae.mk hw8
      have hm1 : ¬ ((az ax (kd K i)) < LF - d) := hmn
      clear hmv hmn hw7 hw8
      go_wp2_with (first | (refine bH (some 32) Try.func185 S (Ew HG.out (wW true Gt.out EM.out kL.out (S.out.blk _ (.head _) _ rfl) (Kd.qL (base' := 0) (S.out.own _ (.head _))))) ?_; clear S; intro dF S) | (refine bH (some 38) Try.func164 S (jG i iy.out kL.out (S.out.blk _ (.head _) _ rfl) (Kd.qL (base' := 0) (S.out.own _ (.head _)))) ?_; clear S; intro dV S) | (refine iF (some 44) Try.func186 (xK i (wrap64 (-(LF - d))) iy.out kL.out S.out) ?_; rintro e fV ⟨rfl, h1⟩; refine ⟨_, rfl, ?_⟩; rw [hneg] at h1; replace S := ae.mk h1; clear h1; rw [show K.length = (dK ax i (-(LF - d)) K).length from (List.length_set).symm] at S) | (refine iF (some 48) Try.func186 (xK q (LF - d) Fe.out Fb.out S.out) ?_; rintro e iQ ⟨rfl, h1⟩; refine ⟨_, rfl, ?_⟩; replace S := ae.mk h1; clear h1; rw [show (dK ax i (-(LF - d)) K).length = (dK ax q (LF - d) (dK ax i (-(LF - d)) K)).length from (List.length_set).symm] at S))
      go_roundg f'
      case measure => exact Nat.lt_of_lt_of_le (Nat.lt_succ_self _) fF.out
      case rel => exact ⟨_, d + (LF - d), f', (by (congr 1; omega)), (by rw [KU.out]), Fg, KP, ⟨by have := HF.out; have := mJ.out; omega⟩, Nat.le_refl _, S⟩
 case neg =>
  rw [decide_eq_false hp] at HI0 KH ⊢
  obtain ⟨R, hR⟩ : ∃ R, R = gG ax q false (oV bu) 10001 L 0 := ⟨_, rfl⟩
  rw [← hR]
  obtain ⟨LF, M_⟩ : ∃ l, l = oV bu := ⟨_, rfl⟩
  rw [← M_] at hR
  obtain ⟨pl, hpl⟩ : ∃ p, p = place q false := ⟨_, rfl⟩
  rw [← hpl] at HI0 KH
  have hq1 : wrap64 ((q : Int) + 1) = (pl : Int) := by rw [XD.out, hpl]; rfl
  have HR := ae.mk hR.symm
  have KO := ae.mk (show pl = place q false from hpl)
  have KJ := ae.mk (show LF = if bu < -2147483647 then 2147483647 else -bu by rw [M_]; unfold oV; rw [if_neg hp])
  have HPB := ae.mk hp
  obtain ⟨hba, hbb⟩ := lG (a := 0) (b := bu) (by omega)
  simp only [Bool.false_eq_true, if_false]
  clear hp hR M_ hpl
  go_enter Try.func158, Try.ntmps158
  have VI := (S.out.at (.head _) 8).trans rfl
  go_wp2
  clear VI
  all_goals
   go_loopg [7, 8] 10001 (fun gg v7 v8 wr => ∃ (K : List ai) (d : Int) (f : Nat), v7 = .int .i64 (LF - d) ∧ v8 = .int .i64 d ∧ ae (gG ax q false LF f K d = R) ∧ ae (rU ax s pl (dI L) L K d) ∧ ae (10001 ≤ (f : Int) + d) ∧ f ≤ gg ∧ ae (St w P ((some g, .cells #[.int .u8 fk, .int .i64 fx, .int .i64 fy, .int .i64 fw, .int .i64 fh, .int .i64 zV, .slice (some ⟨gr, 0, none⟩) K.length cap, VP, .int .i64 (q : Int), .int .u8 ax] 147 (0, 0)) :: bs) [(.slice (some ⟨gr, 0, none⟩) K.length cap, K)] (ts) (ro) wr))
   case atStart => exact ⟨L, 0, 10001, (by have h1 := KJ.out; have h2 := Gp.out; have h3 := HPB.out; congr 1; rw [h1]; unfold wrap64; split <;> omega), rfl, HR, HI0, ⟨by omega⟩, Nat.le_refl _, S⟩
   case round =>
    clear S HR HI0
    obtain ⟨K, d, f, rfl, rfl, HR, HI, HF, hgg, S⟩ := hrel
    have HD := ae.mk (HI.out.small mG.out KH.out)
    have HD0 := ae.mk HI.out.d0
    have Gt := ae.mk (show q + 1 < K.length by rw [HI.out.len]; exact HQQ.out)
    have EM := ae.mk (show K.length ≤ 1000000 by rw [HI.out.len]; exact RN.out)
    have kL := ae.mk (show dI K ≤ 1000000 by rw [HI.out.z]; exact HZZ.out)
    by_cases hl : LF ≤ d
    case pos =>
     have HRR := ae.mk ((xA hl).symm.trans HR.out).symm
     obtain ⟨hxa, hxb⟩ := lG (a := 0) (b := LF - d) (by omega)
     have hx2 : ¬ (d < LF) := by omega
     have hx3 : decide (d < LF) = false := decide_eq_false hx2
     clear hl hgg
     go_wp2
     have hrr := HRR.out
     subst hrr
     go_ret
     rw [show wrap64 (-d) = -d by have := HD.out; have := HD0.out; unfold wrap64; omega]
     exact ⟨rfl, S.out⟩
    case neg =>
     have CW := ae.mk (show d < LF by omega)
     have lK := ae.mk hl
     obtain ⟨hxa, hxb⟩ := mr (a := 0) (b := LF - d) (by omega)
     have hx2 : d < LF := CW.out
     have hx3 : decide (d < LF) = true := decide_eq_true hx2
     clear hl
     cases hgv : jT ax q false K with
     | none =>
      have HG := ae.mk hgv
      have HRR := ae.mk ((xy hgv).symm.trans HR.out).symm
      clear hgv hgg
      have h34 : decide ((-1 : Int) < 0) = true := rfl
      go_wp2_with ((refine bH (some 32) Try.func185 S (O3 HG.out (wW false Gt.out EM.out kL.out (S.out.blk _ (.head _) _ rfl) (Kd.qL (base' := 0) (S.out.own _ (.head _))))) ?_; clear S; intro dF S))
      have hrr := HRR.out
      subst hrr
      go_ret
      rw [show wrap64 (-d) = -d by have := HD.out; have := HD0.out; unfold wrap64; omega]
      exact ⟨rfl, S.out⟩
     | some i =>
      have hs := wo hgv Gt.out
      have HG := ae.mk hgv
      have iy := ae.mk hs.1
      have CX := ae.mk (show i ≠ pl by rw [KO.out]; exact hs.2.1)
      have KI := ae.mk hs.2.2
      have hg2 := Pure.iT mG.out (HI.out.good.jQ _ (lL hs.1))
      have vJ := ae.mk (show (az ax (kd K i)) ≤ 10000 by omega)
      have fF := ae.mk hgg
      have hf : f ≠ 0 := by have := HF.out; have := HD.out; omega
      obtain ⟨f', rfl⟩ : ∃ f', f = f' + 1 := ⟨f - 1, by omega⟩
      have hstep := (uH lK.out hgv).symm.trans HR.out
      rw [show place q false = pl from KO.out.symm] at hstep
      have HST := ae.mk hstep
      have h34 : decide ((i : Int) < 0) = false := decide_eq_false (by omega)
      have ag8 : ¬ ((i : Int) < 0) := by omega
      clear hs hgv hgg hg2 hf hstep
      by_cases hmn : (az ax (kd K i)) < LF - d
      case pos =>
       have hmv : mn (LF - d) (az ax (kd K i)) = (az ax (kd K i)) := by unfold mn; rw [if_pos hmn]
       have Fg := ae.mk (show gG ax q false LF f' (dK ax pl (az ax (kd K i)) (dK ax i (-(az ax (kd K i))) K)) (d + (az ax (kd K i))) = R by have h := HST.out; rw [hmv] at h; exact h)
       have mJ := ae.mk (show 0 < (az ax (kd K i)) by have := KI.out; have := CW.out; omega)
       have rP := ae.mk (show (az ax (kd K i)) ≤ (az ax (kd K i)) by omega)
       have KP := ae.mk (HI.out.step mG.out iy.out CX.out (Int.le_of_lt mJ.out) rP.out)
       have Fe := ae.mk (show pl < (dK ax i (-(az ax (kd K i))) K).length by rw [show (dK ax i (-(az ax (kd K i))) K).length = K.length from List.length_set]; exact HI.out.Hg)
       have Fb := ae.mk (show dI (dK ax i (-(az ax (kd K i))) K) ≤ 1000000 by rw [(HI.out.good.move mG.out iy.out (n := -(az ax (kd K i))) (by have := rP.out; omega) (by have := HI.out.good.small; have := mJ.out; omega)).2.2.2.2.1]; exact kL.out)
       have hneg : wrap64 (-(az ax (kd K i))) = -(az ax (kd K i)) := by have := vJ.out; have := rP.out; have := mJ.out; unfold wrap64; omega
       have hw7 : wrap64 (LF - d - (az ax (kd K i))) = LF - (d + (az ax (kd K i))) := by have h1 := KJ.out; have h2 := Gp.out; have := rP.out; have := mJ.out; have := HD.out; have := HD0.out; have := CW.out; split at h1 <;> (unfold wrap64; omega)
       have hw8 : wrap64 (d + (az ax (kd K i))) = d + (az ax (kd K i)) := by have := vJ.out; have := rP.out; have := mJ.out; have := HD.out; have := HD0.out; unfold wrap64; omega
       have RU := ae.mk hw7
       have KU := ae.mk hw8
       have hm1 : (az ax (kd K i)) < LF - d := hmn
       clear hmv hmn hw7 hw8
       go_wp2_with (first | (refine bH (some 32) Try.func185 S (Ew HG.out (wW false Gt.out EM.out kL.out (S.out.blk _ (.head _) _ rfl) (Kd.qL (base' := 0) (S.out.own _ (.head _))))) ?_; clear S; intro dF S) | (refine bH (some 38) Try.func164 S (jG i iy.out kL.out (S.out.blk _ (.head _) _ rfl) (Kd.qL (base' := 0) (S.out.own _ (.head _)))) ?_; clear S; intro dV S) | (refine iF (some 44) Try.func186 (xK i (wrap64 (-(az ax (kd K i)))) iy.out kL.out S.out) ?_; rintro e fV ⟨rfl, h1⟩; refine ⟨_, rfl, ?_⟩; rw [hneg] at h1; replace S := ae.mk h1; clear h1; rw [show K.length = (dK ax i (-(az ax (kd K i))) K).length from (List.length_set).symm] at S) | (refine iF (some 48) Try.func186 (xK pl (az ax (kd K i)) Fe.out Fb.out S.out) ?_; rintro e iQ ⟨rfl, h1⟩; refine ⟨_, rfl, ?_⟩; replace S := ae.mk h1; clear h1; rw [show (dK ax i (-(az ax (kd K i))) K).length = (dK ax pl (az ax (kd K i)) (dK ax i (-(az ax (kd K i))) K)).length from (List.length_set).symm] at S))
       go_roundg f'
       case measure => exact Nat.lt_of_lt_of_le (Nat.lt_succ_self _) fF.out
       case rel => exact ⟨_, d + (az ax (kd K i)), f', (by rw [RU.out]), (by rw [KU.out]), Fg, KP, ⟨by have := HF.out; have := mJ.out; omega⟩, Nat.le_refl _, S⟩
      case neg =>
       have hmv : mn (LF - d) (az ax (kd K i)) = (LF - d) := by unfold mn; rw [if_neg hmn]
       have Fg := ae.mk (show gG ax q false LF f' (dK ax pl (LF - d) (dK ax i (-(LF - d)) K)) (d + (LF - d)) = R by have h := HST.out; rw [hmv] at h; exact h)
       have mJ := ae.mk (show 0 < (LF - d) by have := KI.out; have := CW.out; omega)
       have rP := ae.mk (show (LF - d) ≤ (az ax (kd K i)) by omega)
       have KP := ae.mk (HI.out.step mG.out iy.out CX.out (Int.le_of_lt mJ.out) rP.out)
       have Fe := ae.mk (show pl < (dK ax i (-(LF - d)) K).length by rw [show (dK ax i (-(LF - d)) K).length = K.length from List.length_set]; exact HI.out.Hg)
       have Fb := ae.mk (show dI (dK ax i (-(LF - d)) K) ≤ 1000000 by rw [(HI.out.good.move mG.out iy.out (n := -(LF - d)) (by have := rP.out; omega) (by have := HI.out.good.small; have := mJ.out; omega)).2.2.2.2.1]; exact kL.out)
       have hneg : wrap64 (-(LF - d)) = -(LF - d) := by have := vJ.out; have := rP.out; have := mJ.out; unfold wrap64; omega
       have hw7 : wrap64 (LF - d - (LF - d)) = LF - (d + (LF - d)) := by have h1 := KJ.out; have h2 := Gp.out; have := rP.out; have := mJ.out; have := HD.out; have := HD0.out; have := CW.out; split at h1 <;> (unfold wrap64; omega)
       have hw8 : wrap64 (d + (LF - d)) = d + (LF - d) := by have := vJ.out; have := rP.out; have := mJ.out; have := HD.out; have := HD0.out; unfold wrap64; omega
       have RU := ae.mk hw7
       have KU := ae.mk hw8
       have hm1 : ¬ ((az ax (kd K i)) < LF - d) := hmn
       clear hmv hmn hw7 hw8
       go_wp2_with (first | (refine bH (some 32) Try.func185 S (Ew HG.out (wW false Gt.out EM.out kL.out (S.out.blk _ (.head _) _ rfl) (Kd.qL (base' := 0) (S.out.own _ (.head _))))) ?_; clear S; intro dF S) | (refine bH (some 38) Try.func164 S (jG i iy.out kL.out (S.out.blk _ (.head _) _ rfl) (Kd.qL (base' := 0) (S.out.own _ (.head _)))) ?_; clear S; intro dV S) | (refine iF (some 44) Try.func186 (xK i (wrap64 (-(LF - d))) iy.out kL.out S.out) ?_; rintro e fV ⟨rfl, h1⟩; refine ⟨_, rfl, ?_⟩; rw [hneg] at h1; replace S := ae.mk h1; clear h1; rw [show K.length = (dK ax i (-(LF - d)) K).length from (List.length_set).symm] at S) | (refine iF (some 48) Try.func186 (xK pl (LF - d) Fe.out Fb.out S.out) ?_; rintro e iQ ⟨rfl, h1⟩; refine ⟨_, rfl, ?_⟩; replace S := ae.mk h1; clear h1; rw [show (dK ax i (-(LF - d)) K).length = (dK ax pl (LF - d) (dK ax i (-(LF - d)) K)).length from (List.length_set).symm] at S))
       go_roundg f'
       case measure => exact Nat.lt_of_lt_of_le (Nat.lt_succ_self _) fF.out
       case rel => exact ⟨_, d + (LF - d), f', (by (congr 1; omega)), (by rw [KU.out]), Fg, KP, ⟨by have := HF.out; have := mJ.out; omega⟩, Nat.le_refl _, S⟩
end Go.Proofs.Ytfdmfgaiblfbhaa.P
namespace Go.Proofs.Ytfdmfgaiblfbhaa.P
open Go.RowKit Go.Proofs.ag.aK Go.Proofs.ag.bG Go.Proofs.ag.bV
section
variable {c x z : ai} {path p L : _} {en id : Int}
end
noncomputable def o5 (ax bu : Int) (q : Nat) (L : List ai) : List ai × Int :=
 ((gG ax q (decide (0 < bu)) (oV bu) 10001 L 0).1, if decide (0 < bu) = true then (gG ax q (decide (0 < bu)) (oV bu) 10001 L 0).2 else -(gG ax q (decide (0 < bu)) (oV bu) 10001 L 0).2)
noncomputable def Hl (ax bu : Int) (c z : ai) (pq : List Int) (q : Nat) : ai × Int × Int :=
 if (o5 ax bu q z.f3).2 = 0 ∧ bu ≠ 0 then (z26, 0, 7) else (dA ((xe ⟨z.f0, z.f1, z.f2, (o5 ax bu q z.f3).1⟩ pq c).getD z26) c.f1.f0 c.f1.f1, (o5 ax bu q z.f3).2, 0)
def qI (p : List Int) (d : Nat) (z : ai) : Nat := (mn (rd p (d : Int)) ((z.f3.length : Int) - 2)).toNat
noncomputable def pM (ax id bu : Int) (c : ai) : ai × Int × Int :=
 if uF ax id c ≠ 0 then (z26, 0, uF ax id c) else match fO id c with
 | none => (z26, 0, 0)
 | some p => match Dl ax c p with
  | none => (z26, 0, 0)
  | some d => match n_ c (p.take d) with
   | none => (z26, 0, 0)
   | some z => Hl ax bu c z (p.take d) (qI p d z)
structure oI (ax id : Int) (c : ai) (p : List Int) (d : Nat) (z : ai) (q : Nat) : Prop where
 jQ : di c = true
 hax : ax = 1 ∨ ax = 2
 find : fO id c = some p
 Td : Dl ax c p = some d
 fr : yT ax c p d z q
 zt : di z = true
theorem Dn {ax id : Int} {c : ai} (h : uF ax id c = 0) : ∃ p d z q, oI ax id c p d z q := by
 unfold uF at h
 split at h
 ·rename_i h1
  cases hf : fO id c with
  | none => rw [hf] at h; simp at h
  | some p =>
   rw [hf] at h
   simp only [] at h
   cases hd : Dl ax c p with
   | none => rw [hd] at h; simp at h
   | some d =>
    obtain ⟨x, hx, _⟩ := (A_ id _).1 c (Nat.le_refl _) p hf
    obtain ⟨z, q, hF, ht⟩ := Qz h1.1 hx hd
    exact ⟨p, d, z, q, h1.1, h1.2, hf, hd, hF, ht⟩
 ·simp at h
theorem oI.n {ax id : Int} {c : ai} {p : List Int} {d : Nat} {z : ai} {q : Nat} (h : oI ax id c p d z q) : uF ax id c = 0 := by
 unfold uF
 rw [if_pos ⟨h.jQ, h.hax⟩, h.find]
 simp only [h.Td]
theorem oI.q {ax id : Int} {c : ai} {p : List Int} {d : Nat} {z : ai} {q : Nat} (h : oI ax id c p d z q) : qI p d z = q := by
 unfold qI
 rw [← h.fr.hq]
 exact Int.toNat_natCast _
theorem oI.good {ax id : Int} {c : ai} {p : List Int} {d : Nat} {z : ai} {q : Nat} (h : oI ax id c p d z q) : qw ax (aV ax z.f1 - ((z.f3.length : Int) - 1)) z.f3 := Qy h.hax h.zt h.fr.al
theorem oI.zs {ax id : Int} {c : ai} {p : List Int} {d : Nat} {z : ai} {q : Nat} (h : oI ax id c p d z q) : 1 + dI z.f3 ≤ sz c ∧ sz c ≤ 20000 := by
 have h1 := Ic _ _ _ h.fr.at'
 have h2 := cO z
 exact ⟨by omega, ny (kH h.jQ)⟩
theorem N9 {ax id bu n : Int} {c : ai} (h : uF ax id c = n) (h0 : n ≠ 0) : pM ax id bu c = (z26, 0, n) := by
 unfold pM
 rw [h, if_pos h0]
theorem Aj {ax id bu : Int} {c : ai} {p : List Int} {d : Nat} {z : ai} {q : Nat} (h : oI ax id c p d z q) : pM ax id bu c = Hl ax bu c z (p.take d) q := by
 unfold pM
 rw [h.n, if_neg (by simp), h.find]
 simp only [h.Td, h.fr.at', h.q]
theorem JO {ax bu s : Int} {q : Nat} {L : List ai} (hax : ax = 1 ∨ ax = 2) (h : qw ax s L) (hq : q + 1 < L.length) :
  rU ax s (place q (decide (0 < bu))) (dI L) L (o5 ax bu q L).1 (gG ax q (decide (0 < bu)) (oV bu) 10001 L 0).2 :=
 (Q3 hax _ _ _ (rU.start h (by unfold place; split <;> omega)) hq).1
theorem W9 {ax bu s : Int} {q : Nat} {L : List ai} (hax : ax = 1 ∨ ax = 2) (h : qw ax s L) (hq : q + 1 < L.length) : dI (o5 ax bu q L).1 = dI L ∧ (o5 ax bu q L).1.length = L.length :=
 ⟨(JO hax h hq).z, (JO hax h hq).len⟩
def mg (p : Nat → Bool) (g : Nat → Int) : Nat → Int
 | 0 => 0
 | n + 1 => mg p g n + (if p n = true then g n else 0)
theorem Oi {p : Nat → Bool} {g g' : Nat → Int} {i : Nat} {e : Int} (h : ∀ j, j ≠ i → g' j = g j) (hi : g' i = g i + e) : ∀ n, mg p g' n = mg p g n + (if i < n ∧ p i = true then e else 0) := by
 intro n
 induction n with
 | zero => simp [mg]
 | succ n ih =>
  unfold mg
  rw [ih]
  by_cases hn : n = i
  ·subst hn
   rw [hi]
   rw [if_neg (by omega)]
   by_cases hp : p n = true
   ·rw [if_pos hp, if_pos hp, if_pos ⟨by omega, hp⟩]; omega
   ·rw [if_neg hp, if_neg hp, if_neg (fun h => hp h.2)]
  ·rw [h n hn]
   have e1 : (i < n + 1 ∧ p i = true) ↔ (i < n ∧ p i = true) := ⟨fun h => ⟨by omega, h.2⟩, fun h => ⟨by omega, h.2⟩⟩
   by_cases hp : i < n ∧ p i = true
   ·rw [if_pos hp, if_pos (e1.2 hp)]; omega
   ·rw [if_neg hp, if_neg (fun h => hp (e1.1 h))]; omega
theorem U4 {p : Nat → Bool} {g : Nat → Int} : ∀ n, (∀ i, i < n → p i = true → g i = 0) → mg p g n = 0 := by
 intro n
 induction n with
 | zero => intro _; rfl
 | succ n ih =>
  intro h
  unfold mg
  rw [ih (fun i hi => h i (by omega))]
  by_cases hp : p n = true
  ·rw [if_pos hp, h n (by omega) hp]; rfl
  ·rw [if_neg hp]; rfl
theorem Bq {p : Nat → Bool} {g : Nat → Int} {m : Int} (h : ∀ i, 0 ≤ g i ∧ g i ≤ m) (hm : 0 ≤ m) : ∀ n : Nat, 0 ≤ mg p g n ∧ mg p g n ≤ m * (n : Int) := by
 intro n
 induction n with
 | zero => exact ⟨Int.le_refl _, by simp [mg]⟩
 | succ n ih =>
  unfold mg
  have h1 := h n
  have e : m * ((n + 1 : Nat) : Int) = m * (n : Int) + m := by rw [Int.natCast_succ, Int.mul_add, Int.mul_one]
  rw [e]
  split <;> omega
def gP (q : Nat) (m : Bool) (i : Nat) : Bool := if m = true then decide (i ≠ q) else decide (i ≤ q)
noncomputable def vV (ax : Int) (q : Nat) (m : Bool) (L : List ai) : Int := mg (gP q m) (fun i => az ax (kd L i)) L.length
theorem V7 {ax : Int} {q : Nat} {m : Bool} {L : List ai} {i : Nat} (h : jT ax q m L = some i) (hq : q + 1 < L.length) : gP q m i = true := by
 have h1 := wo h hq
 unfold gP
 cases m with
 | true => simp only [if_true]; exact decide_eq_true (by have := h1.2.1; unfold place at this; simpa using this)
 | false =>
  unfold jT at h
  simp only [Bool.false_eq_true, if_false] at h ⊢
  exact decide_eq_true (by have := (BO h).1; omega)
theorem QB {ax s : Int} (hax : ax = 1 ∨ ax = 2) {q : Nat} {m : Bool} {L : List ai} (h : jT ax q m L = none) (hg : qw ax s L) : vV ax q m L = 0 := by
 refine U4 _ (fun i hi hp => ?_)
 have h0 := Pure.iT hax (hg.jQ _ (lL hi))
 have hz : oh ax L i = false → az ax (kd L i) = 0 := fun h => by
  unfold oh at h
  have := of_decide_eq_false h
  omega
 refine hz ?_
 unfold jT at h
 unfold gP at hp
 cases m with
 | true =>
  simp only [if_true] at h hp
  have hne := of_decide_eq_true hp
  cases hu : Dp (oh ax L) (L.length - (q + 1)) (q + 1) with
  | some j => rw [hu] at h; cases h
  | none =>
   rw [hu] at h
   simp only [] at h
   by_cases hlt : i < q
   ·exact MX h i hlt
   ·exact V5 hu i (by omega) (by omega)
 | false =>
  simp only [Bool.false_eq_true, if_false] at h hp
  exact MX h i (by have := of_decide_eq_true hp; omega)
theorem WZ (q : Nat) (m : Bool) : gP q m (place q m) = false := by
 unfold gP place
 cases m with
 | true => simp
 | false => simp
theorem W_ {ax s : Int} (hax : ax = 1 ∨ ax = 2) {q : Nat} {m : Bool} {left : Int} {N : Nat} {L0 : List ai} (hl : 9999 < left) (h0 : 0 ≤ az ax (kd L0 (place q m))) : ∀ (f : Nat) (L : List ai) (d : Int), rU ax s (place q m) N L0 L d → q + 1 < L.length → 10001 ≤ (f : Int) + d →
  (gG ax q m left f L d).2 = d + vV ax q m L := by
 intro f
 induction f with
 | zero => intro L d h _ hf; have := h.small hax h0; omega
 | succ f ih =>
  intro L d h hq hf
  have hd := h.small hax h0
  cases hg : jT ax q m L with
  | none => rw [xy hg, QB hax hg h.good]; show d = d + 0; omega
  | some i =>
   rw [uH (by omega) hg]
   obtain ⟨g1, g2, g3⟩ := wo hg hq
   have n0 := Uz (a := left - d) (b := az ax (kd L i)) (by omega) g3
   have n1 := Uy (left - d) (az ax (kd L i))
   have h2 := h.step hax g1 g2 (Int.le_of_lt n0) n1
   generalize mn (left - d) (az ax (kd L i)) = n at n0 n1 h2 ⊢
   rw [ih _ _ h2 (by rw [h2.len, ← h.len]; exact hq) (by omega)]
   obtain ⟨a1, a2, a3, a4, a5, a6⟩ := h.good.move hax g1 (n := -n) (by omega) (by have := h.good.small; omega)
   have hp : place q m < (dK ax i (-n) L).length := by rw [a4]; exact h.Hg
   have e := a3 (place q m) (fun e => g2 e.symm)
   have hgv := Pure.iT hax (h.good.jQ _ (lL h.Hg))
   obtain ⟨b1, b2, b3, b4, b5, b6⟩ := a1.move hax hp (n := n) (by rw [e]; omega) (by have := h.good.small; omega)
   unfold vV
   rw [b4, a4]
   rw [Oi (g := fun j => az ax (kd (dK ax i (-n) L) j)) (i := place q m) (e := n) (fun j hj => by show az ax (kd _ j) = az ax (kd _ j); rw [b3 j hj]) b2]
   rw [Oi (g := fun j => az ax (kd L j)) (i := i) (e := -n) (fun j hj => by show az ax (kd _ j) = az ax (kd _ j); rw [a3 j hj]) a2]
   rw [if_pos ⟨g1, V7 hg hq⟩, if_neg (by rw [WZ]; simp)]
   omega
noncomputable def qY (ax id : Int) (m : Bool) (c : ai) : Int :=
 if uF ax id c ≠ 0 then 0 else match fO id c with
 | none => 0
 | some p => match Dl ax c p with
  | none => 0
  | some d => match n_ c (p.take d) with
   | none => 0
   | some z => vV ax (qI p d z) m z.f3
theorem yX {ax id : Int} {m : Bool} {c : ai} (h : uF ax id c ≠ 0) : qY ax id m c = 0 := by
 unfold qY
 rw [if_pos h]
theorem sV {ax id : Int} {m : Bool} {c : ai} {p : List Int} {d : Nat} {z : ai} {q : Nat} (h : oI ax id c p d z q) : qY ax id m c = vV ax q m z.f3 := by
 unfold qY
 rw [h.n, if_neg (by simp), h.find]
 simp only [h.Td, h.fr.at', h.q]
theorem N7 {ax id bu : Int} {c : ai} (h : 9999 < oV bu) : (pM ax id bu c).2.1 = if decide (0 < bu) = true then qY ax id (decide (0 < bu)) c else -(qY ax id (decide (0 < bu)) c) := by
 by_cases hn : uF ax id c = 0
 ·obtain ⟨p, d, z, q, hF⟩ := Dn hn
  have hp : place q (decide (0 < bu)) < z.f3.length := by have := hF.fr.next; unfold place; split <;> omega
  have h0 : 0 ≤ az ax (kd z.f3 (place q (decide (0 < bu)))) := by
   have := Pure.iT hF.hax (hF.good.jQ _ (lL hp))
   omega
  have h1 := W_ hF.hax (m := decide (0 < bu)) h h0 10001 z.f3 0 (rU.start hF.good hp) hF.fr.next (by omega)
  have h2 : (o5 ax bu q z.f3).2 = if decide (0 < bu) = true then vV ax q (decide (0 < bu)) z.f3 else -(vV ax q (decide (0 < bu)) z.f3) := by
   unfold o5
   rw [h1, Int.zero_add]
  rw [Aj hF, sV hF, ← h2]
  unfold Hl
  split
  ·rename_i h3; exact h3.1.symm
  ·rfl
 ·rw [N9 rfl hn, yX hn]
  split <;> rfl
abbrev Lp (w : World) (P : Nat → Prop) (r : ai × Int × Int) (e : Ending) (w' : World) : Prop := ∃ A c, e = .returned (.tuple #[.agg #[.int .u8 r.1.f0, .int .i64 r.1.f1.f0, .int .i64 r.1.f1.f1, .int .i64 r.1.f1.f2, .int .i64 r.1.f1.f3, .int .i64 r.1.f2, .slice A r.1.f3.length c], .int .i64 r.2.1, .int .i64 r.2.2]) ∧ Kd.N k26 26 w' w.heap.size (fun k => P k ∨ w.heap.size ≤ k) (.slice A r.1.f3.length c) r.1.f3 ∧ Below w.heap.size w w'
abbrev abu (w : World) (P : Nat → Prop) (ax : Int) (p pq : List Int) (z : ai) (q : Nat) (e : Ending) (w' : World) : Prop := ∃ Az cz Ap cp op, e = .returned (.tuple #[.agg #[.int .u8 z.f0, .int .i64 z.f1.f0, .int .i64 z.f1.f1, .int .i64 z.f1.f2, .int .i64 z.f1.f3, .int .i64 z.f2, .slice Az z.f3.length cz, .slice Ap pq.length cp, .int .i64 (q : Int), .int .u8 ax], .int .i64 0]) ∧ IR w.heap.size (.slice Ap p.length cp) p op ∧ St w P [((Value.slice Ap p.length cp).ownBlock, op)] [(.slice Az z.f3.length cz, z.f3)] [] [] w'
theorem GU {ax id : Int} {c : ai} {p pq : List Int} {d : Nat} {z : ai} {q : Nat} {b : Nat} {P : Nat → Prop} {A : Option Addr} {cc : Nat} {w : World} (h : oI ax id c p d z q) (hpq : pq = p.take d) (hz : sz c ≤ 1000000) (hv : Kd.V k26 26 w b P (.slice A c.f3.length cc) c.f3) :
  Calls Try.prog 157 #[.agg #[.int .u8 c.f0, .int .i64 c.f1.f0, .int .i64 c.f1.f1, .int .i64 c.f1.f2, .int .i64 c.f1.f3, .int .i64 c.f2, .slice A c.f3.length cc], .int .i64 id, .int .u8 ax] w (abu w P ax p pq z q) := by
 subst hpq
 exact (Io c hz id ax b P A cc w hv).2 p d z q h.jQ h.hax h.find h.Td h.fr
theorem N_ {w W : World} {P : Nat → Prop} {bs : List (Option Nat × Obj)} {ts : List (Value × List ai)} {ro : List (Addr × Value)} {g gr cap : Nat} {fk fx fy fw fh zV ax s : Int} {VP : Value} {q : Nat} {L L' : List ai} {n : Int} (bu : Int) (hax : ax = 1 ∨ ax = 2) (hg : qw ax s L) (hq : q + 1 < L.length) (hz : dI L ≤ 1000000) (hb : -9223372036854775808 ≤ bu ∧ bu ≤ 9223372036854775807) (hF : o5 ax bu q L = (L', n))
  (S0 : St w P ((some g, .cells #[.int .u8 fk, .int .i64 fx, .int .i64 fy, .int .i64 fw, .int .i64 fh, .int .i64 zV, .slice (some ⟨gr, 0, none⟩) L.length cap, VP, .int .i64 (q : Int), .int .u8 ax] 147 (0, 0)) :: bs) [(.slice (some ⟨gr, 0, none⟩) L.length cap, L)] ts ro W) :
  Calls Try.prog 158 #[.pointer (some ⟨g, 0, none⟩), .int .i64 bu] W fun e w' => e = .returned (.int .i64 n) ∧ St w P ((some g, .cells #[.int .u8 fk, .int .i64 fx, .int .i64 fy, .int .i64 fw, .int .i64 fh, .int .i64 zV, .slice (some ⟨gr, 0, none⟩) L'.length cap, VP, .int .i64 (q : Int), .int .u8 ax] 147 (0, 0)) :: bs) [(.slice (some ⟨gr, 0, none⟩) L'.length cap, L')] ts ro w' := by
 have h := aaC bu hax hg hq hz hb S0
 have e1 : L' = (o5 ax bu q L).1 := by rw [hF]
 have e2 : n = (o5 ax bu q L).2 := by rw [hF]
 subst e1 e2
 exact h
theorem IZ (c : ai) (hz : sz c ≤ 1000000) (id ax bu : Int) (hb : -9223372036854775808 ≤ bu ∧ bu ≤ 9223372036854775807) (P : Nat → Prop) (A : Option Addr) (cc : Nat) (w : World) (hv : Kd.V k26 26 w w.heap.size P (.slice A c.f3.length cc) c.f3) :
  Calls Try.prog 114 #[.agg #[.int .u8 c.f0, .int .i64 c.f1.f0, .int .i64 c.f1.f1, .int .i64 c.f1.f2, .int .i64 c.f1.f3, .int .i64 c.f2, .slice A c.f3.length cc], .int .i64 id, .int .u8 ax, .int .i64 bu] w (Lp w P (pM ax id bu c)) := by
 have S := ae.mk (St.start (ts := [(.slice A c.f3.length cc, c.f3)]) (b0 := w.heap.size) (w := w) (P := P) (fun t ht => by rw [List.mem_singleton.1 ht]; exact hv))
 have HZ := ae.mk hz
 have Gp := ae.mk hb
 clear hz hv hb
 by_cases hn0 : uF ax id c = 0
 case pos =>
  obtain ⟨p, d, z, q, hF⟩ := Dn hn0
  have hs := hF.zs
  have hps := fun y => Xb ⟨z.f0, z.f1, z.f2, (o5 ax bu q z.f3).1⟩ (p.take d) c y
  have hpz := (W9 (bu := bu) hF.hax hF.good hF.fr.next).1
  obtain ⟨y, hy⟩ := aed (kid := ⟨z.f0, z.f1, z.f2, (o5 ax bu q z.f3).1⟩) (p.take d) c hF.fr.at'
  have hys := hps y hy
  have hk6 := cO ⟨z.f0, z.f1, z.f2, (o5 ax bu q z.f3).1⟩
  simp only [] at hk6
  rw [Aj hF]
  unfold Hl
  rw [hy]
  obtain ⟨pq, hpq⟩ : ∃ pq, pq = p.take d := ⟨_, rfl⟩
  rw [← hpq] at hy
  obtain ⟨⟨L', n⟩, hr⟩ : ∃ r, o5 ax bu q z.f3 = r := ⟨_, rfl⟩
  rw [hr] at hy hpz hys hk6 ⊢
  simp only [Option.getD_some] at hy hpz hys hk6 ⊢
  have wK := ae.mk hF
  have mG := ae.mk hF.hax
  have HGD := ae.mk hF.good
  have HQN := ae.mk hF.fr.next
  have HZ2 := ae.mk (show 0 < z.f3.length by have := hF.fr.next; omega)
  have wL := ae.mk (show dI z.f3 ≤ 1000000 by omega)
  have HPF := ae.mk hr
  have abP := ae.mk hy
  have jl := ae.mk (And.intro hpq (Nat.le_of_lt hF.fr.hd))
  have kL := ae.mk (show sz ⟨z.f0, z.f1, z.f2, L'⟩ ≤ 1000000 by omega)
  have HYZ := ae.mk (show sz y ≤ 1000000 by omega)
  clear hn0 hF hs hps hpz hys hk6 hr hy hpq
  obtain ⟨ck, ⟨cx, cy, cw, ch⟩, aU, l⟩ := c
  simp only [] at S ⊢
  by_cases hn : n = 0
  case pos =>
   by_cases hb0 : bu = 0
   case pos =>
    rw [if_neg (fun h => h.2 hb0)]
    obtain ⟨hna, hnb, hnd⟩ := wM (a := n) (b := 0) (by omega)
    obtain ⟨hba, hbb, hbd⟩ := wM (a := bu) (b := 0) (by omega)
    clear hn hb0
    go_enter Try.func114, Try.ntmps114
    go_wp2_with (first | (refine boxS 4 _ 26 S ?_; clear S; intro b4 dF S) | (refine boxS 8 _ 26 S ?_; clear S; intro b8 dV S; obtain ⟨rf, nY, nZ, rq, ru, ry, pK⟩ := St.ed S bI) | (refine iF (some 20) Try.func157 (GU wK.out jl.out.1 HZ.out (S.out.tree _ (.head _))) ?_; rintro e fV ⟨Az, cz, Ap, cp, op, rfl, Bd, T⟩; refine ⟨_, rfl, ?_⟩; have S1 := S.out.join T; have iG := ae.mk Bd; obtain ⟨gr, acr, ev, _⟩ := Kd.xJ S1.yA HZ2.out; injection ev with e1 e2 e3; subst e1; clear e2 e3 T Bd; replace S := ae.mk S1; clear S1; clear rf nY nZ rq ru ry pK) | (refine boxS 11 _ 147 S ?_; clear S; intro b11 iQ S) | (refine gX 147 11 21 #[.int .u8 z.f0, .int .i64 z.f1.f0, .int .i64 z.f1.f1, .int .i64 z.f1.f2, .int .i64 z.f1.f3, .int .i64 z.f2, .slice (some ⟨gr, 0, none⟩) z.f3.length cz, .slice Ap pq.length cp, .int .i64 (q : Int), .int .u8 ax] 0 10 S ?_; clear S; intro mO S) | (refine iF (some 28) Try.func158 (N_ bu mG.out HGD.out HQN.out wL.out Gp.out HPF.out S.out) ?_; rintro e Bz ⟨rfl, S1⟩; refine ⟨_, rfl, ?_⟩; replace S := ae.mk S1.free; clear S1; obtain ⟨rf, nY, nZ, rq, ru, ry, pK⟩ := St.ed S kW; have uu := (S.out.at (.head _) 0).trans rfl; have uw := (S.out.at (.head _) 1).trans rfl; have uy := (S.out.at (.head _) 2).trans rfl; have uz := (S.out.at (.head _) 3).trans rfl; have uA := (S.out.at (.head _) 4).trans rfl; have uB := (S.out.at (.head _) 5).trans rfl; have rY := (S.out.at (.head _) 6).trans rfl; have L_ := (S.out.at (.head _) 7).trans rfl) | (refine iF (some 42) Try.func102 (Ya ⟨ck, ⟨cx, cy, cw, ch⟩, aU, l⟩ ⟨z.f0, z.f1, z.f2, L'⟩ pq y abP.out HZ.out kL.out (S.out.tree _ bI) (S.out.tree _ (.head _)) (eQ iG.out S.out bI jl.out).1 (eQ iG.out S.out bI jl.out).2) ?_; rintro e yH ⟨Ay, cy', rfl, h1, hb⟩; refine ⟨_, rfl, ?_⟩; replace S := ae.mk (S.out.res (Kd.qL (base' := 0) h1) hb); clear h1 hb; clear rf nY nZ rq ru ry pK uu uw uy uz uA uB rY L_) | (refine boxS 14 _ 26 S ?_; clear S; intro b14 zL S) | (refine gX 26 14 43 #[.int .u8 y.f0, .int .i64 y.f1.f0, .int .i64 y.f1.f1, .int .i64 y.f1.f2, .int .i64 y.f1.f3, .int .i64 y.f2, .slice Ay y.f3.length cy'] 0 7 S ?_; clear S; intro Ot S; obtain ⟨Mc, Md, Me, MB, MC, MF, MG⟩ := St.ed S (.head _); have nY := (S.out.at qj 1).trans rfl; have nZ := (S.out.at qj 2).trans rfl) | (refine QC (some 52) Try.func66 S (Ku y cx cy HYZ.out (S.out.tree _ (.head _))) ?_; clear S; intro As cs AB S; clear Mc Md Me MB MC MF MG nY nZ) | (refine Xa 26 8 52 #[.int .u8 ((dA y cx cy).f0), .int .i64 ((dA y cx cy).f1.f0), .int .i64 ((dA y cx cy).f1.f1), .int .i64 ((dA y cx cy).f1.f2), .int .i64 ((dA y cx cy).f1.f3), .int .i64 ((dA y cx cy).f2), .slice As ((dA y cx cy).f3.length) cs] 0 7 S ?_; clear S; intro Oq S))
    refine bodyPost_ret (xB rfl _ _ b8 26 _ (0, 0) _ rfl (S.out.blk _ kW _ rfl) Try.underlying26 rfl (by kernel_rfl)) rfl ?_
    exact ⟨_, _, rfl, S.out.yA, S.out.below⟩
   case neg =>
    rw [if_pos ⟨hn, hb0⟩]
    obtain ⟨hna, hnb, hnd⟩ := wM (a := n) (b := 0) (by omega)
    obtain ⟨hba, hbb, hbd⟩ := eqF (a := bu) (b := 0) (by omega)
    clear hn hb0
    go_enter Try.func114, Try.ntmps114
    go_wp2_with (first | (refine boxS 4 _ 26 S ?_; clear S; intro b4 dF S) | (refine boxS 8 _ 26 S ?_; clear S; intro b8 dV S; obtain ⟨rf, nY, nZ, rq, ru, ry, pK⟩ := St.ed S bI) | (refine iF (some 20) Try.func157 (GU wK.out jl.out.1 HZ.out (S.out.tree _ (.head _))) ?_; rintro e fV ⟨Az, cz, Ap, cp, op, rfl, Bd, T⟩; refine ⟨_, rfl, ?_⟩; have S1 := S.out.join T; have iG := ae.mk Bd; obtain ⟨gr, acr, ev, _⟩ := Kd.xJ S1.yA HZ2.out; injection ev with e1 e2 e3; subst e1; clear e2 e3 T Bd; replace S := ae.mk S1; clear S1; clear rf nY nZ rq ru ry pK) | (refine boxS 11 _ 147 S ?_; clear S; intro b11 iQ S) | (refine gX 147 11 21 #[.int .u8 z.f0, .int .i64 z.f1.f0, .int .i64 z.f1.f1, .int .i64 z.f1.f2, .int .i64 z.f1.f3, .int .i64 z.f2, .slice (some ⟨gr, 0, none⟩) z.f3.length cz, .slice Ap pq.length cp, .int .i64 (q : Int), .int .u8 ax] 0 10 S ?_; clear S; intro mO S) | (refine iF (some 28) Try.func158 (N_ bu mG.out HGD.out HQN.out wL.out Gp.out HPF.out S.out) ?_; rintro e Bz ⟨rfl, S1⟩; refine ⟨_, rfl, ?_⟩; replace S := ae.mk S1.free; clear S1) | (refine Q4 26 8 35 #[.int .u8 0, .int .i64 0, .int .i64 0, .int .i64 0, .int .i64 0, .int .i64 0, .slice none 0 0] 0 7 S ?_; clear S; intro yH S))
    refine bodyPost_ret (xB rfl _ _ b8 26 _ (0, 0) _ rfl (S.out.blk _ dQ _ rfl) Try.underlying26 rfl (by kernel_rfl)) rfl ?_
    exact ⟨_, _, rfl, Kd.yK _ _ _ _ _, S.out.below⟩
  case neg =>
   rw [if_neg (fun h => hn h.1)]
   obtain ⟨hna, hnb, hnd⟩ := eqF (a := n) (b := 0) (by omega)
   clear hn
   go_enter Try.func114, Try.ntmps114
   go_wp2_with (first | (refine boxS 4 _ 26 S ?_; clear S; intro b4 dF S) | (refine boxS 8 _ 26 S ?_; clear S; intro b8 dV S; obtain ⟨rf, nY, nZ, rq, ru, ry, pK⟩ := St.ed S bI) | (refine iF (some 20) Try.func157 (GU wK.out jl.out.1 HZ.out (S.out.tree _ (.head _))) ?_; rintro e fV ⟨Az, cz, Ap, cp, op, rfl, Bd, T⟩; refine ⟨_, rfl, ?_⟩; have S1 := S.out.join T; have iG := ae.mk Bd; obtain ⟨gr, acr, ev, _⟩ := Kd.xJ S1.yA HZ2.out; injection ev with e1 e2 e3; subst e1; clear e2 e3 T Bd; replace S := ae.mk S1; clear S1; clear rf nY nZ rq ru ry pK) | (refine boxS 11 _ 147 S ?_; clear S; intro b11 iQ S) | (refine gX 147 11 21 #[.int .u8 z.f0, .int .i64 z.f1.f0, .int .i64 z.f1.f1, .int .i64 z.f1.f2, .int .i64 z.f1.f3, .int .i64 z.f2, .slice (some ⟨gr, 0, none⟩) z.f3.length cz, .slice Ap pq.length cp, .int .i64 (q : Int), .int .u8 ax] 0 10 S ?_; clear S; intro mO S) | (refine iF (some 28) Try.func158 (N_ bu mG.out HGD.out HQN.out wL.out Gp.out HPF.out S.out) ?_; rintro e Bz ⟨rfl, S1⟩; refine ⟨_, rfl, ?_⟩; replace S := ae.mk S1.free; clear S1; obtain ⟨rf, nY, nZ, rq, ru, ry, pK⟩ := St.ed S kW; have uu := (S.out.at (.head _) 0).trans rfl; have uw := (S.out.at (.head _) 1).trans rfl; have uy := (S.out.at (.head _) 2).trans rfl; have uz := (S.out.at (.head _) 3).trans rfl; have uA := (S.out.at (.head _) 4).trans rfl; have uB := (S.out.at (.head _) 5).trans rfl; have rY := (S.out.at (.head _) 6).trans rfl; have L_ := (S.out.at (.head _) 7).trans rfl) | (refine iF (some 42) Try.func102 (Ya ⟨ck, ⟨cx, cy, cw, ch⟩, aU, l⟩ ⟨z.f0, z.f1, z.f2, L'⟩ pq y abP.out HZ.out kL.out (S.out.tree _ bI) (S.out.tree _ (.head _)) (eQ iG.out S.out bI jl.out).1 (eQ iG.out S.out bI jl.out).2) ?_; rintro e yH ⟨Ay, cy', rfl, h1, hb⟩; refine ⟨_, rfl, ?_⟩; replace S := ae.mk (S.out.res (Kd.qL (base' := 0) h1) hb); clear h1 hb; clear rf nY nZ rq ru ry pK uu uw uy uz uA uB rY L_) | (refine boxS 14 _ 26 S ?_; clear S; intro b14 zL S) | (refine gX 26 14 43 #[.int .u8 y.f0, .int .i64 y.f1.f0, .int .i64 y.f1.f1, .int .i64 y.f1.f2, .int .i64 y.f1.f3, .int .i64 y.f2, .slice Ay y.f3.length cy'] 0 7 S ?_; clear S; intro Ot S; obtain ⟨Mc, Md, Me, MB, MC, MF, MG⟩ := St.ed S (.head _); have nY := (S.out.at qj 1).trans rfl; have nZ := (S.out.at qj 2).trans rfl) | (refine QC (some 52) Try.func66 S (Ku y cx cy HYZ.out (S.out.tree _ (.head _))) ?_; clear S; intro As cs AB S; clear Mc Md Me MB MC MF MG nY nZ) | (refine Xa 26 8 52 #[.int .u8 ((dA y cx cy).f0), .int .i64 ((dA y cx cy).f1.f0), .int .i64 ((dA y cx cy).f1.f1), .int .i64 ((dA y cx cy).f1.f2), .int .i64 ((dA y cx cy).f1.f3), .int .i64 ((dA y cx cy).f2), .slice As ((dA y cx cy).f3.length) cs] 0 7 S ?_; clear S; intro Oq S))
   refine bodyPost_ret (xB rfl _ _ b8 26 _ (0, 0) _ rfl (S.out.blk _ kW _ rfl) Try.underlying26 rfl (by kernel_rfl)) rfl ?_
   exact ⟨_, _, rfl, S.out.yA, S.out.below⟩
 case neg =>
  obtain ⟨n, hn⟩ : ∃ n, uF ax id c = n := ⟨_, rfl⟩
  rw [hn] at hn0
  rw [N9 hn hn0]
  obtain ⟨hna, hnb, hnd⟩ := eqF (a := n) (b := 0) (by omega)
  have HN := ae.mk hn
  have mJ := ae.mk hn0
  clear hn hn0
  obtain ⟨ck, ⟨cx, cy, cw, ch⟩, aU, l⟩ := c
  simp only [] at S ⊢
  go_enter Try.func114, Try.ntmps114
  go_wp2_with (first | (refine boxS 4 _ 26 S ?_; clear S; intro b4 dF S) | (refine boxS 8 _ 26 S ?_; clear S; intro b8 dV S; obtain ⟨rf, nY, nZ, rq, ru, ry, pK⟩ := St.ed S bI) | (refine bH (some 20) Try.func157 S ((Io ⟨ck, ⟨cx, cy, cw, ch⟩, aU, l⟩ HZ.out id ax _ _ _ _ _ (S.out.tree _ (.head _))).1 n HN.out mJ.out) ?_; clear S; intro fV S; clear rf nY nZ rq ru ry pK) | (refine boxS 11 _ 147 S ?_; clear S; intro b11 iQ S) | (refine gX 147 11 21 #[.int .u8 0, .int .i64 0, .int .i64 0, .int .i64 0, .int .i64 0, .int .i64 0, .slice none 0 0, .slice none 0 0, .int .i64 0, .int .u8 0] 0 10 S ?_; clear S; intro mO S) | (refine Aw 26 8 25 #[.int .u8 0, .int .i64 0, .int .i64 0, .int .i64 0, .int .i64 0, .int .i64 0, .slice none 0 0] 0 7 S ?_; clear S; intro Bz S))
  refine bodyPost_ret (xB rfl _ _ b8 26 _ (0, 0) _ rfl (S.out.blk _ bI _ rfl) Try.underlying26 rfl (by kernel_rfl)) rfl ?_
  exact ⟨_, _, rfl, Kd.yK _ _ _ _ _, S.out.below⟩
theorem qm {p : Nat → Bool} {g : Nat → Int} {n : Nat} (h : p n = true) : mg p g n + g n = mg p g (n + 1) := by rw [mg, if_pos h]
theorem Af {p : Nat → Bool} {g : Nat → Int} {n : Nat} (h : ¬ p n = true) : mg p g n = mg p g (n + 1) := by rw [mg, if_neg h, Int.add_zero]
theorem uQ {ax : Int} (hax : ax = 1 ∨ ax = 2) {L : List ai} (h : ∀ k, k ∈ L → di k = true) (i : Nat) : 0 ≤ az ax (kd L i) ∧ az ax (kd L i) ≤ 10000 := by
 by_cases hi : i < L.length
 ·have := Pure.iT hax (h _ (lL hi)); omega
 ·have e : kd L i = z26 := by unfold kd; rw [List.getD_eq_getElem?_getD, List.getElem?_eq_none (by omega)]; rfl
  rw [e]
  have : az ax z26 = 0 := by unfold az; rw [if_neg (fun h => absurd h.2 (by decide +kernel))]
  omega
theorem aco (c : ai) (hz : sz c ≤ 1000000) (id ax : Int) (b : Nat) (P : Nat → Prop) (A : Option Addr) (cc : Nat) (w : World) (hv : Kd.V k26 26 w b P (.slice A c.f3.length cc) c.f3) :
  Calls Try.prog 118 #[.agg #[.int .u8 c.f0, .int .i64 c.f1.f0, .int .i64 c.f1.f1, .int .i64 c.f1.f2, .int .i64 c.f1.f3, .int .i64 c.f2, .slice A c.f3.length cc], .int .i64 id, .int .u8 ax] w fun e w' => e = .returned (.tuple #[.int .i64 (qY ax id true c), .int .i64 (qY ax id false c)]) ∧ Below w.heap.size w w' := by
 have S := ae.mk (St.start (ts := [(.slice A c.f3.length cc, c.f3)]) (b0 := w.heap.size) (w := w) (P := P) (fun t ht => by rw [List.mem_singleton.1 ht]; exact fK hv))
 have HZ := ae.mk hz
 clear hz hv
 by_cases hn0 : uF ax id c = 0
 case pos =>
  obtain ⟨p, d0, z, q, hF⟩ := Dn hn0
  have hs := hF.zs
  rw [sV hF, sV hF]
  have hat := hF.fr.at'
  obtain ⟨pq, hpq⟩ : ∃ pq, pq = p.take d0 := ⟨_, rfl⟩
  rw [← hpq] at hat
  have wK := ae.mk hF
  have mG := ae.mk hF.hax
  have RS := ae.mk hF.good.jQ
  have wL := ae.mk (show dI z.f3 ≤ 1000000 by omega)
  have gW := ae.mk (show z.f3.length ≤ 1000000 by have := ik z.f3; omega)
  have HAT := ae.mk hat
  have jl := ae.mk (And.intro hpq (Nat.le_of_lt hF.fr.hd))
  obtain ⟨U, hU⟩ : ∃ u, vV ax q true z.f3 = u := ⟨_, rfl⟩
  obtain ⟨D, hD⟩ : ∃ u, vV ax q false z.f3 = u := ⟨_, rfl⟩
  rw [hU, hD]
  unfold vV at hU hD
  have HU := ae.mk hU
  have HD := ae.mk hD
  have HBU := ae.mk (fun k => Bq (p := gP q true) (g := fun i => az ax (kd z.f3 i)) (m := 10000) (fun i => uQ hF.hax hF.good.jQ i) (by decide) k)
  have HBD := ae.mk (fun k => Bq (p := gP q false) (g := fun i => az ax (kd z.f3 i)) (m := 10000) (fun i => uQ hF.hax hF.good.jQ i) (by decide) k)
  have vJ := ae.mk (fun i => uQ hF.hax hF.good.jQ i)
  clear hn0 hF hs hat hpq hU hD
  obtain ⟨ck, ⟨cx, cy, cw, ch⟩, aU, l⟩ := c
  simp only [] at S ⊢
  go_enter Try.func118, Try.ntmps118
  go_wp2_with (first
   | (refine boxS 3 _ 26 S ?_; clear S; intro b3 dF S; obtain ⟨a_, aW, aY, aX, bM, bP, bC⟩ := St.ed S (.head _))
   | (refine iF (some 17) Try.func157 (GU wK.out jl.out.1 HZ.out (S.out.tree _ (.head _))) ?_; rintro e dV ⟨Az, cz, Ap, cp, op, rfl, Bd, T⟩; refine ⟨_, rfl, ?_⟩; replace S := ae.mk (S.out.join T).free; clear Bd T; clear a_ aW aY aX bM bP bC)
   | (refine boxS 8 _ 147 S ?_; clear S; intro b8 fV S)
   | (refine gX 147 8 18 #[.int .u8 z.f0, .int .i64 z.f1.f0, .int .i64 z.f1.f1, .int .i64 z.f1.f2, .int .i64 z.f1.f3, .int .i64 z.f2, .slice Az z.f3.length cz, .slice Ap pq.length cp, .int .i64 (q : Int), .int .u8 ax] 0 10 S ?_; clear S; intro iQ S; have Qs := (S.out.at (.head _) 6).trans rfl)
   | fail)
  clear Qs
  go_loopg [10, 11, 26] z.f3.length (fun gg v10 v11 v26 wr => ∃ n : Nat, v10 = .int .i64 (mg (gP q true) (fun i => az ax (kd z.f3 i)) n) ∧ v11 = .int .i64 (mg (gP q false) (fun i => az ax (kd z.f3 i)) n) ∧ v26 = .int .i64 (n : Int) ∧ ae (n ≤ z.f3.length) ∧ z.f3.length - n ≤ gg ∧ ae (St w P [(some b8, .cells #[.int .u8 z.f0, .int .i64 z.f1.f0, .int .i64 z.f1.f1, .int .i64 z.f1.f2, .int .i64 z.f1.f3, .int .i64 z.f2, .slice Az z.f3.length cz, .slice Ap pq.length cp, .int .i64 (q : Int), .int .u8 ax] 147 (0, 0)), ((Value.slice Ap p.length cp).ownBlock, op), (some b3, .cells #[.int .u8 ck, .int .i64 cx, .int .i64 cy, .int .i64 cw, .int .i64 ch, .int .i64 aU, .slice A l.length cc] 26 (0, 0))] [] [(.slice Az z.f3.length cz, z.f3), (.slice A l.length cc, l)] [] wr))
  case atStart => exact ⟨0, rfl, rfl, rfl, ⟨Nat.zero_le _⟩, Nat.le_refl _, S⟩
  case round =>
   clear S
   obtain ⟨n, rfl, rfl, rfl, lK, hgg, S⟩ := hrel
   obtain ⟨SU, Nc⟩ : ∃ u, mg (gP q true) (fun i => az ax (kd z.f3 i)) n = u := ⟨_, rfl⟩
   obtain ⟨SD, hSD⟩ : ∃ u, mg (gP q false) (fun i => az ax (kd z.f3 i)) n = u := ⟨_, rfl⟩
   rw [Nc, hSD]
   have C9 := ae.mk Nc
   have CZ := ae.mk hSD
   clear Nc hSD
   by_cases hlt : n < z.f3.length
   case pos =>
    have iy := ae.mk hlt
    have hlz : (n : Int) < (z.f3.length : Int) := by omega
    have fF := ae.mk hgg
    have hw : wrap64 ((n : Int) + 1) = ((n + 1 : Nat) : Int) := by have := gW.out; unfold wrap64; omega
    have HW := ae.mk hw
    have RY := ae.mk (show wrap64 (SU + (az ax (kd z.f3 n))) = SU + (az ax (kd z.f3 n)) by have h1 := HBU.out n; rw [C9.out] at h1; have h2 := vJ.out n; have := gW.out; unfold wrap64; omega)
    have RX := ae.mk (show wrap64 (SD + (az ax (kd z.f3 n))) = SD + (az ax (kd z.f3 n)) by have h1 := HBD.out n; rw [CZ.out] at h1; have h2 := vJ.out n; have := gW.out; unfold wrap64; omega)
    clear hw hgg
    by_cases hq : n = q
    case pos =>
     have hpu : ¬ gP q true n = true := by unfold gP; simp; omega
     have xM : gP q false n = true := by unfold gP; simp; omega
     have Gv := ae.mk hpu
     have CY := ae.mk xM
     obtain ⟨hqa, GZ, NG⟩ := wM (a := (n : Int)) (b := (q : Int)) (by omega)
     have hqe : (n == q) = true := beq_iff_eq.mpr (by omega)
     have hqf : decide (n = q) = true := decide_eq_true (by omega)
     have hle : decide ((n : Int) ≤ (q : Int)) = true := decide_eq_true (by omega)
     have hle2 : decide (n ≤ q) = true := decide_eq_true (by omega)
     clear hq hpu xM
     have yO := (S.out.at (.head _) 8).trans rfl
     go_wp2_with (first
      | (refine bH (some 43) Try.func164 S (jG n iy.out wL.out (S.out.blk _ (.head _) _ rfl) (S.out.tree _ (.head _))) ?_; clear S; intro dF S; clear yO)
      | fail)
     have hw := HW.out
     go_wp2
     go_roundg (z.f3.length - (n + 1))
     case measure => have := fF.out; have := iy.out; omega
     case rel => exact ⟨n + 1, (congrArg (Value.int .i64) (by rw [← C9.out]; exact Af Gv.out)), (congrArg (Value.int .i64) (by rw [RX.out, ← CZ.out]; exact qm CY.out)), (by rw [hw]), ⟨by have := iy.out; omega⟩, Nat.le_refl _, S⟩
    case neg =>
     have hpu : gP q true n = true := by unfold gP; simp; omega
     have Gv := ae.mk hpu
     obtain ⟨hqa, GZ, NG⟩ := eqF (a := (n : Int)) (b := (q : Int)) (by omega)
     have hqe : (n == q) = false := beq_eq_false_iff_ne.mpr (by omega)
     have hqf : decide (n = q) = false := decide_eq_false (by omega)
     clear hpu
     by_cases hq2 : n ≤ q
     case pos =>
      have xM : gP q false n = true := by unfold gP; simp; omega
      have CY := ae.mk xM
      have hle : decide ((n : Int) ≤ (q : Int)) = true := decide_eq_true (by omega)
      have hle2 : decide (n ≤ q) = true := decide_eq_true (by omega)
      clear xM hq2 hq
      have yO := (S.out.at (.head _) 8).trans rfl
      go_wp2_with (first
       | (refine bH (some 35) Try.func164 S (jG n iy.out wL.out (S.out.blk _ (.head _) _ rfl) (S.out.tree _ (.head _))) ?_; clear S; intro dF S; clear yO; have yO := (S.out.at (.head _) 8).trans rfl)
       | (refine bH (some 43) Try.func164 S (jG n iy.out wL.out (S.out.blk _ (.head _) _ rfl) (S.out.tree _ (.head _))) ?_; clear S; intro dV S; clear yO)
       | fail)
      have hw := HW.out
      go_wp2
      go_roundg (z.f3.length - (n + 1))
      case measure => have := fF.out; have := iy.out; omega
      case rel => exact ⟨n + 1, (congrArg (Value.int .i64) (by rw [RY.out, ← C9.out]; exact qm Gv.out)), (congrArg (Value.int .i64) (by rw [RX.out, ← CZ.out]; exact qm CY.out)), (by rw [hw]), ⟨by have := iy.out; omega⟩, Nat.le_refl _, S⟩
     case neg =>
      have xM : ¬ gP q false n = true := by unfold gP; simp; omega
      have CY := ae.mk xM
      have hle : decide ((n : Int) ≤ (q : Int)) = false := decide_eq_false (by omega)
      have hle2 : decide (n ≤ q) = false := decide_eq_false (by omega)
      clear xM hq2 hq
      have yO := (S.out.at (.head _) 8).trans rfl
      go_wp2_with (first
       | (refine bH (some 35) Try.func164 S (jG n iy.out wL.out (S.out.blk _ (.head _) _ rfl) (S.out.tree _ (.head _))) ?_; clear S; intro dF S; clear yO; have yO := (S.out.at (.head _) 8).trans rfl)
       | fail)
      clear yO
      have hw := HW.out
      go_wp2
      go_roundg (z.f3.length - (n + 1))
      case measure => have := fF.out; have := iy.out; omega
      case rel => exact ⟨n + 1, (congrArg (Value.int .i64) (by rw [RY.out, ← C9.out]; exact qm Gv.out)), (congrArg (Value.int .i64) (by rw [← CZ.out]; exact Af CY.out)), (by rw [hw]), ⟨by have := iy.out; omega⟩, Nat.le_refl _, S⟩
   case neg =>
    have hlz : ¬ ((n : Int) < (z.f3.length : Int)) := by omega
    have hnl : n = z.f3.length := by have := lK.out; omega
    have HUU := ae.mk (show SU = U by rw [← C9.out, ← HU.out, hnl])
    have KG := ae.mk (show SD = D by rw [← CZ.out, ← HD.out, hnl])
    clear hlt hgg hnl
    go_wp2
    refine bodyPost_ret (results_tmp2 rfl _ _ _) rfl ?_
    rw [← HUU.out, ← KG.out]
    exact ⟨rfl, S.out.below⟩
 case neg =>
  rw [yX hn0, yX hn0]
  obtain ⟨n, hn⟩ : ∃ n, uF ax id c = n := ⟨_, rfl⟩
  rw [hn] at hn0
  obtain ⟨hna, hnb, hnd⟩ := eqF (a := n) (b := 0) (by omega)
  have HN := ae.mk hn
  have mJ := ae.mk hn0
  clear hn hn0
  obtain ⟨ck, ⟨cx, cy, cw, ch⟩, aU, l⟩ := c
  simp only [] at S ⊢
  go_enter Try.func118, Try.ntmps118
  go_wp2_with (first
   | (refine boxS 3 _ 26 S ?_; clear S; intro b3 dF S; obtain ⟨a_, aW, aY, aX, bM, bP, bC⟩ := St.ed S (.head _))
   | (refine bH (some 17) Try.func157 S ((Io ⟨ck, ⟨cx, cy, cw, ch⟩, aU, l⟩ HZ.out id ax _ _ _ _ _ (S.out.tree _ (.head _))).1 n HN.out mJ.out) ?_; clear S; intro dV S; clear a_ aW aY aX bM bP bC)
   | (refine boxS 8 _ 147 S ?_; clear S; intro b8 fV S)
   | (refine gX 147 8 18 #[.int .u8 0, .int .i64 0, .int .i64 0, .int .i64 0, .int .i64 0, .int .i64 0, .slice none 0 0, .slice none 0 0, .int .i64 0, .int .u8 0] 0 10 S ?_; clear S; intro iQ S)
   | fail)
  refine bodyPost_ret (results_tmp2 rfl _ _ _) rfl ?_
  exact ⟨rfl, S.out.below⟩
end Go.Proofs.Ytfdmfgaiblfbhaa.P
namespace Go.Proofs.Ytfdmfgaiblfbhaa.P
open Go.RowKit Go.Proofs.ag.aK Go.Proofs.ag.bG Go.Proofs.ag.bV
attribute [local go_sem] jm jR jB kF
def o9.T9 : Bool × List (List Nat × List Nat) := (true, [([], []), ([], []), ([], []), ([1, 2], [1, 2]), ([0, 3], [0, 3]), ([4], [4]), ([5], [5]), ([5], [5]), ([], []), ([8, 6, 4, 0, 1, 2, 3, 4, 5, 6, 8], [6, 8]), ([7, 9, 0, 1, 2, 3, 4, 5, 6, 7, 8, 9], [7])])
def o9.B9 : List Nat := [0, 0, 0, 6, 15, 31, 63, 63, 0, 383, 1023]
theorem o9.zK : g_ .any (opsOf Try.f116 9) = o9.T9 := by kernel_rfl
theorem o9.vU : iO o9.T9.2 o9.B9 = true := by kernel_rfl
abbrev ab2 (w : World) (p : List Int) (d : Nat) (q : Nat) (e : Ending) (w' : World) : Prop := ∃ Ap cp op, e = .returned (.agg #[.slice Ap (p.take d).length cp, .int .i64 (q : Int), .int .i64 0]) ∧ IR w.heap.size (.slice Ap p.length cp) p op ∧ (∀ g, (Value.slice Ap p.length cp).ownBlock = some g → w.heap.size ≤ g ∧ w'.heap[g]? = some op) ∧ Below w.heap.size w w'
theorem O1 (c : ai) (hz : sz c ≤ 1000000) (id ax : Int) (b : Nat) (P : Nat → Prop) (A : Option Addr) (cc : Nat) (w : World) (hv : Kd.V k26 26 w b P (.slice A c.f3.length cc) c.f3) :
  (∀ n, uF ax id c = n → n ≠ 0 → Calls Try.prog 116 #[.agg #[.int .u8 c.f0, .int .i64 c.f1.f0, .int .i64 c.f1.f1, .int .i64 c.f1.f2, .int .i64 c.f1.f3, .int .i64 c.f2, .slice A c.f3.length cc], .int .i64 id, .int .u8 ax] w fun e w' => e = .returned (.agg #[.slice none 0 0, .int .i64 0, .int .i64 n]) ∧ Below w.heap.size w w') ∧
  (∀ p d z q, di c = true → (ax = 1 ∨ ax = 2) → fO id c = some p → Dl ax c p = some d → yT ax c p d z q → Calls Try.prog 116 #[.agg #[.int .u8 c.f0, .int .i64 c.f1.f0, .int .i64 c.f1.f1, .int .i64 c.f1.f2, .int .i64 c.f1.f3, .int .i64 c.f2, .slice A c.f3.length cc], .int .i64 id, .int .u8 ax] w (ab2 w p d q)) := by
 have S := ae.mk (St.start (ts := [(.slice A c.f3.length cc, c.f3)]) (b0 := w.heap.size) (w := w) (P := P) (fun t ht => by rw [List.mem_singleton.1 ht]; exact fK hv))
 have CE := ae.mk (show sz c ≤ 1048576 by omega)
 have HZ := ae.mk hz
 have hpl := fun p (h : fO id c = some p) => (BN id (sz c)).1 c (Nat.le_refl _) p h
 clear hz hv
 obtain ⟨ck, ⟨cx, cy, cw, ch⟩, aU, l⟩ := c
 simp only [] at S ⊢
 constructor
 ·intro n hn hn0
  unfold uF at hn
  cases ht : di ⟨ck, ⟨cx, cy, cw, ch⟩, aU, l⟩ with
  | false =>
   rw [if_neg (fun h => by rw [ht] at h; cases h.1)] at hn
   subst hn
   have HT := ae.mk ht
   clear ht hn0 hpl
   go_enter Try.func116, Try.ntmps116
   go_wp2_with (first | (refine boxS 3 _ 26 S ?_; clear S; intro b3 dF S) | (refine boxS 6 _ 110 S ?_; clear S; intro b6 dV S; obtain ⟨a_, aW, aY, aX, bM, bP, bC⟩ := St.ed S bI) | (refine bH (some 14) Try.func84 S (nH HT.out (xh ⟨ck, ⟨cx, cy, cw, ch⟩, aU, l⟩ CE.out _ _ _ _ _ (S.out.tree _ (.head _)))) ?_; clear S; intro fV S; clear a_ aW aY aX bM bP bC) | (refine gX 110 6 24 #[.slice none 0 0, .int .i64 0, .int .i64 1] 0 3 S ?_; clear S; intro iQ S))
   refine bodyPost_ret (results_cell_row rfl _ _ b6 110 _ (0, 0) _ rfl (S.out.blk _ (.head _) _ rfl) Try.underlying110 rfl (by kernel_rfl)) rfl ?_
   exact ⟨rfl, S.out.below⟩
  | true =>
   have HT := ae.mk ht
   by_cases h1 : ax = 1 ∨ ax = 2
   case neg =>
    rw [if_neg (fun h => h1 h.2)] at hn
    subst hn
    clear ht hn0 hpl
    by_cases h2 : ax < 1
    case pos =>
     obtain ⟨hxa, hxb⟩ := mr (a := ax) (b := 1) (by omega)
     clear h1 h2
     go_enter Try.func116, Try.ntmps116
     go_wp2_with (first | (refine boxS 3 _ 26 S ?_; clear S; intro b3 dF S) | (refine boxS 6 _ 110 S ?_; clear S; intro b6 dV S; obtain ⟨a_, aW, aY, aX, bM, bP, bC⟩ := St.ed S bI) | (refine bH (some 14) Try.func84 S (nH HT.out (xh ⟨ck, ⟨cx, cy, cw, ch⟩, aU, l⟩ CE.out _ _ _ _ _ (S.out.tree _ (.head _)))) ?_; clear S; intro fV S; clear a_ aW aY aX bM bP bC) | (refine gX 110 6 24 #[.slice none 0 0, .int .i64 0, .int .i64 1] 0 3 S ?_; clear S; intro iQ S))
     refine bodyPost_ret (results_cell_row rfl _ _ b6 110 _ (0, 0) _ rfl (S.out.blk _ (.head _) _ rfl) Try.underlying110 rfl (by kernel_rfl)) rfl ?_
     exact ⟨rfl, S.out.below⟩
    case neg =>
     obtain ⟨hxa, hxb⟩ := lG (a := ax) (b := 1) (by omega)
     obtain ⟨hya, hyb⟩ := mr (a := 2) (b := ax) (by omega)
     clear h1 h2
     go_enter Try.func116, Try.ntmps116
     go_wp2_with (first | (refine boxS 3 _ 26 S ?_; clear S; intro b3 dF S) | (refine boxS 6 _ 110 S ?_; clear S; intro b6 dV S; obtain ⟨a_, aW, aY, aX, bM, bP, bC⟩ := St.ed S bI) | (refine bH (some 14) Try.func84 S (nH HT.out (xh ⟨ck, ⟨cx, cy, cw, ch⟩, aU, l⟩ CE.out _ _ _ _ _ (S.out.tree _ (.head _)))) ?_; clear S; intro fV S; clear a_ aW aY aX bM bP bC) | (refine gX 110 6 24 #[.slice none 0 0, .int .i64 0, .int .i64 1] 0 3 S ?_; clear S; intro iQ S))
     refine bodyPost_ret (results_cell_row rfl _ _ b6 110 _ (0, 0) _ rfl (S.out.blk _ (.head _) _ rfl) Try.underlying110 rfl (by kernel_rfl)) rfl ?_
     exact ⟨rfl, S.out.below⟩
   rw [if_pos ⟨ht, h1⟩] at hn
   cases hf : fO id ⟨ck, ⟨cx, cy, cw, ch⟩, aU, l⟩ with
   | none =>
    rw [hf] at hn
    simp only [] at hn
    subst hn
    have CV := ae.mk hf
    clear ht hn0 hpl hf
    obtain ⟨hxa, hxb⟩ := lG (a := ax) (b := 1) (by omega)
    obtain ⟨hya, hyb⟩ := lG (a := 2) (b := ax) (by omega)
    all_goals
     clear h1
     go_enter Try.func116, Try.ntmps116
     go_wp2_with (first | (refine boxS 3 _ 26 S ?_; clear S; intro b3 dF S) | (refine boxS 6 _ 110 S ?_; clear S; intro b6 dV S; obtain ⟨a_, aW, aY, aX, bM, bP, bC⟩ := St.ed S bI) | (refine bH (some 14) Try.func84 S (nH HT.out (xh ⟨ck, ⟨cx, cy, cw, ch⟩, aU, l⟩ CE.out _ _ _ _ _ (S.out.tree _ (.head _)))) ?_; clear S; intro fV S; clear a_ aW aY aX bM bP bC; obtain ⟨a_, aW, aY, aX, bM, bP, bC⟩ := St.ed S bI) | (refine Ey (some 28) Try.func90 S (Xh id ⟨ck, ⟨cx, cy, cw, ch⟩, aU, l⟩ CV.out HZ.out (S.out.tree _ (.head _))) ?_; clear S; intro Ap cp op iQ S iG; clear a_ aW aY aX bM bP bC) | (refine Aw 110 6 33 #[.slice none 0 0, .int .i64 0, .int .i64 6] 0 3 S ?_; clear S; intro mO S))
     refine bodyPost_ret (results_cell_row rfl _ _ b6 110 _ (0, 0) _ rfl (S.out.blk _ bI _ rfl) Try.underlying110 rfl (by kernel_rfl)) rfl ?_
     exact ⟨rfl, S.out.below⟩
   | some p =>
    rw [hf] at hn
    simp only [] at hn
    have uV := ae.mk (show p.length ≤ 1000000 by have := hpl p hf; have := HZ.out; omega)
    have CV := ae.mk hf
    obtain ⟨x, hx, _⟩ := (A_ id _).1 _ (Nat.le_refl _) p hf
    have HX := ae.mk hx
    cases hfr : Dl ax ⟨ck, ⟨cx, cy, cw, ch⟩, aU, l⟩ p with
    | some d => rw [hfr] at hn; exact absurd hn.symm hn0
    | none =>
     rw [hfr] at hn
     simp only [] at hn
     subst hn
     have HR := ae.mk (show nN (qW ax ⟨ck, ⟨cx, cy, cw, ch⟩, aU, l⟩ p) p.length = none from hfr)
     clear ht hn0 hpl hf hx hfr
     obtain ⟨hxa, hxb⟩ := lG (a := ax) (b := 1) (by omega)
     obtain ⟨hya, hyb⟩ := lG (a := 2) (b := ax) (by omega)
     all_goals
      clear h1
      go_enter Try.func116, Try.ntmps116
      go_wp2_with (first | (refine boxS 3 _ 26 S ?_; clear S; intro b3 dF S) | (refine boxS 6 _ 110 S ?_; clear S; intro b6 dV S; obtain ⟨a_, aW, aY, aX, bM, bP, bC⟩ := St.ed S bI) | (refine bH (some 14) Try.func84 S (nH HT.out (xh ⟨ck, ⟨cx, cy, cw, ch⟩, aU, l⟩ CE.out _ _ _ _ _ (S.out.tree _ (.head _)))) ?_; clear S; intro fV S; clear a_ aW aY aX bM bP bC; obtain ⟨a_, aW, aY, aX, bM, bP, bC⟩ := St.ed S bI) | (refine Ey (some 28) Try.func90 S (Hw id ⟨ck, ⟨cx, cy, cw, ch⟩, aU, l⟩ p CV.out HZ.out (S.out.tree _ (.head _))) ?_; clear S; intro Ap cp op iQ S iG; clear a_ aW aY aX bM bP bC))
      go_loopg [9] (p.length + 1) (fun gg v9 wr => ∃ n : Nat, v9 = .int .i64 ((n : Int) - 1) ∧ ae (n ≤ p.length) ∧ n ≤ gg ∧ ae (nN (qW ax ⟨ck, ⟨cx, cy, cw, ch⟩, aU, l⟩ p) n = none) ∧ ae (St w P [((Value.slice Ap p.length cp).ownBlock, op), (some b6, .cells #[.slice none 0 0, .int .i64 0, .int .i64 0] 110 (0, 0)), (some b3, .cells #[.int .u8 ck, .int .i64 cx, .int .i64 cy, .int .i64 cw, .int .i64 ch, .int .i64 aU, .slice A l.length cc] 26 (0, 0))] [] [(.slice A l.length cc, l)] [] wr))
      case atStart => exact ⟨p.length, (by have := uV.out; congr 1; unfold wrap64; omega), ⟨Nat.le_refl _⟩, Nat.le_succ _, HR, S⟩
      case round =>
       clear S HR
       obtain ⟨n, rfl, HN, hgg, HR, S⟩ := hrel
       cases n with
       | zero =>
        go_wp2_with ((refine Aw 110 6 70 #[.slice none 0 0, .int .i64 0, .int .i64 10] 0 3 S ?_; clear S; intro dF S))
        refine bodyPost_ret (results_cell_row rfl _ _ b6 110 _ (0, 0) _ rfl (S.out.blk _ bI _ rfl) Try.underlying110 rfl (by kernel_rfl)) rfl ?_
        exact ⟨rfl, S.out.below⟩
       | succ n =>
        have e1 : (((n + 1 : Nat) : Int) - 1) = (n : Int) := by omega
        rw [e1]
        have lK := ae.mk (show n < p.length from HN.out)
        have fF := ae.mk hgg
        have hw : wrap64 ((n : Int) - 1) = (n : Int) - 1 := by have := HN.out; have := uV.out; unfold wrap64; omega
        have HW := ae.mk hw
        have h0 : decide ((n : Int) ≥ 0) = true := decide_eq_true (Int.natCast_nonneg _)
        have wO : (0 : Int) ≤ (n : Int) := Int.natCast_nonneg _
        obtain ⟨z, qC, hi0, hi1⟩ := Dc p ⟨ck, ⟨cx, cy, cw, ch⟩, aU, l⟩ _ HX.out n lK.out
        obtain ⟨pq, hpq⟩ : ∃ pq, pq = p.take n := ⟨_, rfl⟩
        have hal : qW ax ⟨ck, ⟨cx, cy, cw, ch⟩, aU, l⟩ p n = fC ax z.f0 := by unfold qW; rw [qC]
        rw [← hpq] at qC
        have HAT := ae.mk qC
        have jl := ae.mk (And.intro hpq (Nat.le_of_lt lK.out))
        have hcut : ∀ W : World, (Instr.slice 41 (.slice Ap p.length cp) none (some (.int .i64 (n : Int))) none).run Try.prog W = .ok (.slice Ap pq.length cp) W := by
         intro W
         obtain ⟨i0, hi0, _, hsz, _⟩ := info_parts info3
         have h := GN (P := Try.prog) 41 3 .i64 Try.underlying41 hi0 Ap p.length cp (n : Int) (Int.natCast_nonneg _) (by have := lK.out; omega) (Fh iG.out S.out (.head _)).2 W
         rw [Int.toNat_natCast, show n = pq.length by rw [hpq, List.length_take]; have := lK.out; omega] at h
         rw [show n = pq.length by rw [hpq, List.length_take]; have := lK.out; omega]
         exact h
        have HI0 := ae.mk hi0
        have HI1 := ae.mk hi1
        have hr := HR.out
        rw [nN, hal] at hr
        clear hw hgg e1 hal hpq qC hi0 hi1
        cases ha : fC ax z.f0 with
        | false =>
         rw [ha, if_neg (by simp)] at hr
         replace HR := ae.mk hr
         have HA := ae.mk ha
         clear hr ha
         go_wp2
         refine iU (n := 11) (S := fun w' => St w _ _ _ _ _ w') (ds := [9]) (bA 11 0) (by kernel_rfl) rfl rfl (S.out.call (bJ (Below.refl _ _))) (fun hHeld => ?_); refine eU o9.zK o9.vU (fun aj dY => ?_)
         replace S := ae.mk (S.out.call (bJ (Below.refl _ _)))
         generalize wr.drew = CS at S hHeld ⊢
         refine dN 0 42 (bA 11 1) aj dY hHeld ?_ (hv := by intro w' hs_; have a_ := (hs_.at dQ 0).trans rfl; have aW := (hs_.at dQ 1).trans rfl; have aY := (hs_.at dQ 2).trans rfl; have aX := (hs_.at dQ 3).trans rfl; have bM := (hs_.at dQ 4).trans rfl; have bP := (hs_.at dQ 5).trans rfl; have bC := (hs_.at dQ 6).trans rfl; go_simp; with_reducible rfl)
         refine ay 1 43 (bA 11 3) aj ?_
         refine ay 2 44 (bA 11 7) aj ?_
         refine ay 3 45 (bA 11 15) aj ?_
         refine zX (σ := Option Addr × Nat × Nat) 2 (bA 11 511) (fun s_ => [(46, .tuple #[.agg #[.int .u8 z.f0, .int .i64 z.f1.f0, .int .i64 z.f1.f1, .int .i64 z.f1.f2, .int .i64 z.f1.f3, .int .i64 z.f2, .slice s_.1 z.f3.length s_.2.1], .bool true]), (41, .tuple #[.agg #[.int .u8 z.f0, .int .i64 z.f1.f0, .int .i64 z.f1.f1, .int .i64 z.f1.f2, .int .i64 z.f1.f3, .int .i64 z.f2, .slice s_.1 z.f3.length s_.2.1], .bool true]), (47, .agg #[.int .u8 z.f0, .int .i64 z.f1.f0, .int .i64 z.f1.f1, .int .i64 z.f1.f2, .int .i64 z.f1.f3, .int .i64 z.f2, .slice s_.1 z.f3.length s_.2.1]), (48, .bool true), (10, .pointer (some ⟨s_.2.2, 0, none⟩))]) (fun s_ w' => St w P [(some s_.2.2, .cells #[.int .u8 0, .int .i64 0, .int .i64 0, .int .i64 0, .int .i64 0, .int .i64 0, .slice none 0 0] 26 (0, 0)), ((Value.slice Ap p.length cp).ownBlock, op), (some b6, .cells #[.slice none 0 0, .int .i64 0, .int .i64 0] 110 (0, 0)), (some b3, .cells #[.int .u8 ck, .int .i64 cx, .int .i64 cy, .int .i64 cw, .int .i64 ch, .int .i64 aU, .slice A l.length cc] 26 (0, 0))] [] [(.slice s_.1 z.f3.length s_.2.1, z.f3), (.slice A l.length cc, l)] [] w') ?_ ?_
         rotate_left
         ·intro kS
          refine Eg (i := 4) (j := 8) (Ni := some 46) (Nj := some 10) (bA 11 31) (bA 11 271) rfl rfl rfl rfl (yg aj.out (by kernel_rfl)) (by decide) (by decide) (fun K hK => ?_) (fun K hK => ?_)
          ·skip
           refine jD Try.func92 (by kernel_rfl) rfl #[.agg #[.int .u8 ck, .int .i64 cx, .int .i64 cy, .int .i64 cw, .int .i64 ch, .int .i64 aU, .slice A l.length cc], .slice Ap pq.length cp] (by rfl) rfl rfl (by (try simp only [List.map_toArray, List.map_cons, List.map_nil]); rfl) ?_
           refine (yP ⟨ck, ⟨cx, cy, cw, ch⟩, aU, l⟩ pq z HAT.out (S.out.tree _ (.head _)) (eQ iG.out S.out (.head _) jl.out).1 (eQ iG.out S.out (.head _) jl.out).2).mono ?_
           rintro e dV ⟨Az, cz, rfl, h1, hb⟩
           refine ⟨_, rfl, ?_⟩
           replace S := ae.mk (S.out.res h1 hb)
           clear h1 hb
           refine hK.out _ _ S.out.dE (fun hHeld => ?_)
           clear hK K
           refine d_ 46 ?_
           refine ay 5 41 (bA 11 63) aj ?_
           refine ay 6 47 (bA 11 127) aj ?_
           refine ay 7 48 (bA 11 255) aj ?_
           refine jH 8 (some 10) (bA 11 511) aj (fun K hK => ?_)
           refine jF ?hg (N := 10) ?hd (cs := #[.int .u8 0, .int .i64 0, .int .i64 0, .int .i64 0, .int .i64 0, .int .i64 0, .slice none 0 0]) (t := 26) ?hr ?_; (case hd => rfl); (case hg => rfl); (case hr => (go_simp; done))
           intro b10 hg fV hbox hb
           replace S := ae.mk (S.out.box hg hbox hb)
           clear hg hbox hb
           refine hK.out _ _ S.out.dP.dE (fun hHeld => ?_)
           clear hK K
           refine d_ 10 ?_
           exact l_ (by simp only [iL, Act.put, List.setIfInBounds_toArray, List.set_cons_zero, List.set_cons_succ] <;> rfl) (kS (Az, cz, b10) _ S.out)
          ·skip
           refine jF ?hg (N := 10) ?hd (cs := #[.int .u8 0, .int .i64 0, .int .i64 0, .int .i64 0, .int .i64 0, .int .i64 0, .slice none 0 0]) (t := 26) ?hr ?_; (case hd => rfl); (case hg => rfl); (case hr => (go_simp; done))
           intro b10 hg iQ hbox hb
           replace S := ae.mk (S.out.box hg hbox hb)
           clear hg hbox hb
           refine hK.out _ _ S.out.dP (fun hHeld => ?_)
           clear hK K
           refine d_ 10 ?_
           refine jH 4 (some 46) (bA 11 287) aj (fun K hK => ?_)
           refine jD Try.func92 (by kernel_rfl) rfl #[.agg #[.int .u8 ck, .int .i64 cx, .int .i64 cy, .int .i64 cw, .int .i64 ch, .int .i64 aU, .slice A l.length cc], .slice Ap pq.length cp] (by rfl) rfl rfl (by (try simp only [List.map_toArray, List.map_cons, List.map_nil]); rfl) ?_
           refine (yP ⟨ck, ⟨cx, cy, cw, ch⟩, aU, l⟩ pq z HAT.out (S.out.tree _ (.head _)) (eQ iG.out S.out bI jl.out).1 (eQ iG.out S.out bI jl.out).2).mono ?_
           rintro e mO ⟨Az, cz, rfl, h1, hb⟩
           refine ⟨_, rfl, ?_⟩
           replace S := ae.mk (S.out.res h1 hb)
           clear h1 hb
           refine hK.out _ _ S.out.dP.dE (fun hHeld => ?_)
           clear hK K
           refine d_ 46 ?_
           refine ay 5 41 (bA 11 319) aj ?_
           refine ay 6 47 (bA 11 383) aj ?_
           refine ay 7 48 (bA 11 511) aj ?_
           exact l_ (by simp only [iL, Act.put, List.setIfInBounds_toArray, List.set_cons_zero, List.set_cons_succ] <;> rfl) (kS (Az, cz, b10) _ S.out)
         rintro ⟨Az, cz, b10⟩ PX S1
         simp only [iL, Act.put, List.setIfInBounds_toArray, List.set_cons_zero, List.set_cons_succ]
         replace S := ae.mk S1
         clear S1 hHeld
         have hHeld := S.out.dP.dE
         refine oP 9 none (bA 11 1023) aj (fun K hK => ?_)
         refine oD 0 rfl 26 (.tmp 10) (.tmp 47) rfl #[.int .u8 z.f0, .int .i64 z.f1.f0, .int .i64 z.f1.f1, .int .i64 z.f1.f2, .int .i64 z.f1.f3, .int .i64 z.f2, .slice Az z.f3.length cz] (j := 0) (u := .agg #[.int .u8 z.f0, .int .i64 z.f1.f0, .int .i64 z.f1.f1, .int .i64 z.f1.f2, .int .i64 z.f1.f3, .int .i64 z.f2, .slice Az z.f3.length cz]) (bK := [.int .u8 z.f0, .int .i64 z.f1.f0, .int .i64 z.f1.f1, .int .i64 z.f1.f2, .int .i64 z.f1.f3, .int .i64 z.f2, .slice Az z.f3.length cz]) S.out (by rfl) rfl rfl rfl rfl (by kernel_rfl) (by simp [Value.oneCell']) (by simp) rfl ?_
         intro yH S1
         simp only [List.set_cons_zero, List.set_cons_succ] at S1
         replace S := ae.mk S1
         clear S1
         refine hK.out _ _ ?_
         clear hK K
         refine ay 10 11 (bA 11 2047) aj ?_
         refine jJ (gK aj.out (by kernel_rfl)) ?_
         clear hHeld
         obtain ⟨zf, zg, zh, zi, zk, zl, rX⟩ := St.ed S (.head _)
         go_wp2_with ((refine bH (some 51) Try.func88 S (sN (c := z) HA.out (S.out.tree _ (.head _))) ?_; clear S; intro zL S; clear zf zg zh zi zk zl rX))
         have hw := HW.out
         go_wp2
         go_roundg n
         case measure => exact Nat.lt_of_lt_of_le (Nat.lt_succ_self _) fF.out
         case rel => exact ⟨n, (by rw [hw]), ⟨by have := HN.out; omega⟩, Nat.le_refl _, HR, ⟨S.out.dE.dP.vk.vk.vk⟩⟩
        | true =>
         rw [ha, if_pos rfl] at hr
         cases hr
 ·intro p d z q ht h1 hf hfr hF
  have uV := ae.mk (show p.length ≤ 1000000 by have := hpl p hf; have := HZ.out; omega)
  have CV := ae.mk hf
  obtain ⟨x, hx, _⟩ := (A_ id _).1 _ (Nat.le_refl _) p hf
  have HX := ae.mk hx
  have HT := ae.mk ht
  have wK := ae.mk hF
  have wL := ae.mk (show z.f3.length ≤ 1000000 by have h2 := Ic _ _ _ hF.at'; have h3 := cO z; have h4 := ik z.f3; have := HZ.out; omega)
  have HR := ae.mk (show nN (qW ax ⟨ck, ⟨cx, cy, cw, ch⟩, aU, l⟩ p) p.length = some d from hfr)
  clear ht hpl hf hx hfr hF
  obtain ⟨hxa, hxb⟩ := lG (a := ax) (b := 1) (by omega)
  obtain ⟨hya, hyb⟩ := lG (a := 2) (b := ax) (by omega)
  all_goals
   clear h1
   go_enter Try.func116, Try.ntmps116
   go_wp2_with (first | (refine boxS 3 _ 26 S ?_; clear S; intro b3 dF S) | (refine boxS 6 _ 110 S ?_; clear S; intro b6 dV S; obtain ⟨a_, aW, aY, aX, bM, bP, bC⟩ := St.ed S bI) | (refine bH (some 14) Try.func84 S (nH HT.out (xh ⟨ck, ⟨cx, cy, cw, ch⟩, aU, l⟩ CE.out _ _ _ _ _ (S.out.tree _ (.head _)))) ?_; clear S; intro fV S; clear a_ aW aY aX bM bP bC; obtain ⟨a_, aW, aY, aX, bM, bP, bC⟩ := St.ed S bI) | (refine Ey (some 28) Try.func90 S (Hw id ⟨ck, ⟨cx, cy, cw, ch⟩, aU, l⟩ p CV.out HZ.out (S.out.tree _ (.head _))) ?_; clear S; intro Ap cp op iQ S iG; clear a_ aW aY aX bM bP bC))
   go_loopg [9] (p.length + 1) (fun gg v9 wr => ∃ n : Nat, v9 = .int .i64 ((n : Int) - 1) ∧ ae (n ≤ p.length) ∧ n ≤ gg ∧ ae (nN (qW ax ⟨ck, ⟨cx, cy, cw, ch⟩, aU, l⟩ p) n = some d) ∧ ae (St w P [((Value.slice Ap p.length cp).ownBlock, op), (some b6, .cells #[.slice none 0 0, .int .i64 0, .int .i64 0] 110 (0, 0)), (some b3, .cells #[.int .u8 ck, .int .i64 cx, .int .i64 cy, .int .i64 cw, .int .i64 ch, .int .i64 aU, .slice A l.length cc] 26 (0, 0))] [] [(.slice A l.length cc, l)] [] wr))
   case atStart => exact ⟨p.length, (by have := uV.out; congr 1; unfold wrap64; omega), ⟨Nat.le_refl _⟩, Nat.le_succ _, HR, S⟩
   case round =>
    clear S HR
    obtain ⟨n, rfl, HN, hgg, HR, S⟩ := hrel
    cases n with
    | zero =>
     have h := HR.out
     cases h
    | succ n =>
     have e1 : (((n + 1 : Nat) : Int) - 1) = (n : Int) := by omega
     rw [e1]
     have lK := ae.mk (show n < p.length from HN.out)
     have fF := ae.mk hgg
     have hw : wrap64 ((n : Int) - 1) = (n : Int) - 1 := by have := HN.out; have := uV.out; unfold wrap64; omega
     have HW := ae.mk hw
     have h0 : decide ((n : Int) ≥ 0) = true := decide_eq_true (Int.natCast_nonneg _)
     have wO : (0 : Int) ≤ (n : Int) := Int.natCast_nonneg _
     obtain ⟨z, qC, hi0, hi1⟩ := Dc p ⟨ck, ⟨cx, cy, cw, ch⟩, aU, l⟩ _ HX.out n lK.out
     obtain ⟨pq, hpq⟩ : ∃ pq, pq = p.take n := ⟨_, rfl⟩
     have hal : qW ax ⟨ck, ⟨cx, cy, cw, ch⟩, aU, l⟩ p n = fC ax z.f0 := by unfold qW; rw [qC]
     rw [← hpq] at qC
     have HAT := ae.mk qC
     have jl := ae.mk (And.intro hpq (Nat.le_of_lt lK.out))
     have hcut : ∀ W : World, (Instr.slice 41 (.slice Ap p.length cp) none (some (.int .i64 (n : Int))) none).run Try.prog W = .ok (.slice Ap pq.length cp) W := by
      intro W
      obtain ⟨i0, hi0, _, hsz, _⟩ := info_parts info3
      have h := GN (P := Try.prog) 41 3 .i64 Try.underlying41 hi0 Ap p.length cp (n : Int) (Int.natCast_nonneg _) (by have := lK.out; omega) (Fh iG.out S.out (.head _)).2 W
      rw [Int.toNat_natCast, show n = pq.length by rw [hpq, List.length_take]; have := lK.out; omega] at h
      rw [show n = pq.length by rw [hpq, List.length_take]; have := lK.out; omega]
      exact h
     have HI0 := ae.mk hi0
     have HI1 := ae.mk hi1
     have hr := HR.out
     rw [nN, hal] at hr
     clear hw hgg e1 hal hpq qC hi0 hi1
     cases ha : fC ax z.f0 with
     | false =>
      rw [ha, if_neg (by simp)] at hr
      replace HR := ae.mk hr
      have HA := ae.mk ha
      clear hr ha
      go_wp2
      refine iU (n := 11) (S := fun w' => St w _ _ _ _ _ w') (ds := [9]) (bA 11 0) (by kernel_rfl) rfl rfl (S.out.call (bJ (Below.refl _ _))) (fun hHeld => ?_); refine eU o9.zK o9.vU (fun aj dY => ?_)
      replace S := ae.mk (S.out.call (bJ (Below.refl _ _)))
      generalize wr.drew = CS at S hHeld ⊢
      refine dN 0 42 (bA 11 1) aj dY hHeld ?_ (hv := by intro w' hs_; have a_ := (hs_.at dQ 0).trans rfl; have aW := (hs_.at dQ 1).trans rfl; have aY := (hs_.at dQ 2).trans rfl; have aX := (hs_.at dQ 3).trans rfl; have bM := (hs_.at dQ 4).trans rfl; have bP := (hs_.at dQ 5).trans rfl; have bC := (hs_.at dQ 6).trans rfl; go_simp; with_reducible rfl)
      refine ay 1 43 (bA 11 3) aj ?_
      refine ay 2 44 (bA 11 7) aj ?_
      refine ay 3 45 (bA 11 15) aj ?_
      refine zX (σ := Option Addr × Nat × Nat) 2 (bA 11 511) (fun s_ => [(46, .tuple #[.agg #[.int .u8 z.f0, .int .i64 z.f1.f0, .int .i64 z.f1.f1, .int .i64 z.f1.f2, .int .i64 z.f1.f3, .int .i64 z.f2, .slice s_.1 z.f3.length s_.2.1], .bool true]), (41, .tuple #[.agg #[.int .u8 z.f0, .int .i64 z.f1.f0, .int .i64 z.f1.f1, .int .i64 z.f1.f2, .int .i64 z.f1.f3, .int .i64 z.f2, .slice s_.1 z.f3.length s_.2.1], .bool true]), (47, .agg #[.int .u8 z.f0, .int .i64 z.f1.f0, .int .i64 z.f1.f1, .int .i64 z.f1.f2, .int .i64 z.f1.f3, .int .i64 z.f2, .slice s_.1 z.f3.length s_.2.1]), (48, .bool true), (10, .pointer (some ⟨s_.2.2, 0, none⟩))]) (fun s_ w' => St w P [(some s_.2.2, .cells #[.int .u8 0, .int .i64 0, .int .i64 0, .int .i64 0, .int .i64 0, .int .i64 0, .slice none 0 0] 26 (0, 0)), ((Value.slice Ap p.length cp).ownBlock, op), (some b6, .cells #[.slice none 0 0, .int .i64 0, .int .i64 0] 110 (0, 0)), (some b3, .cells #[.int .u8 ck, .int .i64 cx, .int .i64 cy, .int .i64 cw, .int .i64 ch, .int .i64 aU, .slice A l.length cc] 26 (0, 0))] [] [(.slice s_.1 z.f3.length s_.2.1, z.f3), (.slice A l.length cc, l)] [] w') ?_ ?_
      rotate_left
      ·intro kS
       refine Eg (i := 4) (j := 8) (Ni := some 46) (Nj := some 10) (bA 11 31) (bA 11 271) rfl rfl rfl rfl (yg aj.out (by kernel_rfl)) (by decide) (by decide) (fun K hK => ?_) (fun K hK => ?_)
       ·skip
        refine jD Try.func92 (by kernel_rfl) rfl #[.agg #[.int .u8 ck, .int .i64 cx, .int .i64 cy, .int .i64 cw, .int .i64 ch, .int .i64 aU, .slice A l.length cc], .slice Ap pq.length cp] (by rfl) rfl rfl (by (try simp only [List.map_toArray, List.map_cons, List.map_nil]); rfl) ?_
        refine (yP ⟨ck, ⟨cx, cy, cw, ch⟩, aU, l⟩ pq z HAT.out (S.out.tree _ (.head _)) (eQ iG.out S.out (.head _) jl.out).1 (eQ iG.out S.out (.head _) jl.out).2).mono ?_
        rintro e dV ⟨Az, cz, rfl, h1, hb⟩
        refine ⟨_, rfl, ?_⟩
        replace S := ae.mk (S.out.res h1 hb)
        clear h1 hb
        refine hK.out _ _ S.out.dE (fun hHeld => ?_)
        clear hK K
        refine d_ 46 ?_
        refine ay 5 41 (bA 11 63) aj ?_
        refine ay 6 47 (bA 11 127) aj ?_
        refine ay 7 48 (bA 11 255) aj ?_
        refine jH 8 (some 10) (bA 11 511) aj (fun K hK => ?_)
        refine jF ?hg (N := 10) ?hd (cs := #[.int .u8 0, .int .i64 0, .int .i64 0, .int .i64 0, .int .i64 0, .int .i64 0, .slice none 0 0]) (t := 26) ?hr ?_; (case hd => rfl); (case hg => rfl); (case hr => (go_simp; done))
        intro b10 hg fV hbox hb
        replace S := ae.mk (S.out.box hg hbox hb)
        clear hg hbox hb
        refine hK.out _ _ S.out.dP.dE (fun hHeld => ?_)
        clear hK K
        refine d_ 10 ?_
        exact l_ (by simp only [iL, Act.put, List.setIfInBounds_toArray, List.set_cons_zero, List.set_cons_succ] <;> rfl) (kS (Az, cz, b10) _ S.out)
       ·skip
        refine jF ?hg (N := 10) ?hd (cs := #[.int .u8 0, .int .i64 0, .int .i64 0, .int .i64 0, .int .i64 0, .int .i64 0, .slice none 0 0]) (t := 26) ?hr ?_; (case hd => rfl); (case hg => rfl); (case hr => (go_simp; done))
        intro b10 hg iQ hbox hb
        replace S := ae.mk (S.out.box hg hbox hb)
        clear hg hbox hb
        refine hK.out _ _ S.out.dP (fun hHeld => ?_)
        clear hK K
        refine d_ 10 ?_
        refine jH 4 (some 46) (bA 11 287) aj (fun K hK => ?_)
        refine jD Try.func92 (by kernel_rfl) rfl #[.agg #[.int .u8 ck, .int .i64 cx, .int .i64 cy, .int .i64 cw, .int .i64 ch, .int .i64 aU, .slice A l.length cc], .slice Ap pq.length cp] (by rfl) rfl rfl (by (try simp only [List.map_toArray, List.map_cons, List.map_nil]); rfl) ?_
        refine (yP ⟨ck, ⟨cx, cy, cw, ch⟩, aU, l⟩ pq z HAT.out (S.out.tree _ (.head _)) (eQ iG.out S.out bI jl.out).1 (eQ iG.out S.out bI jl.out).2).mono ?_
        rintro e mO ⟨Az, cz, rfl, h1, hb⟩
        refine ⟨_, rfl, ?_⟩
        replace S := ae.mk (S.out.res h1 hb)
        clear h1 hb
        refine hK.out _ _ S.out.dP.dE (fun hHeld => ?_)
        clear hK K
        refine d_ 46 ?_
        refine ay 5 41 (bA 11 319) aj ?_
        refine ay 6 47 (bA 11 383) aj ?_
        refine ay 7 48 (bA 11 511) aj ?_
        exact l_ (by simp only [iL, Act.put, List.setIfInBounds_toArray, List.set_cons_zero, List.set_cons_succ] <;> rfl) (kS (Az, cz, b10) _ S.out)
      rintro ⟨Az, cz, b10⟩ PX S1
      simp only [iL, Act.put, List.setIfInBounds_toArray, List.set_cons_zero, List.set_cons_succ]
      replace S := ae.mk S1
      clear S1 hHeld
      have hHeld := S.out.dP.dE
      refine oP 9 none (bA 11 1023) aj (fun K hK => ?_)
      refine oD 0 rfl 26 (.tmp 10) (.tmp 47) rfl #[.int .u8 z.f0, .int .i64 z.f1.f0, .int .i64 z.f1.f1, .int .i64 z.f1.f2, .int .i64 z.f1.f3, .int .i64 z.f2, .slice Az z.f3.length cz] (j := 0) (u := .agg #[.int .u8 z.f0, .int .i64 z.f1.f0, .int .i64 z.f1.f1, .int .i64 z.f1.f2, .int .i64 z.f1.f3, .int .i64 z.f2, .slice Az z.f3.length cz]) (bK := [.int .u8 z.f0, .int .i64 z.f1.f0, .int .i64 z.f1.f1, .int .i64 z.f1.f2, .int .i64 z.f1.f3, .int .i64 z.f2, .slice Az z.f3.length cz]) S.out (by rfl) rfl rfl rfl rfl (by kernel_rfl) (by simp [Value.oneCell']) (by simp) rfl ?_
      intro yH S1
      simp only [List.set_cons_zero, List.set_cons_succ] at S1
      replace S := ae.mk S1
      clear S1
      refine hK.out _ _ ?_
      clear hK K
      refine ay 10 11 (bA 11 2047) aj ?_
      refine jJ (gK aj.out (by kernel_rfl)) ?_
      clear hHeld
      obtain ⟨zf, zg, zh, zi, zk, zl, rX⟩ := St.ed S (.head _)
      go_wp2_with ((refine bH (some 51) Try.func88 S (sN (c := z) HA.out (S.out.tree _ (.head _))) ?_; clear S; intro zL S; clear zf zg zh zi zk zl rX))
      have hw := HW.out
      go_wp2
      go_roundg n
      case measure => exact Nat.lt_of_lt_of_le (Nat.lt_succ_self _) fF.out
      case rel => exact ⟨n, (by rw [hw]), ⟨by have := HN.out; omega⟩, Nat.le_refl _, HR, ⟨S.out.dE.dP.vk.vk.vk⟩⟩
     | true =>
      rw [ha, if_pos rfl] at hr
      injection hr with hr
      subst hr
      have hzz := HAT.out
      rw [jl.out.1, wK.out.at'] at hzz
      injection hzz with hzz
      subst hzz
      have HA := ae.mk ha
      clear ha
      obtain ⟨yF, ek, _⟩ := Kd.iR (Fh iG.out S.out (.head _)).1 (n : Int) (Int.natCast_nonneg _) (by have := lK.out; omega)
      subst ek
      have Qe := ae.mk (show (n : Int) < (p.length : Int) by have := lK.out; omega)
      have hnn : n < p.length := lK.out
      have hw2 : wrap64 ((z.f3.length : Int) - 1) = (z.f3.length : Int) - 1 := by have := wK.out.len; have := wL.out; unfold wrap64; omega
      have HW3 := ae.mk (show wrap64 (rd p (n : Int) - 1) = rd p (n : Int) - 1 by have := HI0.out; have := HI1.out; have := wL.out; unfold wrap64; omega)
      by_cases hq : rd p (n : Int) = (z.f3.length : Int) - 1
      case pos =>
       obtain ⟨hqa, GZ, NG⟩ := wM (a := rd p (n : Int)) (b := (z.f3.length : Int) - 1) (by omega)
       have HQV := ae.mk (show rd p (n : Int) - 1 = (q : Int) by have h := wK.out.hq; have := HI1.out; have := wK.out.len; rw [h]; unfold mn; split <;> omega)
       clear hq
       go_wp2
       refine iU (n := 11) (S := fun w' => St w _ _ _ _ _ w') (ds := [9]) (bA 11 0) (by kernel_rfl) rfl rfl (S.out.call (bJ (Below.refl _ _))) (fun hHeld => ?_); refine eU o9.zK o9.vU (fun aj dY => ?_)
       replace S := ae.mk (S.out.call (bJ (Below.refl _ _)))
       generalize wr.drew = CS at S hHeld ⊢
       refine dN 0 42 (bA 11 1) aj dY hHeld ?_ (hv := by intro w' hs_; have a_ := (hs_.at dQ 0).trans rfl; have aW := (hs_.at dQ 1).trans rfl; have aY := (hs_.at dQ 2).trans rfl; have aX := (hs_.at dQ 3).trans rfl; have bM := (hs_.at dQ 4).trans rfl; have bP := (hs_.at dQ 5).trans rfl; have bC := (hs_.at dQ 6).trans rfl; go_simp; with_reducible rfl)
       refine ay 1 43 (bA 11 3) aj ?_
       refine ay 2 44 (bA 11 7) aj ?_
       refine ay 3 45 (bA 11 15) aj ?_
       refine zX (σ := Option Addr × Nat × Nat) 2 (bA 11 511) (fun s_ => [(46, .tuple #[.agg #[.int .u8 z.f0, .int .i64 z.f1.f0, .int .i64 z.f1.f1, .int .i64 z.f1.f2, .int .i64 z.f1.f3, .int .i64 z.f2, .slice s_.1 z.f3.length s_.2.1], .bool true]), (41, .tuple #[.agg #[.int .u8 z.f0, .int .i64 z.f1.f0, .int .i64 z.f1.f1, .int .i64 z.f1.f2, .int .i64 z.f1.f3, .int .i64 z.f2, .slice s_.1 z.f3.length s_.2.1], .bool true]), (47, .agg #[.int .u8 z.f0, .int .i64 z.f1.f0, .int .i64 z.f1.f1, .int .i64 z.f1.f2, .int .i64 z.f1.f3, .int .i64 z.f2, .slice s_.1 z.f3.length s_.2.1]), (48, .bool true), (10, .pointer (some ⟨s_.2.2, 0, none⟩))]) (fun s_ w' => St w P [(some s_.2.2, .cells #[.int .u8 0, .int .i64 0, .int .i64 0, .int .i64 0, .int .i64 0, .int .i64 0, .slice none 0 0] 26 (0, 0)), ((Value.slice (some yF) p.length cp).ownBlock, op), (some b6, .cells #[.slice none 0 0, .int .i64 0, .int .i64 0] 110 (0, 0)), (some b3, .cells #[.int .u8 ck, .int .i64 cx, .int .i64 cy, .int .i64 cw, .int .i64 ch, .int .i64 aU, .slice A l.length cc] 26 (0, 0))] [] [(.slice s_.1 z.f3.length s_.2.1, z.f3), (.slice A l.length cc, l)] [] w') ?_ ?_
       rotate_left
       ·intro kS
        refine Eg (i := 4) (j := 8) (Ni := some 46) (Nj := some 10) (bA 11 31) (bA 11 271) rfl rfl rfl rfl (yg aj.out (by kernel_rfl)) (by decide) (by decide) (fun K hK => ?_) (fun K hK => ?_)
        ·skip
         refine jD Try.func92 (by kernel_rfl) rfl #[.agg #[.int .u8 ck, .int .i64 cx, .int .i64 cy, .int .i64 cw, .int .i64 ch, .int .i64 aU, .slice A l.length cc], .slice (some yF) pq.length cp] (by rfl) rfl rfl (by (try simp only [List.map_toArray, List.map_cons, List.map_nil]); rfl) ?_
         refine (yP ⟨ck, ⟨cx, cy, cw, ch⟩, aU, l⟩ pq z HAT.out (S.out.tree _ (.head _)) (eQ iG.out S.out (.head _) jl.out).1 (eQ iG.out S.out (.head _) jl.out).2).mono ?_
         rintro e dV ⟨Az, cz, rfl, h1, hb⟩
         refine ⟨_, rfl, ?_⟩
         replace S := ae.mk (S.out.res h1 hb)
         clear h1 hb
         refine hK.out _ _ S.out.dE (fun hHeld => ?_)
         clear hK K
         refine d_ 46 ?_
         refine ay 5 41 (bA 11 63) aj ?_
         refine ay 6 47 (bA 11 127) aj ?_
         refine ay 7 48 (bA 11 255) aj ?_
         refine jH 8 (some 10) (bA 11 511) aj (fun K hK => ?_)
         refine jF ?hg (N := 10) ?hd (cs := #[.int .u8 0, .int .i64 0, .int .i64 0, .int .i64 0, .int .i64 0, .int .i64 0, .slice none 0 0]) (t := 26) ?hr ?_; (case hd => rfl); (case hg => rfl); (case hr => (go_simp; done))
         intro b10 hg fV hbox hb
         replace S := ae.mk (S.out.box hg hbox hb)
         clear hg hbox hb
         refine hK.out _ _ S.out.dP.dE (fun hHeld => ?_)
         clear hK K
         refine d_ 10 ?_
         exact l_ (by simp only [iL, Act.put, List.setIfInBounds_toArray, List.set_cons_zero, List.set_cons_succ] <;> rfl) (kS (Az, cz, b10) _ S.out)
        ·skip
         refine jF ?hg (N := 10) ?hd (cs := #[.int .u8 0, .int .i64 0, .int .i64 0, .int .i64 0, .int .i64 0, .int .i64 0, .slice none 0 0]) (t := 26) ?hr ?_; (case hd => rfl); (case hg => rfl); (case hr => (go_simp; done))
         intro b10 hg iQ hbox hb
         replace S := ae.mk (S.out.box hg hbox hb)
         clear hg hbox hb
         refine hK.out _ _ S.out.dP (fun hHeld => ?_)
         clear hK K
         refine d_ 10 ?_
         refine jH 4 (some 46) (bA 11 287) aj (fun K hK => ?_)
         refine jD Try.func92 (by kernel_rfl) rfl #[.agg #[.int .u8 ck, .int .i64 cx, .int .i64 cy, .int .i64 cw, .int .i64 ch, .int .i64 aU, .slice A l.length cc], .slice (some yF) pq.length cp] (by rfl) rfl rfl (by (try simp only [List.map_toArray, List.map_cons, List.map_nil]); rfl) ?_
         refine (yP ⟨ck, ⟨cx, cy, cw, ch⟩, aU, l⟩ pq z HAT.out (S.out.tree _ (.head _)) (eQ iG.out S.out bI jl.out).1 (eQ iG.out S.out bI jl.out).2).mono ?_
         rintro e mO ⟨Az, cz, rfl, h1, hb⟩
         refine ⟨_, rfl, ?_⟩
         replace S := ae.mk (S.out.res h1 hb)
         clear h1 hb
         refine hK.out _ _ S.out.dP.dE (fun hHeld => ?_)
         clear hK K
         refine d_ 46 ?_
         refine ay 5 41 (bA 11 319) aj ?_
         refine ay 6 47 (bA 11 383) aj ?_
         refine ay 7 48 (bA 11 511) aj ?_
         exact l_ (by simp only [iL, Act.put, List.setIfInBounds_toArray, List.set_cons_zero, List.set_cons_succ] <;> rfl) (kS (Az, cz, b10) _ S.out)
       rintro ⟨Az, cz, b10⟩ PX S1
       simp only [iL, Act.put, List.setIfInBounds_toArray, List.set_cons_zero, List.set_cons_succ]
       replace S := ae.mk S1
       clear S1 hHeld
       have hHeld := S.out.dP.dE
       refine oP 9 none (bA 11 1023) aj (fun K hK => ?_)
       refine oD 0 rfl 26 (.tmp 10) (.tmp 47) rfl #[.int .u8 z.f0, .int .i64 z.f1.f0, .int .i64 z.f1.f1, .int .i64 z.f1.f2, .int .i64 z.f1.f3, .int .i64 z.f2, .slice Az z.f3.length cz] (j := 0) (u := .agg #[.int .u8 z.f0, .int .i64 z.f1.f0, .int .i64 z.f1.f1, .int .i64 z.f1.f2, .int .i64 z.f1.f3, .int .i64 z.f2, .slice Az z.f3.length cz]) (bK := [.int .u8 z.f0, .int .i64 z.f1.f0, .int .i64 z.f1.f1, .int .i64 z.f1.f2, .int .i64 z.f1.f3, .int .i64 z.f2, .slice Az z.f3.length cz]) S.out (by rfl) rfl rfl rfl rfl (by kernel_rfl) (by simp [Value.oneCell']) (by simp) rfl ?_
       intro yH S1
       simp only [List.set_cons_zero, List.set_cons_succ] at S1
       replace S := ae.mk S1
       clear S1
       refine hK.out _ _ ?_
       clear hK K
       refine ay 10 11 (bA 11 2047) aj ?_
       refine jJ (gK aj.out (by kernel_rfl)) ?_
       clear hHeld
       obtain ⟨zf, zg, zh, zi, zk, zl, rX⟩ := St.ed S (.head _)
       go_wp2_with (first | (refine bH (some 51) Try.func88 S (sN (c := z) HA.out (S.out.tree _ (.head _))) ?_; clear S; intro zL S; clear zf zg zh zi zk zl rX; have xp := BA iG.out (S.out.blk _ bI) n Qe.out; have rX := (S.out.at (.head _) 6).trans rfl) | (refine Q4 110 6 69 #[.slice (some yF) pq.length cp, .int .i64 (wrap64 ((rd p (n : Int)) - 1)), .int .i64 0] 0 3 S ?_; clear S; intro Ot S; clear xp rX))
       refine bodyPost_ret (results_cell_row rfl _ _ b6 110 _ (0, 0) _ rfl (S.out.blk _ dQ _ rfl) Try.underlying110 rfl (by kernel_rfl)) rfl ?_
       exact ⟨_, _, _, (by rw [jl.out.1, ← HQV.out]; (try rw [HW3.out])), iG.out, (fun g hg => ⟨(S.out.new g (mem_keys bI hg)).1, S.out.blk _ bI g hg⟩), S.out.below⟩
      case neg =>
       obtain ⟨hqa, GZ, NG⟩ := eqF (a := rd p (n : Int)) (b := (z.f3.length : Int) - 1) (by omega)
       have HQV := ae.mk (show rd p (n : Int) = (q : Int) by have h := wK.out.hq; have := HI1.out; have := wK.out.len; rw [h]; unfold mn; split <;> omega)
       clear hq
       go_wp2
       refine iU (n := 11) (S := fun w' => St w _ _ _ _ _ w') (ds := [9]) (bA 11 0) (by kernel_rfl) rfl rfl (S.out.call (bJ (Below.refl _ _))) (fun hHeld => ?_); refine eU o9.zK o9.vU (fun aj dY => ?_)
       replace S := ae.mk (S.out.call (bJ (Below.refl _ _)))
       generalize wr.drew = CS at S hHeld ⊢
       refine dN 0 42 (bA 11 1) aj dY hHeld ?_ (hv := by intro w' hs_; have a_ := (hs_.at dQ 0).trans rfl; have aW := (hs_.at dQ 1).trans rfl; have aY := (hs_.at dQ 2).trans rfl; have aX := (hs_.at dQ 3).trans rfl; have bM := (hs_.at dQ 4).trans rfl; have bP := (hs_.at dQ 5).trans rfl; have bC := (hs_.at dQ 6).trans rfl; go_simp; with_reducible rfl)
       refine ay 1 43 (bA 11 3) aj ?_
       refine ay 2 44 (bA 11 7) aj ?_
       refine ay 3 45 (bA 11 15) aj ?_
       refine zX (σ := Option Addr × Nat × Nat) 2 (bA 11 511) (fun s_ => [(46, .tuple #[.agg #[.int .u8 z.f0, .int .i64 z.f1.f0, .int .i64 z.f1.f1, .int .i64 z.f1.f2, .int .i64 z.f1.f3, .int .i64 z.f2, .slice s_.1 z.f3.length s_.2.1], .bool true]), (41, .tuple #[.agg #[.int .u8 z.f0, .int .i64 z.f1.f0, .int .i64 z.f1.f1, .int .i64 z.f1.f2, .int .i64 z.f1.f3, .int .i64 z.f2, .slice s_.1 z.f3.length s_.2.1], .bool true]), (47, .agg #[.int .u8 z.f0, .int .i64 z.f1.f0, .int .i64 z.f1.f1, .int .i64 z.f1.f2, .int .i64 z.f1.f3, .int .i64 z.f2, .slice s_.1 z.f3.length s_.2.1]), (48, .bool true), (10, .pointer (some ⟨s_.2.2, 0, none⟩))]) (fun s_ w' => St w P [(some s_.2.2, .cells #[.int .u8 0, .int .i64 0, .int .i64 0, .int .i64 0, .int .i64 0, .int .i64 0, .slice none 0 0] 26 (0, 0)), ((Value.slice (some yF) p.length cp).ownBlock, op), (some b6, .cells #[.slice none 0 0, .int .i64 0, .int .i64 0] 110 (0, 0)), (some b3, .cells #[.int .u8 ck, .int .i64 cx, .int .i64 cy, .int .i64 cw, .int .i64 ch, .int .i64 aU, .slice A l.length cc] 26 (0, 0))] [] [(.slice s_.1 z.f3.length s_.2.1, z.f3), (.slice A l.length cc, l)] [] w') ?_ ?_
       rotate_left
       ·intro kS
        refine Eg (i := 4) (j := 8) (Ni := some 46) (Nj := some 10) (bA 11 31) (bA 11 271) rfl rfl rfl rfl (yg aj.out (by kernel_rfl)) (by decide) (by decide) (fun K hK => ?_) (fun K hK => ?_)
        ·skip
         refine jD Try.func92 (by kernel_rfl) rfl #[.agg #[.int .u8 ck, .int .i64 cx, .int .i64 cy, .int .i64 cw, .int .i64 ch, .int .i64 aU, .slice A l.length cc], .slice (some yF) pq.length cp] (by rfl) rfl rfl (by (try simp only [List.map_toArray, List.map_cons, List.map_nil]); rfl) ?_
         refine (yP ⟨ck, ⟨cx, cy, cw, ch⟩, aU, l⟩ pq z HAT.out (S.out.tree _ (.head _)) (eQ iG.out S.out (.head _) jl.out).1 (eQ iG.out S.out (.head _) jl.out).2).mono ?_
         rintro e dV ⟨Az, cz, rfl, h1, hb⟩
         refine ⟨_, rfl, ?_⟩
         replace S := ae.mk (S.out.res h1 hb)
         clear h1 hb
         refine hK.out _ _ S.out.dE (fun hHeld => ?_)
         clear hK K
         refine d_ 46 ?_
         refine ay 5 41 (bA 11 63) aj ?_
         refine ay 6 47 (bA 11 127) aj ?_
         refine ay 7 48 (bA 11 255) aj ?_
         refine jH 8 (some 10) (bA 11 511) aj (fun K hK => ?_)
         refine jF ?hg (N := 10) ?hd (cs := #[.int .u8 0, .int .i64 0, .int .i64 0, .int .i64 0, .int .i64 0, .int .i64 0, .slice none 0 0]) (t := 26) ?hr ?_; (case hd => rfl); (case hg => rfl); (case hr => (go_simp; done))
         intro b10 hg fV hbox hb
         replace S := ae.mk (S.out.box hg hbox hb)
         clear hg hbox hb
         refine hK.out _ _ S.out.dP.dE (fun hHeld => ?_)
         clear hK K
         refine d_ 10 ?_
         exact l_ (by simp only [iL, Act.put, List.setIfInBounds_toArray, List.set_cons_zero, List.set_cons_succ] <;> rfl) (kS (Az, cz, b10) _ S.out)
        ·skip
         refine jF ?hg (N := 10) ?hd (cs := #[.int .u8 0, .int .i64 0, .int .i64 0, .int .i64 0, .int .i64 0, .int .i64 0, .slice none 0 0]) (t := 26) ?hr ?_; (case hd => rfl); (case hg => rfl); (case hr => (go_simp; done))
         intro b10 hg iQ hbox hb
         replace S := ae.mk (S.out.box hg hbox hb)
         clear hg hbox hb
         refine hK.out _ _ S.out.dP (fun hHeld => ?_)
         clear hK K
         refine d_ 10 ?_
         refine jH 4 (some 46) (bA 11 287) aj (fun K hK => ?_)
         refine jD Try.func92 (by kernel_rfl) rfl #[.agg #[.int .u8 ck, .int .i64 cx, .int .i64 cy, .int .i64 cw, .int .i64 ch, .int .i64 aU, .slice A l.length cc], .slice (some yF) pq.length cp] (by rfl) rfl rfl (by (try simp only [List.map_toArray, List.map_cons, List.map_nil]); rfl) ?_
         refine (yP ⟨ck, ⟨cx, cy, cw, ch⟩, aU, l⟩ pq z HAT.out (S.out.tree _ (.head _)) (eQ iG.out S.out bI jl.out).1 (eQ iG.out S.out bI jl.out).2).mono ?_
         rintro e mO ⟨Az, cz, rfl, h1, hb⟩
         refine ⟨_, rfl, ?_⟩
         replace S := ae.mk (S.out.res h1 hb)
         clear h1 hb
         refine hK.out _ _ S.out.dP.dE (fun hHeld => ?_)
         clear hK K
         refine d_ 46 ?_
         refine ay 5 41 (bA 11 319) aj ?_
         refine ay 6 47 (bA 11 383) aj ?_
         refine ay 7 48 (bA 11 511) aj ?_
         exact l_ (by simp only [iL, Act.put, List.setIfInBounds_toArray, List.set_cons_zero, List.set_cons_succ] <;> rfl) (kS (Az, cz, b10) _ S.out)
       rintro ⟨Az, cz, b10⟩ PX S1
       simp only [iL, Act.put, List.setIfInBounds_toArray, List.set_cons_zero, List.set_cons_succ]
       replace S := ae.mk S1
       clear S1 hHeld
       have hHeld := S.out.dP.dE
       refine oP 9 none (bA 11 1023) aj (fun K hK => ?_)
       refine oD 0 rfl 26 (.tmp 10) (.tmp 47) rfl #[.int .u8 z.f0, .int .i64 z.f1.f0, .int .i64 z.f1.f1, .int .i64 z.f1.f2, .int .i64 z.f1.f3, .int .i64 z.f2, .slice Az z.f3.length cz] (j := 0) (u := .agg #[.int .u8 z.f0, .int .i64 z.f1.f0, .int .i64 z.f1.f1, .int .i64 z.f1.f2, .int .i64 z.f1.f3, .int .i64 z.f2, .slice Az z.f3.length cz]) (bK := [.int .u8 z.f0, .int .i64 z.f1.f0, .int .i64 z.f1.f1, .int .i64 z.f1.f2, .int .i64 z.f1.f3, .int .i64 z.f2, .slice Az z.f3.length cz]) S.out (by rfl) rfl rfl rfl rfl (by kernel_rfl) (by simp [Value.oneCell']) (by simp) rfl ?_
       intro yH S1
       simp only [List.set_cons_zero, List.set_cons_succ] at S1
       replace S := ae.mk S1
       clear S1
       refine hK.out _ _ ?_
       clear hK K
       refine ay 10 11 (bA 11 2047) aj ?_
       refine jJ (gK aj.out (by kernel_rfl)) ?_
       clear hHeld
       obtain ⟨zf, zg, zh, zi, zk, zl, rX⟩ := St.ed S (.head _)
       go_wp2_with (first | (refine bH (some 51) Try.func88 S (sN (c := z) HA.out (S.out.tree _ (.head _))) ?_; clear S; intro zL S; clear zf zg zh zi zk zl rX; have xp := BA iG.out (S.out.blk _ bI) n Qe.out; have rX := (S.out.at (.head _) 6).trans rfl) | (refine Q4 110 6 69 #[.slice (some yF) pq.length cp, .int .i64 (rd p (n : Int)), .int .i64 0] 0 3 S ?_; clear S; intro Ot S; clear xp rX))
       refine bodyPost_ret (results_cell_row rfl _ _ b6 110 _ (0, 0) _ rfl (S.out.blk _ dQ _ rfl) Try.underlying110 rfl (by kernel_rfl)) rfl ?_
       exact ⟨_, _, _, (by rw [jl.out.1, ← HQV.out]), iG.out, (fun g hg => ⟨(S.out.new g (mem_keys bI hg)).1, S.out.blk _ bI g hg⟩), S.out.below⟩
end Go.Proofs.Ytfdmfgaiblfbhaa.P
namespace Go.Proofs.Ytfdmfgaiblfbhaa.P
open Go.RowKit Go.Proofs.ag.aK Go.Proofs.ag.bG Go.Proofs.ag.bV
end Go.Proofs.Ytfdmfgaiblfbhaa.P
namespace Go.Proofs.Ytfdmfgaiblfbhaa.Pure
open Go.RowKit Go.Proofs.Ytfdmfgaiblfbhaa.P Go.Proofs.ag.aK Go.Proofs.ag.bG Go.Proofs.ag.bV
end Go.Proofs.Ytfdmfgaiblfbhaa.Pure
namespace Go.Proofs.Ytfdmfgaiblfbhaa.P
open Go.RowKit Go.Proofs.ag.aK Go.Proofs.ag.bG Go.Proofs.ag.bV
section
variable {W : World} {b : Nat} {P : Nat → Prop} {A : Option Addr} {cc : Nat}
theorem aaL (r : dD) (ax : Int) : Calls Try.prog 87 #[.agg #[.int .i64 r.f0, .int .i64 r.f1, .int .i64 r.f2, .int .i64 r.f3], .int .u8 ax] W fun e w' => e = .returned (.int .i64 (aV ax r)) ∧ Below W.heap.size W w' :=
 qg.calls r.f0 r.f1 r.f2 r.f3 ax _ W (Rh r ax)
theorem afI (c : ai) (ax : Int) (hz : sz c ≤ 1048576) (ht : di c = true) (hV : Kd.V k26 26 W b P (.slice A c.f3.length cc) c.f3) :
  Calls Try.prog 152 #[.agg #[.int .u8 c.f0, .int .i64 c.f1.f0, .int .i64 c.f1.f1, .int .i64 c.f1.f2, .int .i64 c.f1.f3, .int .i64 c.f2, .slice A c.f3.length cc], .int .u8 ax] W fun e w' => e = .returned (.int .i64 (b_ ax c)) ∧ Below W.heap.size W w' := by
 exact afF ax _ c (Nat.le_refl _) hz (oZ (kH ht)) b P A cc W hV
end
section
variable {Pr : Program} {ops : Array Oper} {rest : List Oper} {op : Oper} {a : Act} {Q : Exit → Act → World → Prop} {w W : World} {P : Nat → Prop} {bs : List (Option Nat × Obj)} {ow : List (Value × List ai)} {ts : List (Value × List ai)} {ro : List (Addr × Value)}
end
def xW.T1 : Bool × List (List Nat × List Nat) := (true, [([], []), ([0], [0]), ([], []), ([1, 2], [1, 2]), ([3], [3]), ([4], [4]), ([], []), ([5, 6], [5, 6]), ([], []), ([8], [8]), ([], []), ([9, 10], [9, 10]), ([11], [11]), ([], []), ([12, 13, 7], [12, 13]), ([7, 14], [7, 14]), ([15, 14, 0, 1, 2, 3, 4, 5, 6, 7, 8, 9, 10, 11, 12, 13, 14, 15], [15])])
def xW.B1 : List Nat := [0, 1, 0, 7, 15, 31, 0, 127, 0, 256, 0, 1792, 3840, 0, 16383, 32767, 65535]
theorem xW.Xt : g_ .any (opsOf Try.f160 1) = xW.T1 := by kernel_rfl
theorem xW.Qn : iO xW.T1.2 xW.B1 = true := by kernel_rfl
theorem zZ (c : ai) (hz : dI c.f3 ≤ 1000000) (i : Nat) (hi : i < c.f3.length) (ax : Int) (hax : ax = 1 ∨ ax = 2) (ht : di (kd c.f3 i) = true) (b : Nat) (P : Nat → Prop) (A : Option Addr) (cc : Nat) (w : World) (hv : Kd.V k26 26 w b P (.slice A c.f3.length cc) c.f3) :
  Calls Try.prog 160 #[.agg #[.int .u8 c.f0, .int .i64 c.f1.f0, .int .i64 c.f1.f1, .int .i64 c.f1.f2, .int .i64 c.f1.f3, .int .i64 c.f2, .slice A c.f3.length cc], .int .i64 (i : Int), .int .u8 ax] w fun e w' => e = .returned (.int .i64 (az ax (kd c.f3 i))) ∧ Below w.heap.size w w' := by
 have S := ae.mk (St.start (ts := [(.slice A c.f3.length cc, c.f3)]) (b0 := w.heap.size) (w := w) (P := P) (fun t ht => by rw [List.mem_singleton.1 ht]; exact fK hv))
 have hg : az ax (kd c.f3 i) = wrap64 (aV ax (kd c.f3 i).f1 - b_ ax (kd c.f3 i)) := by unfold az; rw [if_pos ⟨hax, ht⟩]
 rw [hg]
 have kL := ae.mk (show sz (kd c.f3 i) ≤ 1048576 by have := uI (lL hi); omega)
 have HKT := ae.mk ht
 have hi0 : (0 : Int) ≤ (i : Int) := Int.natCast_nonneg _
 have hi1 : (i : Int) < (c.f3.length : Int) := by omega
 obtain ⟨jS, ua, uc, ek, S1⟩ := S.out.elem (.head _) (i : Int) hi0 hi1
 subst ek
 rw [Kt] at S1
 simp only [Int.toNat_natCast] at S1
 generalize kd c.f3 i = k at S1 kL HKT ⊢
 replace S := ae.mk S1
 clear S1 hz hax ht hv hg
 obtain ⟨ck, ⟨cx, cy, cw, ch⟩, aU, l⟩ := c
 simp only [] at S hi hi1 ⊢
 go_enter Try.func160, Try.ntmps160
 go_wp2_with (first
  | (refine boxS 3 _ 26 S ?_; clear S; intro b3 dF S)
  | fail)
 refine iU (n := 17) (S := fun w' => St w _ _ _ _ _ w') (ds := []) (bA 17 0) (by kernel_rfl) rfl rfl (S.out.call (bJ (Below.refl _ _))) (fun hHeld => ?_); refine eU xW.Xt xW.Qn (fun aj dY => ?_)
 replace S := ae.mk (S.out.call (bJ (Below.refl _ _)))
 generalize dF.drew = wd2 at S hHeld ⊢
 refine ay 0 7 (bA 17 1) aj ?_
 refine dN 1 8 (bA 17 3) aj dY hHeld ?_ (hv := by intro w' hs_; have bC := (hs_.at (.head _) 6).trans rfl; go_simp; with_reducible rfl)
 refine ay 2 9 (bA 17 7) aj ?_
 refine ay 3 10 (bA 17 15) aj ?_
 refine ay 4 11 (bA 17 31) aj ?_
 refine dN 5 12 (bA 17 63) aj dY hHeld ?_ (hv := by intro w' hs_; have iw := (hs_.cell _ bI).1; have jf := (hs_.cell _ dQ).1; have iV := (hs_.cell _ kW).1; have iW := (hs_.cell _ qj).1; go_simp; with_reducible rfl)
 refine ay 6 13 (bA 17 127) aj ?_
 refine ay 8 15 (bA 17 383) aj ?_
 refine dN 9 16 (bA 17 895) aj dY hHeld ?_ (hv := by intro w' hs_; have bC := (hs_.at (.head _) 6).trans rfl; go_simp; with_reducible rfl)
 refine ay 10 17 (bA 17 1919) aj ?_
 refine ay 11 18 (bA 17 3967) aj ?_
 refine dN 12 19 (bA 17 8063) aj dY hHeld ?_ (hv := by intro w' hs_; have fZ := (hs_.cell _ (.head _)).1; have iw := (hs_.cell _ bI).1; have jf := (hs_.cell _ dQ).1; have iV := (hs_.cell _ kW).1; have iW := (hs_.cell _ qj).1; have kD := (hs_.cell _ Bh).1; have kE := (hs_.cell _ Bi).1; go_simp; with_reducible rfl)
 refine ay 13 20 (bA 17 16255) aj ?_
 refine jH 7 (some 14) (bA 17 16383) aj (fun K hK => ?_)
 refine zW Try.func87 #[.agg #[.int .i64 k.f1.f0, .int .i64 k.f1.f1, .int .i64 k.f1.f2, .int .i64 k.f1.f3], .int .u8 ax] ?_
 refine (aaL k.f1 ax).mono ?_
 rintro e fV ⟨rfl, hb⟩
 refine ⟨_, rfl, ?_⟩
 replace S := ae.mk (S.out.call hb)
 clear hb
 refine hK.out _ _ S.out (fun hHeld => ?_)
 clear hK K
 refine d_ 14 ?_
 refine jH 14 (some 21) (bA 17 32767) aj (fun K hK => ?_)
 refine zW Try.func152 #[.agg #[.int .u8 k.f0, .int .i64 k.f1.f0, .int .i64 k.f1.f1, .int .i64 k.f1.f2, .int .i64 k.f1.f3, .int .i64 k.f2, .slice ua k.f3.length uc], .int .u8 ax] ?_
 refine (afI k ax kL.out HKT.out (S.out.tree _ (.head _))).mono ?_
 rintro e iQ ⟨rfl, hb⟩
 refine ⟨_, rfl, ?_⟩
 replace S := ae.mk (S.out.call hb)
 clear hb
 refine hK.out _ _ S.out (fun hHeld => ?_)
 clear hK K
 refine d_ 21 ?_
 refine ay 15 22 (bA 17 65535) aj ?_
 refine ay 16 6 (bA 17 131071) aj ?_
 refine jJ (gK aj.out (by kernel_rfl)) ?_
 clear hHeld
 go_wp2
 go_ret
 exact ⟨rfl, S.out.below⟩
def aet.T9 : Bool × List (List Nat × List Nat) := (true, [([], []), ([], []), ([], []), ([0, 1, 2], [0, 1, 2]), ([], []), ([4], [4]), ([5], [5]), ([], []), ([7], [7]), ([8], [8]), ([3, 6, 9, 3], [3, 6, 9]), ([10, 10, 0, 1, 2, 3, 4, 5, 6, 7, 8, 9, 10], [10]), ([11, 0, 1, 2, 3, 4, 5, 6, 7, 8, 9, 10, 11], [])])
def aet.B9 : List Nat := [0, 0, 0, 7, 0, 16, 48, 0, 128, 384, 1023, 2047, 4095]
def aes.T3 : Bool × List (List Nat × List Nat) := (true, [([], []), ([], []), ([1], [1]), ([0, 0], [0]), ([3, 0, 3], []), ([2, 4, 0, 1, 2, 3, 4], [2])])
def aes.B3 : List Nat := [0, 0, 2, 1, 9, 31]
theorem aaK {ax id : Int} {c : ai} {p pq : List Int} {d : Nat} {z : ai} {q : Nat} {b : Nat} {P : Nat → Prop} {A : Option Addr} {cc : Nat} {w : World} (h : oI ax id c p d z q) (hpq : pq = p.take d) (hz : sz c ≤ 1000000) (hv : Kd.V k26 26 w b P (.slice A c.f3.length cc) c.f3) :
  Calls Try.prog 116 #[.agg #[.int .u8 c.f0, .int .i64 c.f1.f0, .int .i64 c.f1.f1, .int .i64 c.f1.f2, .int .i64 c.f1.f3, .int .i64 c.f2, .slice A c.f3.length cc], .int .i64 id, .int .u8 ax] w (fun e w' => ∃ Ap cp op, e = .returned (.agg #[.slice Ap pq.length cp, .int .i64 (q : Int), .int .i64 0]) ∧ IR w.heap.size (.slice Ap p.length cp) p op ∧ (∀ g, (Value.slice Ap p.length cp).ownBlock = some g → w.heap.size ≤ g ∧ w'.heap[g]? = some op) ∧ Below w.heap.size w w') := by
 subst hpq
 exact (O1 c hz id ax b P A cc w hv).2 p d z q h.jQ h.hax h.find h.Td h.fr
theorem aaH (c : ai) (hz : sz c ≤ 1000000) (id ax : Int) (b : Nat) (P : Nat → Prop) (A : Option Addr) (cc : Nat) (w : World) (hv : Kd.V k26 26 w b P (.slice A c.f3.length cc) c.f3) :
  Calls Try.prog 119 #[.agg #[.int .u8 c.f0, .int .i64 c.f1.f0, .int .i64 c.f1.f1, .int .i64 c.f1.f2, .int .i64 c.f1.f3, .int .i64 c.f2, .slice A c.f3.length cc], .int .i64 id, .int .u8 ax] w fun e w' => e = .returned (.tuple #[.int .i64 (qY ax id true c), .int .i64 (qY ax id false c)]) ∧ Below w.heap.size w w' := by
 have S := ae.mk (St.start (ts := [(.slice A c.f3.length cc, c.f3)]) (b0 := w.heap.size) (w := w) (P := P) (fun t ht => by rw [List.mem_singleton.1 ht]; exact fK hv))
 have HZ := ae.mk hz
 clear hz hv
 by_cases hn0 : uF ax id c = 0
 case pos =>
  obtain ⟨p, d0, z, q, hF⟩ := Dn hn0
  have hs := hF.zs
  rw [sV hF, sV hF]
  have hat := hF.fr.at'
  obtain ⟨pq, hpq⟩ : ∃ pq, pq = p.take d0 := ⟨_, rfl⟩
  rw [← hpq] at hat
  have wK := ae.mk hF
  have mG := ae.mk hF.hax
  have RS := ae.mk hF.good.jQ
  have wL := ae.mk (show dI z.f3 ≤ 1000000 by omega)
  have gW := ae.mk (show z.f3.length ≤ 1000000 by have := ik z.f3; omega)
  have HAT := ae.mk hat
  have jl := ae.mk (And.intro hpq (Nat.le_of_lt hF.fr.hd))
  obtain ⟨U, hU⟩ : ∃ u, vV ax q true z.f3 = u := ⟨_, rfl⟩
  obtain ⟨D, hD⟩ : ∃ u, vV ax q false z.f3 = u := ⟨_, rfl⟩
  rw [hU, hD]
  unfold vV at hU hD
  have HU := ae.mk hU
  have HD := ae.mk hD
  have HBU := ae.mk (fun k => Bq (p := gP q true) (g := fun i => az ax (kd z.f3 i)) (m := 10000) (fun i => uQ hF.hax hF.good.jQ i) (by decide) k)
  have HBD := ae.mk (fun k => Bq (p := gP q false) (g := fun i => az ax (kd z.f3 i)) (m := 10000) (fun i => uQ hF.hax hF.good.jQ i) (by decide) k)
  have vJ := ae.mk (fun i => uQ hF.hax hF.good.jQ i)
  clear hn0 hF hs hat hpq hU hD
  obtain ⟨ck, ⟨cx, cy, cw, ch⟩, aU, l⟩ := c
  simp only [] at S ⊢
  go_enter Try.func119, Try.ntmps119
  go_wp2_with (first
   | (refine boxS 3 _ 26 S ?_; clear S; intro b3 dF S; obtain ⟨a_, aW, aY, aX, bM, bP, bC⟩ := St.ed S (.head _))
   | (refine iF (some 17) Try.func116 (aaK wK.out jl.out.1 HZ.out (S.out.tree _ (.head _))) ?_; rintro e dV ⟨Ap, cp, op, rfl, Bd, hk, hb⟩; refine ⟨_, rfl, ?_⟩; have iG := ae.mk Bd; replace S := ae.mk (S.out.Qo _ hk hb); clear Bd hk hb; clear a_ aW aY aX bM bP bC)
   | (refine boxS 8 _ 110 S ?_; clear S; intro b8 fV S)
   | (refine gX 110 8 17 #[.slice Ap pq.length cp, .int .i64 (q : Int), .int .i64 0] 0 3 S ?_; clear S; intro iQ S; obtain ⟨a_, aW, aY, aX, bM, bP, bC⟩ := St.ed S dQ; have GL := (S.out.at (.head _) 2).trans rfl; have Qr := (S.out.at (.head _) 0).trans rfl)
   | (refine afs (some 25) Try.func92 S (yP ⟨ck, ⟨cx, cy, cw, ch⟩, aU, l⟩ pq z HAT.out (S.out.tree _ (.head _)) (eQ iG.out S.out bI jl.out).1 (eQ iG.out S.out bI jl.out).2) ?_; clear S; intro Az cz mO S; clear a_ aW aY aX bM bP bC GL Qr)
   | (refine boxS 9 _ 26 S ?_; clear S; intro b9 Bz S)
   | (refine gX 26 9 26 #[.int .u8 z.f0, .int .i64 z.f1.f0, .int .i64 z.f1.f1, .int .i64 z.f1.f2, .int .i64 z.f1.f3, .int .i64 z.f2, .slice Az z.f3.length cz] 0 7 S ?_; clear S; intro yH S; have sW := (S.out.at (.head _) 6).trans rfl)
   | fail)
  clear sW
  go_loopg [11, 12, 31] z.f3.length (fun gg v11 v12 v31 wr => ∃ n : Nat, v11 = .int .i64 (mg (gP q true) (fun i => az ax (kd z.f3 i)) n) ∧ v12 = .int .i64 (mg (gP q false) (fun i => az ax (kd z.f3 i)) n) ∧ v31 = .int .i64 (n : Int) ∧ ae (n ≤ z.f3.length) ∧ z.f3.length - n ≤ gg ∧ ae (St w P [(some b9, .cells #[.int .u8 z.f0, .int .i64 z.f1.f0, .int .i64 z.f1.f1, .int .i64 z.f1.f2, .int .i64 z.f1.f3, .int .i64 z.f2, .slice Az z.f3.length cz] 26 (0, 0)), (some b8, .cells #[.slice Ap pq.length cp, .int .i64 (q : Int), .int .i64 0] 110 (0, 0)), ((Value.slice Ap p.length cp).ownBlock, op), (some b3, .cells #[.int .u8 ck, .int .i64 cx, .int .i64 cy, .int .i64 cw, .int .i64 ch, .int .i64 aU, .slice A l.length cc] 26 (0, 0))] [] [(.slice Az z.f3.length cz, z.f3), (.slice A l.length cc, l)] [] wr))
  case atStart => exact ⟨0, rfl, rfl, rfl, ⟨Nat.zero_le _⟩, Nat.le_refl _, S⟩
  case round =>
   clear S
   obtain ⟨n, rfl, rfl, rfl, lK, hgg, S⟩ := hrel
   obtain ⟨SU, Nc⟩ : ∃ u, mg (gP q true) (fun i => az ax (kd z.f3 i)) n = u := ⟨_, rfl⟩
   obtain ⟨SD, hSD⟩ : ∃ u, mg (gP q false) (fun i => az ax (kd z.f3 i)) n = u := ⟨_, rfl⟩
   rw [Nc, hSD]
   have C9 := ae.mk Nc
   have CZ := ae.mk hSD
   clear Nc hSD
   by_cases hlt : n < z.f3.length
   case pos =>
    have iy := ae.mk hlt
    have hlz : (n : Int) < (z.f3.length : Int) := by omega
    have fF := ae.mk hgg
    have hw : wrap64 ((n : Int) + 1) = ((n + 1 : Nat) : Int) := by have := gW.out; unfold wrap64; omega
    have HW := ae.mk hw
    have RY := ae.mk (show wrap64 (SU + (az ax (kd z.f3 n))) = SU + (az ax (kd z.f3 n)) by have h1 := HBU.out n; rw [C9.out] at h1; have h2 := vJ.out n; have := gW.out; unfold wrap64; omega)
    have RX := ae.mk (show wrap64 (SD + (az ax (kd z.f3 n))) = SD + (az ax (kd z.f3 n)) by have h1 := HBD.out n; rw [CZ.out] at h1; have h2 := vJ.out n; have := gW.out; unfold wrap64; omega)
    clear hw hgg
    by_cases hq : n = q
    case pos =>
     have hpu : ¬ gP q true n = true := by unfold gP; simp; omega
     have xM : gP q false n = true := by unfold gP; simp; omega
     have Gv := ae.mk hpu
     have CY := ae.mk xM
     obtain ⟨hqa, GZ, NG⟩ := wM (a := (n : Int)) (b := (q : Int)) (by omega)
     have hqe : (n == q) = true := beq_iff_eq.mpr (by omega)
     have hqf : decide (n = q) = true := decide_eq_true (by omega)
     have hle : decide ((n : Int) ≤ (q : Int)) = true := decide_eq_true (by omega)
     have hle2 : decide (n ≤ q) = true := decide_eq_true (by omega)
     clear hq hpu xM
     obtain ⟨l9, qx, mY, qy, vX, vY, sW⟩ := St.ed S (.head _)
     have vW := (S.out.at bI 1).trans rfl
     go_wp2_with (first
      | (refine bH (some 52) Try.func160 S (zZ z wL.out n iy.out ax mG.out (RS.out _ (lL iy.out)) _ _ _ _ _ (S.out.tree _ (.head _))) ?_; clear S; intro dF S; clear l9 qx mY qy vX vY sW vW)
      | fail)
     have hw := HW.out
     go_wp2
     go_roundg (z.f3.length - (n + 1))
     case measure => have := fF.out; have := iy.out; omega
     case rel => exact ⟨n + 1, (congrArg (Value.int .i64) (by rw [← C9.out]; exact Af Gv.out)), (congrArg (Value.int .i64) (by rw [RX.out, ← CZ.out]; exact qm CY.out)), (by rw [hw]), ⟨by have := iy.out; omega⟩, Nat.le_refl _, S⟩
    case neg =>
     have hpu : gP q true n = true := by unfold gP; simp; omega
     have Gv := ae.mk hpu
     obtain ⟨hqa, GZ, NG⟩ := eqF (a := (n : Int)) (b := (q : Int)) (by omega)
     have hqe : (n == q) = false := beq_eq_false_iff_ne.mpr (by omega)
     have hqf : decide (n = q) = false := decide_eq_false (by omega)
     clear hpu
     by_cases hq2 : n ≤ q
     case pos =>
      have xM : gP q false n = true := by unfold gP; simp; omega
      have CY := ae.mk xM
      have hle : decide ((n : Int) ≤ (q : Int)) = true := decide_eq_true (by omega)
      have hle2 : decide (n ≤ q) = true := decide_eq_true (by omega)
      clear xM hq2 hq
      obtain ⟨l9, qx, mY, qy, vX, vY, sW⟩ := St.ed S (.head _)
      have vW := (S.out.at bI 1).trans rfl
      go_wp2_with (first
       | (refine bH (some 42) Try.func160 S (zZ z wL.out n iy.out ax mG.out (RS.out _ (lL iy.out)) _ _ _ _ _ (S.out.tree _ (.head _))) ?_; clear S; intro dF S; clear l9 qx mY qy vX vY sW vW; obtain ⟨l9, qx, mY, qy, vX, vY, sW⟩ := St.ed S (.head _); have vW := (S.out.at bI 1).trans rfl)
       | (refine bH (some 52) Try.func160 S (zZ z wL.out n iy.out ax mG.out (RS.out _ (lL iy.out)) _ _ _ _ _ (S.out.tree _ (.head _))) ?_; clear S; intro dV S; clear l9 qx mY qy vX vY sW vW)
       | fail)
      have hw := HW.out
      go_wp2
      go_roundg (z.f3.length - (n + 1))
      case measure => have := fF.out; have := iy.out; omega
      case rel => exact ⟨n + 1, (congrArg (Value.int .i64) (by rw [RY.out, ← C9.out]; exact qm Gv.out)), (congrArg (Value.int .i64) (by rw [RX.out, ← CZ.out]; exact qm CY.out)), (by rw [hw]), ⟨by have := iy.out; omega⟩, Nat.le_refl _, S⟩
     case neg =>
      have xM : ¬ gP q false n = true := by unfold gP; simp; omega
      have CY := ae.mk xM
      have hle : decide ((n : Int) ≤ (q : Int)) = false := decide_eq_false (by omega)
      have hle2 : decide (n ≤ q) = false := decide_eq_false (by omega)
      clear xM hq2 hq
      obtain ⟨l9, qx, mY, qy, vX, vY, sW⟩ := St.ed S (.head _)
      have vW := (S.out.at bI 1).trans rfl
      go_wp2_with (first
       | (refine bH (some 42) Try.func160 S (zZ z wL.out n iy.out ax mG.out (RS.out _ (lL iy.out)) _ _ _ _ _ (S.out.tree _ (.head _))) ?_; clear S; intro dF S; clear l9 qx mY qy vX vY sW vW; have vW := (S.out.at bI 1).trans rfl)
       | fail)
      clear vW
      have hw := HW.out
      go_wp2
      go_roundg (z.f3.length - (n + 1))
      case measure => have := fF.out; have := iy.out; omega
      case rel => exact ⟨n + 1, (congrArg (Value.int .i64) (by rw [RY.out, ← C9.out]; exact qm Gv.out)), (congrArg (Value.int .i64) (by rw [← CZ.out]; exact Af CY.out)), (by rw [hw]), ⟨by have := iy.out; omega⟩, Nat.le_refl _, S⟩
   case neg =>
    have hlz : ¬ ((n : Int) < (z.f3.length : Int)) := by omega
    have hnl : n = z.f3.length := by have := lK.out; omega
    have HUU := ae.mk (show SU = U by rw [← C9.out, ← HU.out, hnl])
    have KG := ae.mk (show SD = D by rw [← CZ.out, ← HD.out, hnl])
    clear hlt hgg hnl
    go_wp2
    refine bodyPost_ret (results_tmp2 rfl _ _ _) rfl ?_
    rw [← HUU.out, ← KG.out]
    exact ⟨rfl, S.out.below⟩
 case neg =>
  rw [yX hn0, yX hn0]
  obtain ⟨n, hn⟩ : ∃ n, uF ax id c = n := ⟨_, rfl⟩
  rw [hn] at hn0
  obtain ⟨hna, hnb, hnd⟩ := eqF (a := n) (b := 0) (by omega)
  have HN := ae.mk hn
  have mJ := ae.mk hn0
  clear hn hn0
  obtain ⟨ck, ⟨cx, cy, cw, ch⟩, aU, l⟩ := c
  simp only [] at S ⊢
  go_enter Try.func119, Try.ntmps119
  go_wp2_with (first
   | (refine boxS 3 _ 26 S ?_; clear S; intro b3 dF S; obtain ⟨a_, aW, aY, aX, bM, bP, bC⟩ := St.ed S (.head _))
   | (refine bH (some 17) Try.func116 S ((O1 ⟨ck, ⟨cx, cy, cw, ch⟩, aU, l⟩ HZ.out id ax _ _ _ _ _ (S.out.tree _ (.head _))).1 n HN.out mJ.out) ?_; clear S; intro dV S; clear a_ aW aY aX bM bP bC)
   | (refine boxS 8 _ 110 S ?_; clear S; intro b8 fV S)
   | (refine gX 110 8 17 #[.slice none 0 0, .int .i64 0, .int .i64 n] 0 3 S ?_; clear S; intro iQ S; have GL := (S.out.at (.head _) 2).trans rfl)
   | fail)
  clear GL
  refine bodyPost_ret (results_tmp2 rfl _ _ _) rfl ?_
  exact ⟨rfl, S.out.below⟩
theorem PT (a : Int) : ∀ (l : List ai) (n : Nat) (x y : Int), n < l.length → ∃ x' y', kd (jo a l x y) n = dA (kd l n) x' y' := by
 intro l
 induction l with
 | nil => intro n x y h; simp at h
 | cons k ks ih =>
  intro n x y h
  rw [nC]
  cases n with
  | zero => exact ⟨x, y, rfl⟩
  | succ n => exact ih n _ _ (by simpa using h)
def CO : ai := ⟨1, ⟨0, 0, 40, 24⟩, 1, []⟩
def CP : ai := ⟨1, ⟨41, 0, 39, 24⟩, 2, []⟩
def uD : ai := ⟨2, ⟨0, 0, 80, 24⟩, 0, [CO, CP]⟩
theorem MW : di uD = true := by decide +kernel
theorem YQ : fO 2 uD = some [1] := by decide +kernel
theorem acT : Dl 1 uD [1] = some 0 := by decide +kernel
theorem Jy : oI 1 2 uD [1] 0 uD 0 :=
 ⟨MW, .inl rfl, YQ, acT, ⟨by decide, rfl, by decide, by decide, by decide, by decide, by decide⟩, MW⟩
theorem V3 : jT 1 0 true [CO, CP] = some 1 := by decide +kernel
theorem MV : az 1 (kd [CO, CP] 1) = 38 := by decide +kernel
theorem YR : o5 1 5 0 [CO, CP] = (dK 1 0 5 (dK 1 1 (-5) [CO, CP]), 5) := by
 have e : gG 1 0 true 5 10001 [CO, CP] 0 = (dK 1 0 5 (dK 1 1 (-5) [CO, CP]), 5) := by
  rw [uH (f := 10000) (by omega) V3, MV]
  have e1 : mn ((5 : Int) - 0) 38 = 5 := by decide
  have e2 : place 0 true = 0 := rfl
  rw [e1, e2, Int.zero_add, xA (Int.le_refl _)]
 unfold o5
 rw [show decide ((0 : Int) < 5) = true from rfl, show oV 5 = 5 from rfl, e]
 rfl
theorem acS : (pM 1 2 5 uD).2 = (5, 0) ∧ (pM 1 2 5 uD).1.f3.length = 2 ∧ (kd (pM 1 2 5 uD).1.f3 0).f1.f2 = 45 ∧ (kd (pM 1 2 5 uD).1.f3 1).f1.f2 = 34 := by
 have hg := Jy.good
 have hs : aV 1 uD.f1 - ((uD.f3.length : Int) - 1) = 79 := by decide
 rw [hs] at hg
 have hg : qw 1 79 [CO, CP] := hg
 obtain ⟨a1, a2, a3, a4, a5, a6⟩ := hg.move (.inl rfl) (i := 1) (n := -5) (by decide) (by rw [MV]; decide) (by decide)
 obtain ⟨b1, b2, b3, b4, b5, b6⟩ := a1.move (.inl rfl) (i := 0) (n := 5) (by rw [a4]; decide) (by
  have := Pure.iT (ax := 1) (.inl rfl) (a1.jQ _ (lL (i := 0) (by rw [a4]; decide)))
  omega) (by decide)
 have e0 := b6
 rw [a3 0 (by decide)] at e0
 have e1 := a6
 rw [← b3 1 (by decide)] at e1
 have hr : pM 1 2 5 uD = (dA ⟨uD.f0, uD.f1, uD.f2, dK 1 0 5 (dK 1 1 (-5) [CO, CP])⟩ 0 0, 5, 0) := by
  rw [Aj Jy]
  unfold Hl
  rw [show uD.f3 = [CO, CP] from rfl, YR]
  rfl
 rw [hr]
 generalize dK 1 0 5 (dK 1 1 (-5) [CO, CP]) = L at *
 have hl : L.length = 2 := by rw [b4, a4]; rfl
 have hf : (dA ⟨uD.f0, uD.f1, uD.f2, L⟩ 0 0).f3 = jo 2 L 0 0 := by rw [lD]; rfl
 obtain ⟨x0, y0, h0⟩ := PT 2 L 0 0 0 (by omega)
 obtain ⟨x1, y1, h1⟩ := PT 2 L 1 0 0 (by omega)
 simp only []
 rw [hf, sO, h0, h1]
 have hw : ∀ k x y, (dA k x y).f1.f2 = aV 1 k.f1 := fun k x y => by rw [lD]; rfl
 rw [hw, hw, e0, e1]
 refine ⟨?_, hl, ?_, ?_⟩ <;> first | trivial | rfl
theorem aau {Pr : Program} {ops : Array Oper} {rest : List Oper} {op : Oper} {a : Act} {Q : Exit → Act → World → Prop} {w W : World} {P : Nat → Prop} {bs : List (Option Nat × Obj)} {ts : List (Value × List ai)} {ro : List (Addr × Value)} {N : Tmp} (hd : op.dst = some N) (hgd : op.guard = none) (x y : ai) {A B : Option Addr} {c d b b' : Nat} (S : St w P bs [] ts ro W)
  (hV : Kd.V k26 26 W b (Ok w P (keys bs [])) (.slice A x.f3.length c) x.f3) (hV' : Kd.V k26 26 W b' (Ok w P (keys bs [])) (.slice B y.f3.length d) y.f3)
  (hrun : (execOp a.eval op).run Pr W = .ok (.value (.slice (some ⟨W.heap.size, 0, none⟩) 2 2)) (W.alloc (.cells (kR x A c ++ kR y B d).toArray 26)))
  (h : ∀ A1 c1 w1, St w P bs [(.slice A1 2 c1, [x, y])] ts ro w1 → wpList Pr ops Q rest (a.put op.dst (.slice A1 2 c1)) w1) : wpList Pr ops Q (op :: rest) a W := by
 obtain ⟨_, hl, hF⟩ := Kd.BG hV
 obtain ⟨_, hl', hF'⟩ := Kd.BG hV'
 refine Kd.yJ k26 (w0 := W) W.heap.size 26 hgd hd (xs := [x, y]) (inner := kR x A c ++ kR y B d) (ok := fun k => Ok w P (keys bs []) k ∨ W.heap.size ≤ k) (fD := Ok w P (keys bs [])) hrun (bW.c7 (oC W _ x hl hF) (bW.c7 (oC W _ y hl' hF') (bW.none _ _))) (fun _ h => .inl h) (.inr (Nat.le_refl _)) (Below.refl _ _) (Nat.le_refl _) (by simp) ?_
 intro v1 w1 hN _ hg _
 obtain ⟨A1, c1, rfl⟩ := Kd.jw hN
 exact h A1 c1 w1 (S.yC hN (wC hg))
theorem NQ {ax id bu : Int} {c : ai} {r : ai × Int × Int} {P : Nat → Prop} {W : World} {f : FuncId} {args : Array Value} (h : pM ax id bu c = r) (hc : Calls Try.prog f args W (Lp W P (pM ax id bu c))) : Calls Try.prog f args W (Lp W P r) := by
 rw [h] at hc
 exact hc
theorem Dh {w : World} : Calls Try.prog 113 #[] w fun e w' => e = .returned (.bool true) ∧ Below w.heap.size w w' := by
 have S := ae.mk (St.start (ts := []) (b0 := w.heap.size) (w := w) (P := fun _ => True) (fun t ht => by cases ht))
 have hx := acS
 obtain ⟨⟨X, n, e⟩, hr⟩ : ∃ r, pM 1 2 5 uD = r := ⟨_, rfl⟩
 rw [hr] at hx
 obtain ⟨h1, h2, h3, h4⟩ := hx
 injection h1 with h5 h6
 have h5 : n = 5 := h5
 have h6 : e = 0 := h6
 subst h5 h6
 have HR := ae.mk hr
 have HL := ae.mk (show X.f3.length = 2 from h2)
 have RN := ae.mk (show ((0 : Nat) : Int) < (X.f3.length : Int) by rw [HL.out]; decide)
 have HL1 := ae.mk (show ((1 : Nat) : Int) < (X.f3.length : Int) by rw [HL.out]; decide)
 have HX0 := ae.mk (show (kd X.f3 0).f1.f2 = 45 from h3)
 have HX1 := ae.mk (show (kd X.f3 1).f1.f2 = 34 from h4)
 clear h2 h3 h4 hr
 go_enter Try.func113, Try.ntmps113
 go_wp2_with (first
  | (refine boxS 1 _ 26 S ?_; clear S; intro b1 dF S)
  | (refine gX 26 1 8 #[.int .u8 1, .int .i64 0, .int .i64 0, .int .i64 40, .int .i64 24, .int .i64 1, .slice none 0 0] 0 7 S ?_; clear S; intro dV S)
  | (refine boxS 2 _ 26 S ?_; clear S; intro b2 fV S)
  | (refine gX 26 2 10 #[.int .u8 1, .int .i64 41, .int .i64 0, .int .i64 39, .int .i64 24, .int .i64 2, .slice none 0 0] 0 7 S ?_; clear S; intro iQ S; obtain ⟨jZ, mQ, mV, mW, mX, l7, eH⟩ := St.ed S (.head _); obtain ⟨fM, jV, jW, jX, jY, lZ, iD⟩ := St.ed S bI)
  | ((with_reducible refine aG (N := 14) rfl ?_); refine aau (N := 14) rfl rfl CO CP S.out (Kd.Kq k26 26 _ 0 _) (Kd.Kq k26 26 _ 0 _) ?hr ?_; (case hr => first | (go_simp; done) | (go_simp; rfl)); intro Aq cq mO S1; replace S := ae.mk S1; clear S1; clear jZ mQ mV mW mX l7 eH fM jV jW jX jY lZ iD)
  | (refine boxS 3 _ 26 S ?_; clear S; intro b3 Bz S)
  | (refine gX 26 3 15 #[.int .u8 2, .int .i64 0, .int .i64 0, .int .i64 80, .int .i64 24, .int .i64 0, .slice Aq 2 cq] 0 7 S ?_; clear S; intro yH S; obtain ⟨a_, aW, aY, aX, bM, bP, bC⟩ := St.ed S (.head _))
  | (refine iF (some 18) Try.func114 (NQ HR.out (IZ uD (by decide) 2 1 5 (by decide) _ _ _ _ (fK (S.out.free.tree _ (.head _))))) ?_; rintro e zL ⟨Ax, XW, rfl, h1, hb⟩; refine ⟨_, rfl, ?_⟩; replace S := ae.mk (S.out.free.res (Kd.qL (base' := 0) h1) hb); clear h1 hb; clear a_ aW aY aX bM bP bC)
  | (refine boxS 4 _ 26 S ?_; clear S; intro b4 Ot S)
  | (refine gX 26 4 19 #[.int .u8 X.f0, .int .i64 X.f1.f0, .int .i64 X.f1.f1, .int .i64 X.f1.f2, .int .i64 X.f1.f3, .int .i64 X.f2, .slice Ax X.f3.length XW] 0 7 S ?_; clear S; intro AB S; obtain ⟨ad, ua, uc, ek, S1⟩ := S.out.elem (.head _) ((0 : Nat) : Int) (by decide) RN.out; subst ek; obtain ⟨ad2, ub, uc2, ek, S2⟩ := S1.elem bI ((1 : Nat) : Int) (by decide) HL1.out; injection ek with ek; subst ek; rw [Kt] at S1 S2; have f3 : AB.cell? ⟨ad.block, ad.off + 3, none⟩ = some (.int .i64 45) := (by have h := (S1.cell _ kW).1; rw [HX0.out] at h; exact h); have f10 : AB.cell? ⟨ad.block, ad.off + 10, none⟩ = some (.int .i64 34) := (by have h := (S2.cell _ kW).1; rw [HX1.out] at h; exact h); have akv : AB.cell? ⟨ad.block, ad.off + 7 + 3, none⟩ = some (.int .i64 34) := f10; have hl := HL.out; clear S1 S2; have pK := (S.out.at (.head _) 6).trans rfl)
  | fail)
 clear pK
 go_ret
 exact ⟨rfl, S.out.below⟩
theorem Jw {W : World} {b : Nat} {P : Nat → Prop} {A : Option Addr} {cc : Nat} (c : ai) (hz : sz c ≤ 1048576) (hV : Kd.V k26 26 W b P (.slice A c.f3.length cc) c.f3) :
  Calls Try.prog 79 #[.agg #[.int .u8 c.f0, .int .i64 c.f1.f0, .int .i64 c.f1.f1, .int .i64 c.f1.f2, .int .i64 c.f1.f3, .int .i64 c.f2, .slice A c.f3.length cc]] W fun e w' => ∃ A' c', e = .returned (.slice A' (sz c) c') ∧ Below W.heap.size W w' := (LQ c hz hV).mono (fun _ _ ⟨A', c', he, _, hB⟩ => ⟨A', c', he, hB⟩)
theorem XU {ax id U D : Int} {c : ai} {f : FuncId} {args : Array Value} {W : World} (h : qY ax id true c = U) (k : qY ax id false c = D) (hc : Calls Try.prog f args W fun e w' => e = .returned (.tuple #[.int .i64 (qY ax id true c), .int .i64 (qY ax id false c)]) ∧ Below W.heap.size W w') : Calls Try.prog f args W fun e w' => e = .returned (.tuple #[.int .i64 U, .int .i64 D]) ∧ Below W.heap.size W w' := by
 rw [h, k] at hc
 exact hc
theorem acp (ax id : Int) (m : Bool) (c : ai) : 0 ≤ qY ax id m c ∧ qY ax id m c ≤ 1000000000 := by
 by_cases h : uF ax id c = 0
 ·obtain ⟨p, d, z, q, hF⟩ := Dn h
  rw [sV hF]
  have h1 := Bq (p := gP q m) (g := fun i => az ax (kd z.f3 i)) (m := 10000) (fun i => uQ hF.hax hF.good.jQ i) (by decide) z.f3.length
  have h2 := hF.zs
  have h3 := ik z.f3
  unfold vV
  omega
 ·rw [yX h]; omega
theorem QY (c : ai) (id ax : Int) (A : Option Addr) (cc : Nat) (w : World) (hr : Kd.C k26 w A c.f3.length c.f3) (hc : c.f3.length ≤ cc) (hz : sz c ≤ 1048576) (h1 : ∃ k, jr.f k c.f0 c.f1.f0 c.f1.f1 c.f1.f2 c.f1.f3 c.f2 c.f3 = some true)  :
  Calls Try.prog 31 #[.agg #[.int .u8 c.f0, .int .i64 c.f1.f0, .int .i64 c.f1.f1, .int .i64 c.f1.f2, .int .i64 c.f1.f3, .int .i64 c.f2, .slice A c.f3.length cc], .int .i64 id, .int .u8 ax] w fun e w' => e = .returned (.bool true) ∧ Below w.heap.size w w' := by
 have S := ae.mk (St.start (ts := [(.slice A c.f3.length cc, c.f3)]) (b0 := w.heap.size) (w := w) (P := fun k => k < w.heap.size) (fun t ht => by
  rw [List.mem_singleton.1 ht]; exact Kd.wU hc (Kd.Gj qE hr)))
 have G1 := ae.mk h1
 have KX := ae.mk hz
 clear hr hc h1 hz
 obtain ⟨ck, ⟨cx, cy, cw, ch⟩, aU, l⟩ := c
 simp only [] at S G1 KX ⊢
 go_enter Try.func31, Try.ntmps31
 go_wp2_with (first
  | (refine boxS 3 _ 26 S ?_; clear S; intro b3 dF S; obtain ⟨a_, aW, aY, aX, bM, bP, bC⟩ := St.ed S (.head _))
  | (refine bH (some 18) Try.func34 S (Ir ⟨ck, ⟨cx, cy, cw, ch⟩, aU, l⟩ true G1.out (S.out.tree _ (.head _))) ?_; clear S; intro dV S; clear a_ aW aY aX bM bP bC)
  | (refine bH (some 25) Try.func113 S (Dh) ?_; clear S; intro fV S)
  | fail)
 go_ret
 exact ⟨rfl, S.out.below⟩
theorem UN (c : ai) (id ax : Int) (A : Option Addr) (cc : Nat) (w : World) (hr : Kd.C k26 w A c.f3.length c.f3) (hc : c.f3.length ≤ cc) (hz : sz c ≤ 1048576) (h1 : ∃ k, jr.f k c.f0 c.f1.f0 c.f1.f1 c.f1.f2 c.f1.f3 c.f2 c.f3 = some false) (h3 : 100 < sz c) :
  Calls Try.prog 31 #[.agg #[.int .u8 c.f0, .int .i64 c.f1.f0, .int .i64 c.f1.f1, .int .i64 c.f1.f2, .int .i64 c.f1.f3, .int .i64 c.f2, .slice A c.f3.length cc], .int .i64 id, .int .u8 ax] w fun e w' => e = .returned (.bool true) ∧ Below w.heap.size w w' := by
 have S := ae.mk (St.start (ts := [(.slice A c.f3.length cc, c.f3)]) (b0 := w.heap.size) (w := w) (P := fun k => k < w.heap.size) (fun t ht => by
  rw [List.mem_singleton.1 ht]; exact Kd.wU hc (Kd.Gj qE hr)))
 have G1 := ae.mk h1
 have KX := ae.mk hz
 have h3b : decide ((sz c : Int) > 100) = true := decide_eq_true (by omega)
 have h3c : decide (100 < (sz c : Int)) = true := decide_eq_true (by omega)
 clear h3
 clear hr hc h1 hz
 obtain ⟨ck, ⟨cx, cy, cw, ch⟩, aU, l⟩ := c
 simp only [] at S G1 KX ⊢
 go_enter Try.func31, Try.ntmps31
 go_wp2_with (first
  | (refine boxS 3 _ 26 S ?_; clear S; intro b3 dF S; obtain ⟨a_, aW, aY, aX, bM, bP, bC⟩ := St.ed S (.head _))
  | (refine bH (some 18) Try.func34 S (Ir ⟨ck, ⟨cx, cy, cw, ch⟩, aU, l⟩ false G1.out (S.out.tree _ (.head _))) ?_; clear S; intro dV S; clear a_ aW aY aX bM bP bC; obtain ⟨a_, aW, aY, aX, bM, bP, bC⟩ := St.ed S (.head _))
  | (refine ig 21 rfl ?_; (refine iE (by rfl) ?_; dsimp only); refine iF (some 21) Try.func79 (Jw ⟨ck, ⟨cx, cy, cw, ch⟩, aU, l⟩ KX.out (S.out.tree _ (.head _))) ?_; rintro e fV ⟨Aa, ca, rfl, hb⟩; refine ⟨_, rfl, ?_⟩; replace S := ae.mk (S.out.call hb); clear hb; clear a_ aW aY aX bM bP bC)
  | (refine bH (some 25) Try.func113 S (Dh) ?_; clear S; intro iQ S)
  | fail)
 go_ret
 exact ⟨rfl, S.out.below⟩
theorem UO (c : ai) (id ax : Int) (A : Option Addr) (cc : Nat) (w : World) (hr : Kd.C k26 w A c.f3.length c.f3) (hc : c.f3.length ≤ cc) (hz : sz c ≤ 1048576) (h1 : ∃ k, jr.f k c.f0 c.f1.f0 c.f1.f1 c.f1.f2 c.f1.f3 c.f2 c.f3 = some false) (h3 : ¬ 100 < sz c) :
  Calls Try.prog 31 #[.agg #[.int .u8 c.f0, .int .i64 c.f1.f0, .int .i64 c.f1.f1, .int .i64 c.f1.f2, .int .i64 c.f1.f3, .int .i64 c.f2, .slice A c.f3.length cc], .int .i64 id, .int .u8 ax] w fun e w' => e = .returned (.bool true) ∧ Below w.heap.size w w' := by
 have S := ae.mk (St.start (ts := [(.slice A c.f3.length cc, c.f3)]) (b0 := w.heap.size) (w := w) (P := fun k => k < w.heap.size) (fun t ht => by
  rw [List.mem_singleton.1 ht]; exact Kd.wU hc (Kd.Gj qE hr)))
 have G1 := ae.mk h1
 have KX := ae.mk hz
 have h3b : decide ((sz c : Int) > 100) = false := decide_eq_false (by omega)
 have h3c : decide (100 < (sz c : Int)) = false := decide_eq_false (by omega)
 have XF := ae.mk (show sz c ≤ 1000000 by omega)
 have hp1 := N7 (ax := ax) (id := id) (bu := 1099511627776) (c := c) (by decide)
 have hp2 := N7 (ax := ax) (id := id) (bu := -1099511627776) (c := c) (by decide)
 have hbd := acp ax id false c
 rw [show decide ((0 : Int) < 1099511627776) = true from rfl, if_pos rfl] at hp1
 rw [show decide ((0 : Int) < -1099511627776) = false from rfl, if_neg (by simp)] at hp2
 obtain ⟨⟨z1, n1, e1⟩, ha⟩ : ∃ r, pM ax id 1099511627776 c = r := ⟨_, rfl⟩
 obtain ⟨⟨z2, n2, e2⟩, hb⟩ : ∃ r, pM ax id (-1099511627776) c = r := ⟨_, rfl⟩
 obtain ⟨U, hU⟩ : ∃ u, qY ax id true c = u := ⟨_, rfl⟩
 obtain ⟨D, hD⟩ : ∃ u, qY ax id false c = u := ⟨_, rfl⟩
 rw [ha, hU] at hp1
 rw [hb, hD] at hp2
 rw [hD] at hbd
 have hp1 : n1 = U := hp1
 have hp2 : n2 = -D := hp2
 subst hp1
 have hw : wrap64 (-D) = n2 := by rw [hp2]; unfold wrap64; omega
 have HR1 := ae.mk ha
 have HR2 := ae.mk hb
 have HU := ae.mk hU
 have HD := ae.mk hD
 clear ha hb hU hD hp2 hbd h3
 clear hr hc h1 hz
 obtain ⟨ck, ⟨cx, cy, cw, ch⟩, aU, l⟩ := c
 simp only [] at S G1 KX ⊢
 go_enter Try.func31, Try.ntmps31
 go_wp2_with (first
  | (refine boxS 3 _ 26 S ?_; clear S; intro b3 dF S; obtain ⟨a_, aW, aY, aX, bM, bP, bC⟩ := St.ed S (.head _))
  | (refine bH (some 18) Try.func34 S (Ir ⟨ck, ⟨cx, cy, cw, ch⟩, aU, l⟩ false G1.out (S.out.tree _ (.head _))) ?_; clear S; intro dV S; clear a_ aW aY aX bM bP bC; obtain ⟨a_, aW, aY, aX, bM, bP, bC⟩ := St.ed S (.head _))
  | (refine ig 21 rfl ?_; (refine iE (by rfl) ?_; dsimp only); refine iF (some 21) Try.func79 (Jw ⟨ck, ⟨cx, cy, cw, ch⟩, aU, l⟩ KX.out (S.out.tree _ (.head _))) ?_; rintro e fV ⟨Aa, ca, rfl, hb⟩; refine ⟨_, rfl, ?_⟩; replace S := ae.mk (S.out.call hb); clear hb; clear a_ aW aY aX bM bP bC; obtain ⟨a_, aW, aY, aX, bM, bP, bC⟩ := St.ed S (.head _))
  | (refine bH (some 30) Try.func118 S (XU HU.out HD.out (aco ⟨ck, ⟨cx, cy, cw, ch⟩, aU, l⟩ XF.out id ax _ _ _ _ _ (S.out.tree _ (.head _)))) ?_; clear S; intro iQ S; clear a_ aW aY aX bM bP bC; obtain ⟨a_, aW, aY, aX, bM, bP, bC⟩ := St.ed S (.head _))
  | (refine bH (some 37) Try.func119 S (XU HU.out HD.out (aaH ⟨ck, ⟨cx, cy, cw, ch⟩, aU, l⟩ XF.out id ax _ _ _ _ _ (S.out.tree _ (.head _)))) ?_; clear S; intro mO S; clear a_ aW aY aX bM bP bC; obtain ⟨a_, aW, aY, aX, bM, bP, bC⟩ := St.ed S (.head _))
  | (refine Ez (some 44) Try.func114 S (NQ HR1.out (IZ ⟨ck, ⟨cx, cy, cw, ch⟩, aU, l⟩ XF.out id ax 1099511627776 (by decide) _ A cc _ (fK (S.out.tree _ (.head _))))) ?_; clear S; intro A44 c44 Bz S; clear a_ aW aY aX bM bP bC)
  | (refine boxS 11 _ 26 S ?_; clear S; intro b11 yH S)
  | (refine gX 26 11 45 #[.int .u8 z1.f0, .int .i64 z1.f1.f0, .int .i64 z1.f1.f1, .int .i64 z1.f1.f2, .int .i64 z1.f1.f3, .int .i64 z1.f2, .slice A44 z1.f3.length c44] 0 7 S ?_; clear S; intro zL S; obtain ⟨a_, aW, aY, aX, bM, bP, bC⟩ := St.ed S bI)
  | (refine Ez (some 52) Try.func114 S (NQ HR2.out (IZ ⟨ck, ⟨cx, cy, cw, ch⟩, aU, l⟩ XF.out id ax (-1099511627776) (by decide) _ A cc _ (fK (S.out.tree _ bI)))) ?_; clear S; intro A52 c52 Ot S; clear a_ aW aY aX bM bP bC)
  | (refine boxS 14 _ 26 S ?_; clear S; intro b14 AB S)
  | (refine gX 26 14 53 #[.int .u8 z2.f0, .int .i64 z2.f1.f0, .int .i64 z2.f1.f1, .int .i64 z2.f1.f2, .int .i64 z2.f1.f3, .int .i64 z2.f2, .slice A52 z2.f3.length c52] 0 7 S ?_; clear S; intro Oq S)
  | (refine ig 76 rfl ?_; (refine iE (by rfl) ?_; dsimp only); refine bH (some 76) Try.func113 S (Dh) ?_; clear S; intro aev S)
  | fail)
 go_ret
 exact ⟨rfl, S.out.below⟩
def lC.f (a0 a1 a2 a3 a4 a5 : Int) (l : List ai) (_ : Int) (_ : Int) : Option Bool := if sz ⟨a0, ⟨a1, a2, a3, a4⟩, a5, l⟩ ≤ 1048576 then some true else none
theorem N8 (c : ai) (id : Int) (ax : Int) (A : Option Addr) (cc : Nat) (w : World) (hr : Kd.C k26 w A c.f3.length c.f3) (hc : c.f3.length ≤ cc) (hz : sz c ≤ 1048576) :
  Calls Try.prog 31 #[.agg #[.int .u8 c.f0, .int .i64 c.f1.f0, .int .i64 c.f1.f1, .int .i64 c.f1.f2, .int .i64 c.f1.f3, .int .i64 c.f2, .slice A c.f3.length cc], .int .i64 id, .int .u8 ax] w fun e w' => e = .returned (.bool true) ∧ Below w.heap.size w w' := by
 obtain ⟨g, eg, hg⟩ := V_ c hz
 cases g with
 | true => exact QY c id ax A cc w hr hc hz eg.rounds
 | false =>
  by_cases h3 : 100 < sz c
  ·exact UN c id ax A cc w hr hc hz eg.rounds h3
  ·exact UO c id ax A cc w hr hc hz eg.rounds h3
theorem lC.calls (au aI aC aH bz bD : Int) (dG : Option Addr) (dH : Nat) (aQ : List ai) (a1 : Int) (a2 : Int) (r : Bool) (w : World) (rD : Kd.C k26 w dG aQ.length aQ) (tq : aQ.length ≤ dH) (h : lC.f au aI aC aH bz bD aQ a1 a2 = some r) :
  Calls Try.prog 31 #[.agg #[.int .u8 au, .int .i64 aI, .int .i64 aC, .int .i64 aH, .int .i64 bz, .int .i64 bD, .slice dG aQ.length dH], .int .i64 a1, .int .u8 a2] w fun e w' => e = .returned (.bool r) ∧ Below w.heap.size w w' := by
 unfold lC.f at h
 split at h
 ·rename_i hz
  injection h with h
  subst h
  exact N8 ⟨au, ⟨aI, aC, aH, bz⟩, bD, aQ⟩ a1 a2 dG dH w rD tq hz
 ·exact absurd h (by simp)
end Go.Proofs.Ytfdmfgaiblfbhaa.P
namespace Go.Proofs.Ytfdmfgaiblfbhaa.P
open Go.RowKit Go.Proofs.ag.aK Go.Proofs.ag.bG Go.Proofs.ag.bV
open Go.ChangeShapes Go.WideShapes Go.ChangeAt Go.Joins Go.Deep
def I64 (n : Int) : Prop := -9223372036854775808 ≤ n ∧ n ≤ 9223372036854775807
def U8 (n : Int) : Prop := 0 ≤ n ∧ n ≤ 255
def aey (r : dD) : Prop := I64 r.f0 ∧ I64 r.f1 ∧ I64 r.f2 ∧ I64 r.f3
def EI : Nat → ai → Prop
 | 0, _ => False
 | n + 1, c => U8 c.f0 ∧ aey c.f1 ∧ I64 c.f2 ∧ c.f3.length ≤ 9223372036854775807 ∧ ∀ k, k ∈ c.f3 → EI n k
def aez (c : ai) : Prop := ∃ n, EI n c
theorem Ou : ∀ {n m : Nat} (_ : n ≤ m) {c : ai}, EI n c → EI m c
 | 0, _, _, _, h => h.elim
 | n + 1, 0, hm, _, _ => absurd hm (by omega)
 | n + 1, m + 1, hm, _, h => ⟨h.1, h.2.1, h.2.2.1, h.2.2.2.1, fun k hk => Ou (by omega) (h.2.2.2.2 k hk)⟩
section
variable {H : Type} {enc : TypeId × Value → H} {P : Program} {w : World} {base : Nat} {spare : Nat → Bool} {held : Bool}
theorem row_of {α : Type} {Q : Nat → α → Prop} : ∀ (n : Nat), (∀ i, i < n → ∃ p, Q i p) → ∃ l : List α, l.length = n ∧ ∀ i p, l[i]? = some p → Q i p
 | 0, _ => ⟨[], rfl, fun i p h => by simp at h⟩
 | n + 1, h => by
  obtain ⟨l, hl, hq⟩ := row_of n fun i hi => h i (by omega)
  obtain ⟨p, hp⟩ := h n (by omega)
  refine ⟨l ++ [p], by simp [hl], fun i q hi => ?_⟩
  rcases Nat.lt_trichotomy i n with h1 | h1 | h1
  ·rw [List.getElem?_append_left (by omega)] at hi
   exact hq i q hi
  ·subst h1
   rw [List.getElem?_append_right (by omega), hl, Nat.sub_self] at hi
   obtain rfl : p = q := by simpa using hi
   exact hp
  ·rw [List.getElem?_eq_none (by simp; omega)] at hi
   cases hi
theorem cells_at {a : Addr} {n : Nat} {cs : List Value} (h : w.cells? base a n = some cs) : cs.length = n ∧ ∀ i u, cs[i]? = some u → w.cell? (a.add i) = some u := by
 obtain ⟨_, h1, h2⟩ := World.cells?_some h
 exact ⟨h1, fun i u hi => by
  have hlt : i < n := by rw [← h1]; exact (List.getElem?_eq_some_iff.1 hi).1
  rw [h2 i hlt, hi]⟩
end
section
variable {H : Type} {enc : TypeId × Value → H} {w : World} {base : Nat} {spare : Nat → Bool} {held : Bool}
theorem Be {n : Int} (h : (Lit.int .i64 n).wf = true) : I64 n := by
 have := bounds_i64 h
 unfold I64
 omega
theorem Yj {n : Int} (h : (Lit.int .u8 n).wf = true) : U8 n := bounds_u8 h
theorem aca {a : Array Value} {l : List Value} (h : (Value.agg a).cells.toList = l) : a = l.toArray := by
 subst h
 simp [Value.cells]
theorem cells23 : Try.prog.cellsOf 23 = 4 := by kernel_rfl
theorem cells26 : Try.prog.cellsOf 26 = 7 := by kernel_rfl
theorem cells3 : Try.prog.cellsOf 3 = 1 := by kernel_rfl
theorem cells5 : Try.prog.cellsOf 5 = 1 := by kernel_rfl
theorem cells24 : Try.prog.cellsOf 24 = 1 := by kernel_rfl
theorem aeh {fuel : Nat} {cs : List Value} {x : DataW H × List MemPlace} (h : DataW.trod enc Try.prog w base spare held fuel 23 cs = some x) : ∃ r : dD, k23.K w r cs ∧ aey r := by
 obtain ⟨y0, y1, y2, y3, n, _, hl, h0, h1, h2, h3⟩ := trod_struct4 Try.underlying23 h
 rw [cells23] at hl
 match cs, hl with
 | [c0, c1, c2, c3], _ =>
  simp only [cells3, List.drop_zero, List.take_succ_cons, List.take_zero, List.drop_succ_cons] at h0 h1 h2 h3
  obtain ⟨n0, e0, _, w0⟩ := DataW.trod_int Try.underlying3 h0
  obtain ⟨n1, e1, _, w1⟩ := DataW.trod_int Try.underlying3 h1
  obtain ⟨n2, e2, _, w2⟩ := DataW.trod_int Try.underlying3 h2
  obtain ⟨n3, e3, _, w3⟩ := DataW.trod_int Try.underlying3 h3
  simp only [List.cons.injEq, and_true] at e0 e1 e2 e3
  subst e0 e1 e2 e3
  exact ⟨⟨n0, n1, n2, n3⟩, NK w ⟨n0, n1, n2, n3⟩, Be w0, Be w1, Be w2, Be w3⟩
end
end Go.Proofs.Ytfdmfgaiblfbhaa.P
namespace Go.Proofs.Ytfdmfgaiblfbhaa.Pure
open Go.RowKit Go.Proofs.Ytfdmfgaiblfbhaa.P Go.Proofs.ag.aK Go.Proofs.ag.bG Go.Proofs.ag.bV
theorem PushCan : ∀ (a0 : ai) (a1 : Int) (a2 : Int), aez a0 → sz a0 ≤ 1048576 → I64 a1 → U8 a2 → lC.f a0.f0 a0.f1.f0 a0.f1.f1 a0.f1.f2 a0.f1.f3 a0.f2 a0.f3 a1 a2 = some true := by
 intro c id ax _ hz _ _
 unfold lC.f
 rw [GR, if_pos hz]
end Go.Proofs.Ytfdmfgaiblfbhaa.Pure
namespace Go.Proofs.Ytfdmfgaiblfbhaa.P
open Go.RowKit
def JC : List Char := [104, 97, 114, 110, 101, 115, 115, 32, 57, 48, 98, 52, 50, 100, 98, 100, 99, 50, 52, 54, 55, 51, 50, 51, 56, 57, 50, 48, 100, 50, 50, 98, 56, 57, 53, 102, 48, 48, 55, 48, 53, 101, 102, 48, 53, 53, 102, 54, 54, 55, 97, 57, 54, 56, 100, 50, 56, 97, 57, 52, 55, 52, 56, 57, 49, 49, 48, 97, 48, 101, 53, 55, 32, 99, 117, 116, 32, 97, 116, 32, 115, 97, 115, 104, 47, 115, 97, 115, 104, 108, 97, 119, 48, 55, 46, 70, 108, 97, 116, 78, 101, 120, 116, 115, 32, 115, 97, 115, 104, 47, 115, 97, 115, 104, 108, 97, 119, 48, 55, 46, 70, 108, 97, 116, 76, 105, 115, 116, 115, 32, 115, 97, 115, 104, 47, 115, 97, 115, 104, 108, 97, 119, 48, 52, 46, 82, 101, 99, 116, 67, 117, 116, 115, 32, 115, 97, 115, 104, 47, 115, 97, 115, 104, 108, 97, 119, 48, 57, 46, 65, 100, 106, 117, 115, 116, 83, 104, 97, 114, 101, 115, 32, 115, 97, 115, 104, 47, 115, 97, 115, 104, 108, 97, 119, 48, 57, 46, 65, 100, 106, 117, 115, 116, 69, 118, 101, 110, 115, 32, 115, 97, 115, 104, 47, 115, 97, 115, 104, 108, 97, 119, 49, 54, 46, 83, 112, 114, 101, 97, 100, 83, 105, 122, 101, 115, 32, 115, 97, 115, 104, 47, 115, 97, 115, 104, 108, 97, 119, 48, 55, 46, 70, 108, 97, 116, 67, 104, 97, 110, 103, 101, 115, 32, 115, 97, 115, 104, 47, 115, 97, 115, 104, 108, 97, 119, 48, 52, 46, 82, 101, 99, 116, 73, 110, 115, 105, 100, 101, 32, 115, 97, 115, 104, 47, 115, 97, 115, 104, 108, 97, 119, 48, 55, 46, 70, 108, 97, 116, 78, 97, 109, 101, 115, 32, 115, 97, 115, 104, 47, 115, 97, 115, 104, 108, 97, 119, 48, 57, 46, 65, 100, 106, 117, 115, 116, 83, 101, 116, 115, 32, 115, 97, 115, 104, 47, 115, 97, 115, 104, 108, 97, 119, 48, 52, 46, 82, 101, 99, 116, 77, 101, 101, 116, 115, 32, 115, 97, 115, 104, 47, 115, 97, 115, 104, 108, 97, 119, 48, 52, 46, 82, 101, 99, 116, 77, 97, 121, 115, 32, 115, 97, 115, 104, 47, 115, 97, 115, 104, 108, 97, 119, 48, 55, 46, 70, 108, 97, 116, 83, 116, 105, 108, 108, 32, 115, 97, 115, 104, 47, 115, 97, 115, 104, 108, 97, 119, 48, 53, 46, 67, 101, 108, 108, 77, 97, 121, 115, 32, 115, 97, 115, 104, 47, 115, 97, 115, 104, 108, 97, 119, 48, 53, 46, 67, 101, 108, 108, 83, 97, 109, 101, 32, 115, 97, 115, 104, 47, 115, 97, 115, 104, 108, 97, 119, 48, 53, 46, 67, 101, 108, 108, 67, 111, 117, 110, 116, 115, 32, 115, 97, 115, 104, 47, 115, 97, 115, 104, 108, 97, 119, 48, 56, 46, 76, 101, 97, 115, 116, 83, 117, 109, 115, 32, 115, 97, 115, 104, 47, 115, 97, 115, 104, 108, 97, 119, 48, 53, 46, 67, 101, 108, 108, 70, 105, 110, 100, 115, 32, 115, 97, 115, 104, 47, 115, 97, 115, 104, 108, 97, 119, 48, 56, 46, 76, 101, 97, 115, 116, 73, 115, 32, 115, 97, 115, 104, 47, 115, 97, 115, 104, 108, 97, 119, 48, 56, 46, 76, 101, 97, 115, 116, 70, 105, 116, 115, 32, 115, 97, 115, 104, 47, 115, 97, 115, 104, 108, 97, 119, 48, 56, 46, 76, 101, 97, 115, 116, 80, 97, 116, 104, 115, 32, 115, 97, 115, 104, 47, 115, 97, 115, 104, 108, 97, 119, 48, 53, 46, 67, 101, 108, 108, 80, 117, 116, 115, 32, 115, 97, 115, 104, 47, 115, 97, 115, 104, 108, 97, 119, 49, 50, 46, 83, 112, 108, 105, 116, 83, 105, 122, 101, 115, 32, 115, 97, 115, 104, 47, 115, 97, 115, 104, 108, 97, 119, 49, 54, 46, 83, 112, 114, 101, 97, 100, 65, 108, 108, 32, 115, 97, 115, 104, 47, 115, 97, 115, 104, 108, 97, 119, 49, 54, 46, 83, 112, 114, 101, 97, 100, 65, 116, 32, 115, 97, 115, 104, 47, 115, 97, 115, 104, 108, 97, 119, 49, 52, 46, 80, 117, 115, 104, 73, 115, 32, 115, 97, 115, 104, 47, 115, 97, 115, 104, 108, 97, 119, 49, 52, 46, 80, 117, 115, 104, 79, 110, 101, 32, 115, 97, 115, 104, 47, 115, 97, 115, 104, 108, 97, 119, 49, 52, 46, 80, 117, 115, 104, 70, 114, 97, 109, 101, 115, 32, 115, 97, 115, 104, 47, 115, 97, 115, 104, 108, 97, 119, 49, 52, 46, 80, 117, 115, 104, 67, 97, 110, 32, 115, 97, 115, 104, 47, 115, 97, 115, 104, 108, 97, 119, 49, 50, 46, 83, 112, 108, 105, 116, 73, 115, 32, 115, 97, 115, 104, 47, 115, 97, 115, 104, 108, 97, 119, 49, 50, 46, 83, 112, 108, 105, 116, 67, 97, 110].map Char.ofNat
def JD : List (List Char) := [[104, 97, 114, 110, 101, 115, 115].map Char.ofNat,
 [57, 48, 98, 52, 50, 100, 98, 100, 99, 50, 52, 54, 55, 51, 50, 51, 56, 57, 50, 48, 100, 50, 50, 98, 56, 57, 53, 102, 48, 48, 55, 48, 53, 101, 102, 48, 53, 53, 102, 54, 54, 55, 97, 57, 54, 56, 100, 50, 56, 97, 57, 52, 55, 52, 56, 57, 49, 49, 48, 97, 48, 101, 53, 55].map Char.ofNat,
 [99, 117, 116].map Char.ofNat,
 [97, 116].map Char.ofNat,
 [115, 97, 115, 104, 47, 115, 97, 115, 104, 108, 97, 119, 48, 55, 46, 70, 108, 97, 116, 78, 101, 120, 116, 115].map Char.ofNat,
 [115, 97, 115, 104, 47, 115, 97, 115, 104, 108, 97, 119, 48, 55, 46, 70, 108, 97, 116, 76, 105, 115, 116, 115].map Char.ofNat,
 [115, 97, 115, 104, 47, 115, 97, 115, 104, 108, 97, 119, 48, 52, 46, 82, 101, 99, 116, 67, 117, 116, 115].map Char.ofNat,
 [115, 97, 115, 104, 47, 115, 97, 115, 104, 108, 97, 119, 48, 57, 46, 65, 100, 106, 117, 115, 116, 83, 104, 97, 114, 101, 115].map Char.ofNat,
 [115, 97, 115, 104, 47, 115, 97, 115, 104, 108, 97, 119, 48, 57, 46, 65, 100, 106, 117, 115, 116, 69, 118, 101, 110, 115].map Char.ofNat,
 [115, 97, 115, 104, 47, 115, 97, 115, 104, 108, 97, 119, 49, 54, 46, 83, 112, 114, 101, 97, 100, 83, 105, 122, 101, 115].map Char.ofNat,
 [115, 97, 115, 104, 47, 115, 97, 115, 104, 108, 97, 119, 48, 55, 46, 70, 108, 97, 116, 67, 104, 97, 110, 103, 101, 115].map Char.ofNat,
 [115, 97, 115, 104, 47, 115, 97, 115, 104, 108, 97, 119, 48, 52, 46, 82, 101, 99, 116, 73, 110, 115, 105, 100, 101].map Char.ofNat,
 [115, 97, 115, 104, 47, 115, 97, 115, 104, 108, 97, 119, 48, 55, 46, 70, 108, 97, 116, 78, 97, 109, 101, 115].map Char.ofNat,
 [115, 97, 115, 104, 47, 115, 97, 115, 104, 108, 97, 119, 48, 57, 46, 65, 100, 106, 117, 115, 116, 83, 101, 116, 115].map Char.ofNat,
 [115, 97, 115, 104, 47, 115, 97, 115, 104, 108, 97, 119, 48, 52, 46, 82, 101, 99, 116, 77, 101, 101, 116, 115].map Char.ofNat,
 [115, 97, 115, 104, 47, 115, 97, 115, 104, 108, 97, 119, 48, 52, 46, 82, 101, 99, 116, 77, 97, 121, 115].map Char.ofNat,
 [115, 97, 115, 104, 47, 115, 97, 115, 104, 108, 97, 119, 48, 55, 46, 70, 108, 97, 116, 83, 116, 105, 108, 108].map Char.ofNat,
 [115, 97, 115, 104, 47, 115, 97, 115, 104, 108, 97, 119, 48, 53, 46, 67, 101, 108, 108, 77, 97, 121, 115].map Char.ofNat,
 [115, 97, 115, 104, 47, 115, 97, 115, 104, 108, 97, 119, 48, 53, 46, 67, 101, 108, 108, 83, 97, 109, 101].map Char.ofNat,
 [115, 97, 115, 104, 47, 115, 97, 115, 104, 108, 97, 119, 48, 53, 46, 67, 101, 108, 108, 67, 111, 117, 110, 116, 115].map Char.ofNat,
 [115, 97, 115, 104, 47, 115, 97, 115, 104, 108, 97, 119, 48, 56, 46, 76, 101, 97, 115, 116, 83, 117, 109, 115].map Char.ofNat,
 [115, 97, 115, 104, 47, 115, 97, 115, 104, 108, 97, 119, 48, 53, 46, 67, 101, 108, 108, 70, 105, 110, 100, 115].map Char.ofNat,
 [115, 97, 115, 104, 47, 115, 97, 115, 104, 108, 97, 119, 48, 56, 46, 76, 101, 97, 115, 116, 73, 115].map Char.ofNat,
 [115, 97, 115, 104, 47, 115, 97, 115, 104, 108, 97, 119, 48, 56, 46, 76, 101, 97, 115, 116, 70, 105, 116, 115].map Char.ofNat,
 [115, 97, 115, 104, 47, 115, 97, 115, 104, 108, 97, 119, 48, 56, 46, 76, 101, 97, 115, 116, 80, 97, 116, 104, 115].map Char.ofNat,
 [115, 97, 115, 104, 47, 115, 97, 115, 104, 108, 97, 119, 48, 53, 46, 67, 101, 108, 108, 80, 117, 116, 115].map Char.ofNat,
 [115, 97, 115, 104, 47, 115, 97, 115, 104, 108, 97, 119, 49, 50, 46, 83, 112, 108, 105, 116, 83, 105, 122, 101, 115].map Char.ofNat,
 [115, 97, 115, 104, 47, 115, 97, 115, 104, 108, 97, 119, 49, 54, 46, 83, 112, 114, 101, 97, 100, 65, 108, 108].map Char.ofNat,
 [115, 97, 115, 104, 47, 115, 97, 115, 104, 108, 97, 119, 49, 54, 46, 83, 112, 114, 101, 97, 100, 65, 116].map Char.ofNat,
 [115, 97, 115, 104, 47, 115, 97, 115, 104, 108, 97, 119, 49, 52, 46, 80, 117, 115, 104, 73, 115].map Char.ofNat,
 [115, 97, 115, 104, 47, 115, 97, 115, 104, 108, 97, 119, 49, 52, 46, 80, 117, 115, 104, 79, 110, 101].map Char.ofNat,
 [115, 97, 115, 104, 47, 115, 97, 115, 104, 108, 97, 119, 49, 52, 46, 80, 117, 115, 104, 70, 114, 97, 109, 101, 115].map Char.ofNat,
 [115, 97, 115, 104, 47, 115, 97, 115, 104, 108, 97, 119, 49, 52, 46, 80, 117, 115, 104, 67, 97, 110].map Char.ofNat,
 [115, 97, 115, 104, 47, 115, 97, 115, 104, 108, 97, 119, 49, 50, 46, 83, 112, 108, 105, 116, 73, 115].map Char.ofNat,
 [115, 97, 115, 104, 47, 115, 97, 115, 104, 108, 97, 119, 49, 50, 46, 83, 112, 108, 105, 116, 67, 97, 110].map Char.ofNat]
theorem TQ : Try.prog.initOrder.toList = JC := by
 have e : Try.prog.initOrder = String.ofList JC := by kernel_rfl
 rw [e, String.toList_ofList]
theorem QI : wordsSigns Try.prog.initOrder.toList = JD := by
 rw [TQ]
 kernel_rfl
def wX : List (List Char) := JD.drop 3
theorem Ox : behindMainWord (wordsSigns Try.prog.initOrder.toList) = ([99, 117, 116].map Char.ofNat) :: wX := by
 rw [QI]
 kernel_rfl
theorem acI : ([99, 117, 116].map Char.ofNat : List Char) = "cut".toList := by decide +kernel
theorem zq : behindMainWord (wordsSigns Try.prog.initOrder.toList) = "cut".toList :: wX := Ox.trans (congrArg (fun c => c :: wX) acI)
theorem Hz (rest : List (List Char)) : stripLifts liftWords ("cut".toList :: rest) = ([], "cut".toList :: rest) := by
 have key : ∀ (l : List String), (l.all fun o => !("cut".toList == o.toList)) = true → stripLifts l ("cut".toList :: rest) = ([], "cut".toList :: rest) := by
  intro l
  induction l with
  | nil => intro _; rfl
  | cons o l ih =>
   intro h
   simp only [List.all_cons, Bool.and_eq_true] at h
   unfold stripLifts
   rw [if_neg (by simpa using h.1)]
   exact ih h.2
 exact key _ (by decide +kernel)
theorem aax (P : Program) (rest : List (List Char)) (h : behindMainWord (wordsSigns P.initOrder.toList) = "cut".toList :: rest) : P.make = some .cut := by
 unfold Program.make
 rw [h]
 simp only
 have h1 : ("cut".toList == "gc".toList) = false := by decide +kernel
 have h2 : ("cut".toList == "spec".toList) = false := by decide +kernel
 rw [h1, h2, if_neg (by simp), if_pos (by simp)]
theorem WE (P : Program) (rest : List (List Char)) (h : behindMainWord (wordsSigns P.initOrder.toList) = "cut".toList :: rest) : P.headLifts = [] := by
 unfold Program.headLifts
 simp only [h, Hz]
 simp
theorem V4 (P : Program) (rest : List (List Char)) (h : behindMainWord (wordsSigns P.initOrder.toList) = "cut".toList :: rest) : P.liftsFinal = false := by
 have h1 : (some "cut".toList == some "carried".toList) = false := by decide +kernel
 unfold Program.liftsFinal
 simp only [h, WE P rest h, List.head?_cons, h1, Bool.false_and, List.contains_nil, Bool.or_false]
theorem VX (P : Program) (rest : List (List Char)) (h : behindMainWord (wordsSigns P.initOrder.toList) = "cut".toList :: rest) (h1 : P.laysLater = false) (h2 : P.bearsReflect = false) (h3 : P.doorFits [] = true) : P.mayEnter = true := by
 unfold Program.mayEnter
 rw [h]
 simp only [Hz]
 rw [h1, h2, h3]
 simp
theorem TR : Try.prog.make = some .cut := aax Try.prog wX zq
theorem QF : Try.prog.liftsFinal = false := V4 Try.prog wX zq
theorem QH : Try.prog.laysLater = false := by kernel_rfl
theorem Nu : Try.prog.bearsReflect = false := by kernel_rfl
theorem TN : Try.prog.doorFits [] = true := by kernel_rfl
theorem QE : Try.prog.mayEnter = true := VX Try.prog wX zq QH Nu TN
theorem TP : (true == Try.prog.plainKeys) = true := by kernel_rfl
theorem QG : Try.prog.stopsHeard = true := by kernel_rfl
theorem Um {P : Program} {f : FuncId} {fn : Func} {s : ChangeSpec} {c : OpenClaim}
  (h0 : (c.wf (OpenSpec.ofChange s)) = true)
  (h1 : (laidOutB P) = true)
  (h2 : (mapsRowed P) = true)
  (h3 : (fn.params.all (P.readableRec ·)) = true)
  (h4 : (namedTie P c.named s.vars) = true)
  (h5 : ((c.stops == [])) = true)
  (h6 : ((P.stops == [])) = true)
  (h7 : ((c.knobs == [])) = true)
  (h8 : ((P.stopKnobs == [])) = true)
  (h9 : ((c.inPlace == P.inPlace f)) = true)
  (h10 : ((c.unfollowed == P.unfollowed f)) = true)
  (h11 : ((c.recurses == P.recurses f)) = true)
  (h12 : ((c.named == P.varsNamed f)) = true)
  (h13 : ((c.maps == (fn.params.toList ++ s.plain.varTypes P).any (P.mapsRec ·))) = true)
  (h14 : ((c.ifaces == (fn.params.toList ++ s.plain.varTypes P).any (P.ifacesRec ·))) = true)
  (h15 : ((c.mapsOut == P.mapsAmong fn.resultTypes.toList)) = true)
  (h16 : ((c.loops == (fn.params.toList ++ s.plain.varTypes P).any (P.loopsFrom ·))) = true)
  (h17 : ((c.wideKeys == (fn.params.toList ++ s.plain.varTypes P ++ fn.resultTypes.toList).any (P.wideKeysFrom ·))) = true)
  (h18 : (s.vars.all (P.varReadable ·)) = true)
  (h19 : (fn.resultTypes.all (fun t => P.readableRec t && decide (t < P.types.size))) = true)
  (h20 : ((c.ifacesOut == fn.resultTypes.toList.any (P.ifacesRec ·))) = true)
  (h21 : ((c.loopsOut == fn.resultTypes.toList.any (P.loopsFrom ·))) = true)
  (h22 : ((c.plainKeys == P.plainKeys)) = true)
  (h23 : (c.shortTexts.isNone) = true)
  (h24 : (P.stopsHeard) = true)
  (h25 : (P.mayEnter) = true)
  (h26 : ((c.lifted == P.liftsFinal)) = true)
  (h27 : ((P.make == some c.make)) = true)
  (hd : c.domain.isEmpty = true) (hk : c.kinds = [])
  (h29 : ((c.pinned == c.pinnedBy)) = true)
  (h30 : ((c.veiled == (fn.params.toList ++ s.plain.varTypes P ++ fn.resultTypes.toList).any (P.veiledRec ·))) = true)
  (h31 : (c.veiledFits P fn.params.toList (fn.params.toList ++ s.plain.varTypes P ++ fn.resultTypes.toList)) = true)
  : joinedFacts P f fn s c = true := by
 unfold joinedFacts
 rw [h0, h1, h2, h3, h4, h5, h6, h7, h8, h9, h10, h11, h12, h13, h14, h15, h16, h17, h18, h19, h20, h21, h22, h23, h24, h25, h26, h27, if_pos hd, hk, h29, h30, h31]
 rfl
end Go.Proofs.Ytfdmfgaiblfbhaa.P
namespace Go.Proofs.Ytfdmfgaiblfbhaa.P
open Go.RowKit Go.Proofs.ag.aK Go.Proofs.ag.bG Go.Proofs.ag.bV
open Go.ChangeShapes Go.WideShapes Go.ChangeAt Go.Joins Go.Deep
section
variable {H : Type} {enc : TypeId × Value → H} {P : Program} {w : World} {base : Nat} {spare : Nat → Bool} {held : Bool}
theorem LZ (d : DataW H) : 1 ≤ Rows.uptoBulk d := by
 cases d with
 | lit l => cases l <;> simp [Rows.uptoBulk]
 | _ => simp [Rows.uptoBulk]
theorem VD (l : List (DataW H)) : l.length ≤ Rows.uptoBulkAll l := by
 induction l with
 | nil => simp
 | cons x xs ih =>
  have := LZ x
  simp only [Rows.uptoBulkAll, List.length_cons]
  omega
theorem VE {α : Type} (m : α → Nat) : ∀ (l : List α) (es : List (DataW H)), l.length = es.length → (∀ (i : Nat) (p : α) (e : DataW H), l[i]? = some p → es[i]? = some e → m p ≤ Rows.uptoBulk e) → (l.map m).sum ≤ Rows.uptoBulkAll es := by
 intro l
 induction l with
 | nil => intro es _ _; simp
 | cons x xs ih =>
  intro es hl h
  cases es with
  | nil => simp at hl
  | cons e es =>
   have h0 := h 0 x e rfl rfl
   have h1 := ih es (by simpa using hl) (fun i p e hp he => h (i + 1) p e (by simpa using hp) (by simpa using he))
   simp only [List.map_cons, List.sum_cons, Rows.uptoBulkAll]
   omega
theorem J4 {t : TypeId} {f0 f1 f2 f3 : Field} {fuel : Nat} {cs : List Value} {x : DataW H × List MemPlace} (ht : P.underlying t = some (.struct #[f0, f1, f2, f3])) (h : DataW.trod enc P w base spare held fuel t cs = some x) :
  ∃ y0 y1 y2 y3 n, fuel = n + 1 ∧ x.1 = .agg [y0.1, y1.1, y2.1, y3.1] ∧ cs.length = P.cellsOf t ∧ DataW.trod enc P w base spare held n f0.type ((cs.drop f0.offset).take (P.cellsOf f0.type)) = some y0 ∧
   DataW.trod enc P w base spare held n f1.type ((cs.drop f1.offset).take (P.cellsOf f1.type)) = some y1 ∧ DataW.trod enc P w base spare held n f2.type ((cs.drop f2.offset).take (P.cellsOf f2.type)) = some y2 ∧
   DataW.trod enc P w base spare held n f3.type ((cs.drop f3.offset).take (P.cellsOf f3.type)) = some y3 := by
 obtain ⟨xs, n, hn, rfl, hl, hlen, hf⟩ := DataW.trod_struct ht h
 match xs, hlen with
 | [y0, y1, y2, y3], _ => exact ⟨y0, y1, y2, y3, n, hn, rfl, hl, by simpa using hf 0 f0 rfl, by simpa using hf 1 f1 rfl, by simpa using hf 2 f2 rfl, by simpa using hf 3 f3 rfl⟩
theorem UH {α : Type} {k : Kd α} {ok : α → Prop} (m : α → Nat) {t e : TypeId} {fuel : Nat} {cs : List Value} {x : DataW H × List MemPlace} (ht : P.underlying t = some (.slice e)) (hs : k.sz = P.cellsOf e)
  (hE : ∀ n, n < fuel → ∀ cs y, DataW.trod enc P w base spare held n e cs = some y → ∃ p, k.K w p cs ∧ ok p ∧ m p ≤ Rows.uptoBulk y.1) (h : DataW.trod enc P w base spare held fuel t cs = some x) :
  ∃ A c l, cs = [.slice A (l : List α).length c] ∧ l.length ≤ c ∧ k.C w A l.length l ∧ (∀ p, p ∈ l → ok p) ∧ (l.map m).sum < Rows.uptoBulk x.1 ∧ l.length < Rows.uptoBulk x.1 := by
 rcases DataW.trod_slice ht h with ⟨rfl, rfl⟩ | ⟨a, len, cap, elems, rest, n, hn, rfl, rfl, hb, hl, hm, hlen, hel, hsp, hns⟩
 ·exact ⟨none, 0, [], rfl, Nat.le_refl _, ⟨rfl, by simp, fun h => absurd h (by simp)⟩, (fun p hp => by cases hp), (by simp [Rows.uptoBulk]), (by simp [Rows.uptoBulk])⟩
 ·obtain ⟨l, hl2, hq⟩ := row_of (α := α) (Q := fun i p => ok p ∧ (∃ c, c.length = k.sz ∧ k.K w p c ∧ ∀ j u, c[j]? = some u → w.cell? (a.add (i * k.sz + j)) = some u) ∧ ∀ e, elems[i]? = some e → m p ≤ Rows.uptoBulk e.1) len (fun i hi => by
   have key := hel i hi
   rw [List.getElem?_eq_getElem (by omega)] at key
   obtain ⟨cs', h1, h2⟩ := Option.bind_eq_some_iff.1 key
   obtain ⟨p, hp, hok, hm⟩ := hE n (by omega) cs' _ h2
   obtain ⟨h3, h4⟩ := cells_at h1
   refine ⟨p, hok, ⟨cs', by rw [h3, hs], hp, fun j u hj => ?_⟩, fun e he => ?_⟩
   ·rw [hs, ← Deep.add_add]
    exact h4 j u hj
   ·rw [List.getElem?_eq_getElem (by omega)] at he
    cases he
    exact hm)
  subst hl2
  refine ⟨some a, cap, l, rfl, hl, ⟨rfl, by unfold maxLen at hm; omega, fun _ => ⟨a, rfl, fun j p hj => ?_⟩⟩, fun p hp => ?_, ?_, ?_⟩
  ·obtain ⟨_, ⟨c, h1, h2, h3⟩, _⟩ := hq j p hj
   exact ⟨c, h1, h2, h3⟩
  ·obtain ⟨i, hi, rfl⟩ := List.getElem_of_mem hp
   exact (hq i _ (List.getElem?_eq_getElem hi)).1
  ·have := VE m l (elems.map (·.1)) (by simp [hlen]) (fun i p e hp he => by
    rw [List.getElem?_map] at he
    obtain ⟨e', he', rfl⟩ := Option.map_eq_some_iff.1 he
    exact (hq i p hp).2.2 e' he')
   simp only [Rows.uptoBulk]
   omega
  ·have := VD (elems.map (·.1))
   simp only [List.length_map] at this
   simp only [Rows.uptoBulk]
   omega
end
section
variable {H : Type} {enc : TypeId × Value → H} {w : World} {base : Nat} {spare : Nat → Bool} {held : Bool}
theorem Xf : ∀ (fuel : Nat) {cs : List Value} {x : DataW H × List MemPlace} (_ : DataW.trod enc Try.prog w base spare held fuel 26 cs = some x), ∃ r : ai, (Kd.upto OH 7 [26] fuel).K w r cs ∧ EI fuel r ∧ sz r ≤ Rows.uptoBulk x.1 := by
 intro fuel
 induction fuel using Nat.strongRecOn with
 | _ fuel ih =>
 intro cs x h
 cases fuel with
 | zero => simp [DataW.trod] at h
 | succ fuel =>
  obtain ⟨y0, y1, y2, y3, m, hm, hx, hl, h0, h1, h2, h3⟩ := J4 Try.underlying26 h
  obtain rfl : fuel = m := by omega
  rw [cells26] at hl
  match cs, hl with
  | [c0, c1, c2, c3, c4, c5, c6], _ =>
    simp only [cells3, cells5, cells23, cells24, List.drop_zero, List.take_succ_cons, List.take_zero, List.drop_succ_cons] at h0 h1 h2 h3
    obtain ⟨n0, e0, _, w0⟩ := DataW.trod_int Try.underlying5 h0
    obtain ⟨n2, e2, _, w2⟩ := DataW.trod_int Try.underlying3 h2
    simp only [List.cons.injEq, and_true] at e0 e2
    subst e0 e2
    obtain ⟨r, hr, hw⟩ := aeh h1
    obtain e1 := FW hr
    simp only [List.cons.injEq, and_true] at e1
    obtain ⟨rfl, rfl, rfl, rfl⟩ := e1
    obtain ⟨A, c, l, e3, hlc, hC, hok, hsum, _⟩ := UH (k := Kd.upto OH 7 [26] fuel) (ok := EI fuel) sz Try.underlying24 (by rw [Rj, cells26]) (fun n hn cs y hy => by
     obtain ⟨p, hp, hok, hz⟩ := ih n (by omega) hy
     exact ⟨p, Kd.Ei NT Rj (by omega) hp, Ou (by omega) hok, hz⟩) h3
    simp only [List.cons.injEq, and_true] at e3
    subst e3
    have afu : l.length ≤ 9223372036854775807 := hC.2.1
    refine ⟨⟨n0, r, n2, l⟩, ?_, ⟨Yj w0, hw, Be w2, afu, hok⟩, ?_⟩
    ·exact ⟨[.int .u8 n0], [.int .i64 r.f0, .int .i64 r.f1, .int .i64 r.f2, .int .i64 r.f3, .int .i64 n2, .slice A l.length c], rfl, rfl, [.int .i64 r.f0, .int .i64 r.f1, .int .i64 r.f2, .int .i64 r.f3], [.int .i64 n2, .slice A l.length c], rfl, NK w r, [.int .i64 n2], [.slice A l.length c], rfl, rfl, A, c, rfl, hlc, hC⟩
    ·rw [hx, cO]
     have := aaS l
     simp only [Rows.uptoBulk, Rows.uptoBulkAll]
     have h3 := LZ y0.1
     omega
theorem aaI {fuel : Nat} {cs : List Value} {x : DataW H × List MemPlace} (h : DataW.trod enc Try.prog w base spare held fuel 26 cs = some x) : ∃ r : ai, k26.K w r cs ∧ aez r ∧ sz r ≤ Rows.uptoBulk x.1 := by
 obtain ⟨r, hr, hw, hz⟩ := Xf fuel h
 exact ⟨r, ⟨fuel, hr⟩, ⟨fuel, hw⟩, hz⟩
end
end Go.Proofs.Ytfdmfgaiblfbhaa.P
namespace Go.Proofs.Ytfdmfgaiblfbhaa.ET
open Go.ChangeShapes Go.WideShapes Go.ChangeAt Go.RowKit Go.Proofs.Ytfdmfgaiblfbhaa.P Go.Proofs.ag.aK
open Go.ChangeMaps (open_string shut_string)
theorem own : ownKnob Try.prog.godebug = none := by kernel_rfl
theorem laidOut : laidOutB Try.prog = true := by kernel_rfl
theorem lifted (os : Os) (started : os.Started) (H : Type) (enc : TypeId × Value → H) (F : Stop.Interp) :
  ReturnsInHanded {} Try.checked os 31 .any ((Rows.OpenSpec.upto Rows.pushCanSpec).pre6 enc Try.prog Try.f31 Rows.pushCanUptoRow.domain false) (((Rows.OpenSpec.upto Rows.pushCanSpec).at F).post enc Try.prog Try.f31 false true false false) := by
 refine returnsInHanded_of_cond (C := Try.checked) (s := Rows.OpenSpec.upto Rows.pushCanSpec) (k := Rows.uptoSmall) rfl own started (by kernel_rfl) Try.func31
  (OpenSpec.witness (enc := enc) (C := Try.checked) (s := Rows.OpenSpec.upto Rows.pushCanSpec) (k := Rows.uptoSmall) rfl false ⟨#[], #[.agg #[.int .u8 0, .int .i64 0, .int .i64 0, .int .i64 0, .int .i64 0, .int .i64 0, .slice none 0 0], .int .i64 0, .int .u8 0], []⟩ 8 (by kernel_rfl) (by kernel_rfl) (by kernel_rfl)
   (x := ([.agg [.lit (.int .u8 0), .agg [.lit (.int .i64 0), .lit (.int .i64 0), .lit (.int .i64 0), .lit (.int .i64 0)], .lit (.int .i64 0), .nil], .lit (.int .i64 0), .lit (.int .u8 0)], [], [])) (by kernel_rfl) rfl (by kernel_rfl)) ?_
 intro W base args ds gs before hval0 hW hcnd hk0 _
 have hval : ∀ (j : Nat) t v, Try.f31.params[j]? = some t → args[j]? = some v → Value.okWide Try.prog W .any base t v := hval0
 have hW' := hW
 obtain ⟨p, q, hA0, hV, rfl, hfz, hnd⟩ := hW
 have hA : DataW.TrodAll enc Try.prog W 0 (fun _ => true) true Try.f31.params.toList args.toList ds p := hA0
 rw [Try.params31] at hA hval
 obtain ⟨v0, vs0, d0, ds0, p0, q0, hargs, rfl, rfl, h0, r0⟩ := trodAll_cons hA
 obtain ⟨v1, vs1, d1, ds1, p1, q1, rfl, rfl, rfl, h1, r1⟩ := trodAll_cons r0
 obtain ⟨v2, vs2, d2, ds2, p2, q2, rfl, rfl, rfl, h2, r2⟩ := trodAll_cons r1
 obtain ⟨rfl, rfl, rfl⟩ := trodAll_nil r2
 obtain rfl : args = #[v0, v1, v2] := by cases args; simp_all
 obtain ⟨rfl, rfl⟩ := trodVars_none hV
 have hB := of_decide_eq_true hk0
 simp only [List.cons_append, List.nil_append, List.append_nil, Rows.uptoBulkAll] at hB
 have z0 : Rows.uptoBulk d0 ≤ 1048576 := by omega
 have k0 := h0
 have lt0 : ∀ x ∈ p0, x.block < W.heap.size := by obtain ⟨m, hm⟩ := k0; exact DataW.trod_lt m _ _ _ hm
 obtain ⟨fuel0, hf0⟩ := h0
 obtain ⟨cs0, rfl, _⟩ := okWide_struct Try.underlying26 (hval 0 26 v0 rfl rfl)
 obtain ⟨a0, b0, w0, y0⟩ := aaI hf0
 obtain ⟨A0, c0, e0, hc0, hr0⟩ := BR b0
 obtain rfl := aca e0
 obtain ⟨a1, rfl, rfl, rfl, w1⟩ := open_int Try.underlying3 (hval 1 3 v1 rfl rfl) h1
 obtain ⟨a2, rfl, rfl, rfl, w2⟩ := open_int Try.underlying5 (hval 2 5 v2 rfl rfl) h2
 have hP := Pure.PushCan a0 a1 a2 w0 (Nat.le_trans y0 z0) (Be w1) (Yj w2)
 refine (lC.calls a0.f0 a0.f1.f0 a0.f1.f1 a0.f1.f2 a0.f1.f3 a0.f2 _ _ a0.f3 a1 a2 true W hr0 hc0 hP).mono fun e W' ⟨he, agO⟩ => ?_
 have bel : Below W.heap.size W W' := agO
 subst he
 exact ⟨_, rfl, _, _, _, [], _, [], hW', trodAll_mk1 (shut_bool Try.underlying4 _), (trodAll_cons_mk (Below.trod laidOut (by kernel_rfl) (of_decide_eq_true (by kernel_rfl)) k0 bel lt0) (trodAll_cons_mk (shut_int Try.underlying3 w1) (trodAll_cons_mk (shut_int Try.underlying5 w2) trodAll_mk0))), rfl, bel.frame _, fun h => by cases h⟩
theorem j0 : (Rows.pushCanUptoRow.wf (OpenSpec.ofChange (Rows.OpenSpec.upto Rows.pushCanSpec).bare)) = true := by kernel_rfl
theorem j1 : (laidOutB Try.prog) = true := by kernel_rfl
theorem j2 : (mapsRowed Try.prog) = true := by kernel_rfl
theorem j3 : (Try.f31.params.all (Try.prog.readableRec ·)) = true := by kernel_rfl
theorem j4 : (namedTie Try.prog Rows.pushCanUptoRow.named (Rows.OpenSpec.upto Rows.pushCanSpec).bare.vars) = true := by kernel_rfl
theorem j5 : ((Rows.pushCanUptoRow.stops == [])) = true := by kernel_rfl
theorem j6 : ((Try.prog.stops == [])) = true := by kernel_rfl
theorem j7 : ((Rows.pushCanUptoRow.knobs == [])) = true := by kernel_rfl
theorem j8 : ((Try.prog.stopKnobs == [])) = true := by kernel_rfl
theorem j9 : ((Rows.pushCanUptoRow.inPlace == Try.prog.inPlace 31)) = true := by kernel_rfl
theorem j10 : ((Rows.pushCanUptoRow.unfollowed == Try.prog.unfollowed 31)) = true := by kernel_rfl
theorem j11 : ((Rows.pushCanUptoRow.recurses == Try.prog.recurses 31)) = true := by kernel_rfl
theorem j12 : ((Rows.pushCanUptoRow.named == Try.prog.varsNamed 31)) = true := by kernel_rfl
theorem j13 : ((Rows.pushCanUptoRow.maps == (Try.f31.params.toList ++ (Rows.OpenSpec.upto Rows.pushCanSpec).bare.plain.varTypes Try.prog).any (Try.prog.mapsRec ·))) = true := by kernel_rfl
theorem j14 : ((Rows.pushCanUptoRow.ifaces == (Try.f31.params.toList ++ (Rows.OpenSpec.upto Rows.pushCanSpec).bare.plain.varTypes Try.prog).any (Try.prog.ifacesRec ·))) = true := by kernel_rfl
theorem j15 : ((Rows.pushCanUptoRow.mapsOut == Try.prog.mapsAmong Try.f31.resultTypes.toList)) = true := by kernel_rfl
theorem j16 : ((Rows.pushCanUptoRow.loops == (Try.f31.params.toList ++ (Rows.OpenSpec.upto Rows.pushCanSpec).bare.plain.varTypes Try.prog).any (Try.prog.loopsFrom ·))) = true := by kernel_rfl
theorem j17 : ((Rows.pushCanUptoRow.wideKeys == (Try.f31.params.toList ++ (Rows.OpenSpec.upto Rows.pushCanSpec).bare.plain.varTypes Try.prog ++ Try.f31.resultTypes.toList).any (Try.prog.wideKeysFrom ·))) = true := by kernel_rfl
theorem j18 : ((Rows.OpenSpec.upto Rows.pushCanSpec).bare.vars.all (Try.prog.varReadable ·)) = true := by kernel_rfl
theorem j19 : (Try.f31.resultTypes.all (fun t => Try.prog.readableRec t && decide (t < Try.prog.types.size))) = true := by kernel_rfl
theorem j20 : ((Rows.pushCanUptoRow.ifacesOut == Try.f31.resultTypes.toList.any (Try.prog.ifacesRec ·))) = true := by kernel_rfl
theorem j21 : ((Rows.pushCanUptoRow.loopsOut == Try.f31.resultTypes.toList.any (Try.prog.loopsFrom ·))) = true := by kernel_rfl
theorem j23 : (Rows.pushCanUptoRow.shortTexts.isNone) = true := by kernel_rfl
theorem j29 : ((Rows.pushCanUptoRow.pinned == Rows.pushCanUptoRow.pinnedBy)) = true := by kernel_rfl
theorem j30 : ((Rows.pushCanUptoRow.veiled == (Try.f31.params.toList ++ (Rows.OpenSpec.upto Rows.pushCanSpec).bare.plain.varTypes Try.prog ++ Try.f31.resultTypes.toList).any (Try.prog.veiledRec ·))) = true := by kernel_rfl
theorem j31 : (Rows.pushCanUptoRow.veiledFits Try.prog Try.f31.params.toList (Try.f31.params.toList ++ (Rows.OpenSpec.upto Rows.pushCanSpec).bare.plain.varTypes Try.prog ++ Try.f31.resultTypes.toList)) = true := by kernel_rfl
theorem closed : joinedFacts Try.prog 31 Try.f31 (Rows.OpenSpec.upto Rows.pushCanSpec).bare Rows.pushCanUptoRow = true := P.Um j0 j1 j2 j3 j4 j5 j6 j7 j8 j9 j10 j11 j12 j13 j14 j15 j16 j17 j18 j19 j20 j21 P.TP j23 P.QG P.QE (by rw [P.QF]; rfl) (by rw [P.TR]; rfl) rfl rfl j29 j30 j31
theorem over : Rows.pushCanUptoRow.holds Try.pinned (Rows.OpenSpec.upto Rows.pushCanSpec) :=
 OpenClaim.holds_of_cond 31 Try.f31 rfl rfl rfl rfl rfl rfl rfl ⟨rfl, rfl, rfl, rfl, rfl⟩ rfl rfl rfl rfl rfl (by kernel_rfl) Try.func31 closed
  (of_decide_eq_true (by kernel_rfl)) (by unfold Func.isWrapper; first | (rw [if_pos (by decide +kernel)]; kernel_rfl) | (rw [if_neg (by decide +kernel)]; exact ⟨rfl, rfl⟩))
  (fun os started H enc _ F => lifted os started H enc F)
theorem proved : Rows.PushCanUptoSaid := over
#print axioms proved
end Go.Proofs.Ytfdmfgaiblfbhaa.ET
namespace Go.Proofs.Ytfdmfgaiblfbhaa
theorem pushCanUpto_holds : Rows.PushCanUptoSaid := ET.proved
end Go.Proofs.Ytfdmfgaiblfbhaa
