/- PushIs: part 6 of 7 of this claim's texts, one behind the other, made small by a program: the words of the kit's printer cut down to those that are used, the claim's own names made short. -/
import Derived.Test.YtfdmfgaiblfbhaaMPushIse
import Derived.Test.YtfdmfgaiblfbhaaMPushIsd
import Derived.Test.YtfdmfgaiblfbhaaMPushIsc
set_option maxHeartbeats 8000000
set_option maxRecDepth 100000
set_option linter.unusedVariables false
set_option linter.unusedSimpArgs false
namespace Go.Proofs.Ytfdmfgaiblfbhaa.P
open Go.RowKit Go.Proofs.ag.aV Go.Proofs.ag.bP Go.Proofs.ag.cO
attribute [local go_sem] kJ lM kS l7
def tH.T9 : Bool × List (List Nat × List Nat) := (true, [([], []), ([], []), ([], []), ([1, 2], [1, 2]), ([0, 3], [0, 3]), ([4], [4]), ([5], [5]), ([5], [5]), ([], []), ([8, 6, 4, 0, 1, 2, 3, 4, 5, 6, 8], [6, 8]), ([7, 9, 0, 1, 2, 3, 4, 5, 6, 7, 8, 9], [7])])
def tH.B9 : List Nat := [0, 0, 0, 6, 15, 31, 63, 63, 0, 383, 1023]
theorem tH.xw : iM .any (opsOf Try.f157 9) = tH.T9 := by kernel_rfl
theorem tH.sF : gZ tH.T9.2 tH.B9 = true := by kernel_rfl
def xO.T11 : Bool × List (List Nat × List Nat) := (true, [([], []), ([], []), ([], []), ([1, 2], [1, 2]), ([], []), ([], []), ([4, 5], [4, 5]), ([6], [6]), ([], []), ([8], [8]), ([9], [9]), ([10], [10]), ([7, 11], [7, 11]), ([], []), ([0, 3, 12, 13], [0, 3, 12, 13]), ([14, 0, 1, 2, 3, 4, 5, 6, 7, 8, 9, 10, 11, 12, 13, 14], [14]), ([15, 0, 1, 2, 3, 4, 5, 6, 7, 8, 9, 10, 11, 12, 13, 14, 15], [])])
def xO.B11 : List Nat := [0, 0, 0, 6, 0, 0, 48, 112, 0, 256, 768, 1792, 4080, 0, 16383, 32767, 65535]
theorem xO.aht : iM .any (opsOf Try.f157 11) = xO.T11 := by kernel_rfl
theorem xO.ad8 : gZ xO.T11.2 xO.B11 = true := by kernel_rfl
abbrev aaq (w : World) (n : Int) (e : Ending) (w' : World) : Prop := e = .returned (.tuple #[.agg #[.int .u8 0, .int .i64 0, .int .i64 0, .int .i64 0, .int .i64 0, .int .i64 0, .slice none 0 0, .slice none 0 0, .int .i64 0, .int .u8 0], .int .i64 n]) ∧ Below w.heap.size w w'
abbrev adl (w : World) (P : Nat → Prop) (ax : Int) (p : List Int) (d : Nat) (z : ai) (q : Nat) (e : Ending) (w' : World) : Prop := ∃ Az cz Ap cp op, e = .returned (.tuple #[.agg #[.int .u8 z.f0, .int .i64 z.f1.f0, .int .i64 z.f1.f1, .int .i64 z.f1.f2, .int .i64 z.f1.f3, .int .i64 z.f2, .slice Az z.f3.length cz, .slice Ap (p.take d).length cp, .int .i64 (q : Int), .int .u8 ax], .int .i64 0]) ∧ IR w.heap.size (.slice Ap p.length cp) p op ∧ St w P [((Value.slice Ap p.length cp).ownBlock, op)] [(.slice Az z.f3.length cz, z.f3)] [] [] w'
theorem Q3 (c : ai) (hz : sz c ≤ 1000000) (id ax : Int) (b : Nat) (P : Nat → Prop) (A : Option Addr) (cc : Nat) (w : World) (hv : Kd.V k26 26 w b P (.slice A c.f3.length cc) c.f3) :
  (∀ n, AU ax id c = n → n ≠ 0 → Calls Try.prog 157 #[.agg #[.int .u8 c.f0, .int .i64 c.f1.f0, .int .i64 c.f1.f1, .int .i64 c.f1.f2, .int .i64 c.f1.f3, .int .i64 c.f2, .slice A c.f3.length cc], .int .i64 id, .int .u8 ax] w (aaq w n)) ∧
  (∀ p d z q, dB c = true → (ax = 1 ∨ ax = 2) → iR id c = some p → Ha ax c p = some d → Bg ax c p d z q → Calls Try.prog 157 #[.agg #[.int .u8 c.f0, .int .i64 c.f1.f0, .int .i64 c.f1.f1, .int .i64 c.f1.f2, .int .i64 c.f1.f3, .int .i64 c.f2, .slice A c.f3.length cc], .int .i64 id, .int .u8 ax] w (adl w P ax p d z q)) := by
 have S := ae.mk (St.start (ts := [(.slice A c.f3.length cc, c.f3)]) (b0 := w.heap.size) (w := w) (P := P) (fun t ht => by rw [List.mem_singleton.1 ht]; exact eY hv))
 have EC := ae.mk (show sz c ≤ 1048576 by omega)
 have HZ := ae.mk hz
 have hpl := fun p (h : iR id c = some p) => (D7 id (sz c)).1 c (Nat.le_refl _) p h
 clear hz hv
 obtain ⟨ck, ⟨cx, cy, cw, ch⟩, ay, l⟩ := c
 simp only [] at S ⊢
 constructor
 ·intro n hn hn0
  unfold AU at hn
  cases ht : dB ⟨ck, ⟨cx, cy, cw, ch⟩, ay, l⟩ with
  | false =>
   rw [if_neg (fun h => by rw [ht] at h; cases h.1)] at hn
   subst hn
   have HT := ae.mk ht
   clear ht hn0 hpl
   go_enter Try.func157, Try.ntmps157
   go_wp2_with (first | (refine boxS 3 _ 26 S ?_; clear S; intro b3 di S) | (refine boxS 6 _ 147 S ?_; clear S; intro b6 dS S; obtain ⟨bf, bg, bu, bz, bM, bU, bC⟩ := St.dD S aY) | ((with_reducible refine aG (N := 14) rfl ?_); refine vG (N := 14) rfl rfl ⟨ck, ⟨cx, cy, cw, ch⟩, ay, l⟩ S.out (S.out.tree _ (.head _)) ?hr ?_; (case hr => (go_simp; rfl)); intro SB Tj gq S1 h1 h2; replace S := ae.mk S1; have uy := ae.mk h1; have xR := ae.mk h2; clear S1 h1 h2; clear bf bg bu bz bM bU bC) | (refine bG (some 15) Try.func148 S (mf HT.out (vM ⟨ck, ⟨cx, cy, cw, ch⟩, ay, l⟩ EC.out xR.out uy.out)) ?_; clear S; intro gz S) | (refine gy 147 6 25 #[.int .u8 0, .int .i64 0, .int .i64 0, .int .i64 0, .int .i64 0, .int .i64 0, .slice none 0 0, .slice none 0 0, .int .i64 0, .int .u8 0] 0 10 S ?_; clear S; intro kG S))
   refine bodyPost_ret (eH rfl _ _ b6 147 _ (0, 0) _ rfl (S.out.blk _ (.head _) _ rfl) Try.underlying147 rfl (by kernel_rfl)) rfl ?_
   exact ⟨rfl, S.out.below⟩
  | true =>
   have HT := ae.mk ht
   by_cases h1 : ax = 1 ∨ ax = 2
   case neg =>
    rw [if_neg (fun h => h1 h.2)] at hn
    subst hn
    obtain ⟨hxa, hxb, hxd⟩ := eqF (a := ax) (b := 1) (by omega)
    obtain ⟨hya, hyb, MN⟩ := eqF (a := ax) (b := 2) (by omega)
    clear ht hn0 hpl h1
    go_enter Try.func157, Try.ntmps157
    go_wp2_with (first | (refine boxS 3 _ 26 S ?_; clear S; intro b3 di S) | (refine boxS 6 _ 147 S ?_; clear S; intro b6 dS S; obtain ⟨bf, bg, bu, bz, bM, bU, bC⟩ := St.dD S aY) | ((with_reducible refine aG (N := 14) rfl ?_); refine vG (N := 14) rfl rfl ⟨ck, ⟨cx, cy, cw, ch⟩, ay, l⟩ S.out (S.out.tree _ (.head _)) ?hr ?_; (case hr => (go_simp; rfl)); intro SB Tj gq S1 h1 h2; replace S := ae.mk S1; have uy := ae.mk h1; have xR := ae.mk h2; clear S1 h1 h2; clear bf bg bu bz bM bU bC) | (refine bG (some 15) Try.func148 S (mf HT.out (vM ⟨ck, ⟨cx, cy, cw, ch⟩, ay, l⟩ EC.out xR.out uy.out)) ?_; clear S; intro gz S) | (refine gy 147 6 25 #[.int .u8 0, .int .i64 0, .int .i64 0, .int .i64 0, .int .i64 0, .int .i64 0, .slice none 0 0, .slice none 0 0, .int .i64 0, .int .u8 0] 0 10 S ?_; clear S; intro kG S))
    refine bodyPost_ret (eH rfl _ _ b6 147 _ (0, 0) _ rfl (S.out.blk _ (.head _) _ rfl) Try.underlying147 rfl (by kernel_rfl)) rfl ?_
    exact ⟨rfl, S.out.below⟩
   rw [if_pos ⟨ht, h1⟩] at hn
   cases hf : iR id ⟨ck, ⟨cx, cy, cw, ch⟩, ay, l⟩ with
   | none =>
    rw [hf] at hn
    simp only [] at hn
    subst hn
    have EM := ae.mk hf
    clear ht hn0 hpl hf
    have hw : ((ax != 1) = false ∧ decide (ax = 1) = true ∧ (ax == 1) = true) ∨ ((ax != 1) = true ∧ decide (ax = 1) = false ∧ (ax == 1) = false ∧ (ax != 2) = false ∧ decide (ax = 2) = true ∧ (ax == 2) = true) := by rcases h1 with h | h <;> subst h <;> simp
    rcases hw with ⟨hxa, hxb, V5⟩ | ⟨hxa, hxb, V5, hxd, hxe, hxf⟩
    all_goals
     clear h1
     go_enter Try.func157, Try.ntmps157
     go_wp2_with (first | (refine boxS 3 _ 26 S ?_; clear S; intro b3 di S) | (refine boxS 6 _ 147 S ?_; clear S; intro b6 dS S; obtain ⟨bf, bg, bu, bz, bM, bU, bC⟩ := St.dD S aY) | ((with_reducible refine aG (N := 14) rfl ?_); refine vG (N := 14) rfl rfl ⟨ck, ⟨cx, cy, cw, ch⟩, ay, l⟩ S.out (S.out.tree _ (.head _)) ?hr ?_; (case hr => (go_simp; rfl)); intro SB Tj gq S1 h1 h2; replace S := ae.mk S1; have uy := ae.mk h1; have xR := ae.mk h2; clear S1 h1 h2; clear bf bg bu bz bM bU bC) | (refine bG (some 15) Try.func148 S (mf HT.out (vM ⟨ck, ⟨cx, cy, cw, ch⟩, ay, l⟩ EC.out xR.out uy.out)) ?_; clear S; intro gz S; obtain ⟨bf, bg, bu, bz, bM, bU, bC⟩ := St.dD S aY) | (refine GI (some 29) Try.func89 S (aaH id ⟨ck, ⟨cx, cy, cw, ch⟩, ay, l⟩ EM.out HZ.out (S.out.tree _ (.head _))) ?_; clear S; intro Ap cp op kG S iC; clear bf bg bu bz bM bU bC) | (refine uk 147 6 34 #[.int .u8 0, .int .i64 0, .int .i64 0, .int .i64 0, .int .i64 0, .int .i64 0, .slice none 0 0, .slice none 0 0, .int .i64 0, .int .u8 0] 0 10 S ?_; clear S; intro tJ S))
     refine bodyPost_ret (eH rfl _ _ b6 147 _ (0, 0) _ rfl (S.out.blk _ aY _ rfl) Try.underlying147 rfl (by kernel_rfl)) rfl ?_
     exact ⟨rfl, S.out.below⟩
   | some p =>
    rw [hf] at hn
    simp only [] at hn
    have xB := ae.mk (show p.length ≤ 1000000 by have := hpl p hf; have := HZ.out; omega)
    have EM := ae.mk hf
    obtain ⟨x, hx, _⟩ := (Dx id _).1 _ (Nat.le_refl _) p hf
    have HX := ae.mk hx
    cases hfr : Ha ax ⟨ck, ⟨cx, cy, cw, ch⟩, ay, l⟩ p with
    | some d => rw [hfr] at hn; exact absurd hn.symm hn0
    | none =>
     rw [hfr] at hn
     simp only [] at hn
     subst hn
     have HR := ae.mk (show ny (ui ax ⟨ck, ⟨cx, cy, cw, ch⟩, ay, l⟩ p) p.length = none from hfr)
     clear ht hn0 hpl hf hx hfr
     have hw : ((ax != 1) = false ∧ decide (ax = 1) = true ∧ (ax == 1) = true) ∨ ((ax != 1) = true ∧ decide (ax = 1) = false ∧ (ax == 1) = false ∧ (ax != 2) = false ∧ decide (ax = 2) = true ∧ (ax == 2) = true) := by rcases h1 with h | h <;> subst h <;> simp
     rcases hw with ⟨hxa, hxb, V5⟩ | ⟨hxa, hxb, V5, hxd, hxe, hxf⟩
     all_goals
      clear h1
      go_enter Try.func157, Try.ntmps157
      go_wp2_with (first | (refine boxS 3 _ 26 S ?_; clear S; intro b3 di S) | (refine boxS 6 _ 147 S ?_; clear S; intro b6 dS S; obtain ⟨bf, bg, bu, bz, bM, bU, bC⟩ := St.dD S aY) | ((with_reducible refine aG (N := 14) rfl ?_); refine vG (N := 14) rfl rfl ⟨ck, ⟨cx, cy, cw, ch⟩, ay, l⟩ S.out (S.out.tree _ (.head _)) ?hr ?_; (case hr => (go_simp; rfl)); intro SB Tj gq S1 h1 h2; replace S := ae.mk S1; have uy := ae.mk h1; have xR := ae.mk h2; clear S1 h1 h2; clear bf bg bu bz bM bU bC) | (refine bG (some 15) Try.func148 S (mf HT.out (vM ⟨ck, ⟨cx, cy, cw, ch⟩, ay, l⟩ EC.out xR.out uy.out)) ?_; clear S; intro gz S; obtain ⟨bf, bg, bu, bz, bM, bU, bC⟩ := St.dD S aY) | (refine GI (some 29) Try.func89 S (MF id ⟨ck, ⟨cx, cy, cw, ch⟩, ay, l⟩ p EM.out HZ.out (S.out.tree _ (.head _))) ?_; clear S; intro Ap cp op kG S iC; clear bf bg bu bz bM bU bC))
      go_loopg [10] (p.length + 1) (fun gg v10 wr => ∃ n : Nat, v10 = .int .i64 ((n : Int) - 1) ∧ ae (n ≤ p.length) ∧ n ≤ gg ∧ ae (ny (ui ax ⟨ck, ⟨cx, cy, cw, ch⟩, ay, l⟩ p) n = none) ∧ ae (St w P [((Value.slice Ap p.length cp).ownBlock, op), (some b6, .cells #[.int .u8 0, .int .i64 0, .int .i64 0, .int .i64 0, .int .i64 0, .int .i64 0, .slice none 0 0, .slice none 0 0, .int .i64 0, .int .u8 0] 147 (0, 0)), (some b3, .cells #[.int .u8 ck, .int .i64 cx, .int .i64 cy, .int .i64 cw, .int .i64 ch, .int .i64 ay, .slice A l.length cc] 26 (0, 0))] [] [(.slice A l.length cc, l)] [] wr))
      case atStart => exact ⟨p.length, (by have := xB.out; congr 1; unfold wrap64; omega), ⟨Nat.le_refl _⟩, Nat.le_succ _, HR, S⟩
      case round =>
       clear S HR
       obtain ⟨n, rfl, HN, hgg, HR, S⟩ := hrel
       cases n with
       | zero =>
        go_wp2_with ((refine uk 147 6 68 #[.int .u8 0, .int .i64 0, .int .i64 0, .int .i64 0, .int .i64 0, .int .i64 0, .slice none 0 0, .slice none 0 0, .int .i64 0, .int .u8 0] 0 10 S ?_; clear S; intro di S))
        refine bodyPost_ret (eH rfl _ _ b6 147 _ (0, 0) _ rfl (S.out.blk _ aY _ rfl) Try.underlying147 rfl (by kernel_rfl)) rfl ?_
        exact ⟨rfl, S.out.below⟩
       | succ n =>
        have e1 : (((n + 1 : Nat) : Int) - 1) = (n : Int) := by omega
        rw [e1]
        have nH := ae.mk (show n < p.length from HN.out)
        have fM := ae.mk hgg
        have hw : wrap64 ((n : Int) - 1) = (n : Int) - 1 := by have := HN.out; have := xB.out; unfold wrap64; omega
        have HW := ae.mk hw
        have h0 : decide ((n : Int) ≥ 0) = true := decide_eq_true (Int.natCast_nonneg _)
        have wP : (0 : Int) ≤ (n : Int) := Int.natCast_nonneg _
        obtain ⟨z, sQ, hi0, hi1⟩ := ES p ⟨ck, ⟨cx, cy, cw, ch⟩, ay, l⟩ _ HX.out n nH.out
        obtain ⟨pq, hpq⟩ : ∃ pq, pq = p.take n := ⟨_, rfl⟩
        have hal : ui ax ⟨ck, ⟨cx, cy, cw, ch⟩, ay, l⟩ p n = fK ax z.f0 := by unfold ui; rw [sQ]
        rw [← hpq] at sQ
        have HAT := ae.mk sQ
        have je := ae.mk (And.intro hpq (Nat.le_of_lt nH.out))
        have H8 := ae.mk (show pq.length ≤ 1048576 by rw [hpq, List.length_take]; have := xB.out; omega)
        have hcut : ∀ W : World, (Instr.slice 41 (.slice Ap p.length cp) none (some (.int .i64 (n : Int))) none).run Try.prog W = .ok (.slice Ap pq.length cp) W := by
         intro W
         obtain ⟨i0, hi0, _, hsz, _⟩ := info_parts info3
         have h := Jp (P := Try.prog) 41 3 .i64 Try.underlying41 hi0 Ap p.length cp (n : Int) (Int.natCast_nonneg _) (by have := nH.out; omega) (H_ iC.out S.out (.head _)).2 W
         rw [Int.toNat_natCast, show n = pq.length by rw [hpq, List.length_take]; have := nH.out; omega] at h
         rw [show n = pq.length by rw [hpq, List.length_take]; have := nH.out; omega]
         exact h
        have hr := HR.out
        rw [ny, hal] at hr
        clear hw hgg e1 hal hpq sQ hi0 hi1
        cases ha : fK ax z.f0 with
        | false =>
         rw [ha, if_neg (by simp)] at hr
         replace HR := ae.mk hr
         have HA := ae.mk ha
         clear hr ha
         go_wp2
         refine gX (n := 11) (S := fun w' => St w _ _ _ _ _ w') (ds := [9]) (bA 11 0) (by kernel_rfl) rfl rfl (S.out.call (a_ (Below.refl _ _))) (fun hHeld => ?_); refine dZ tH.xw tH.sF (fun aj dE => ?_)
         replace S := ae.mk (S.out.call (a_ (Below.refl _ _)))
         generalize wr.drew = EK at S hHeld ⊢
         refine b_ 0 43 (bA 11 1) aj dE hHeld ?_ (hv := by intro w' hs_; have bf := (hs_.at dL 0).trans rfl; have bg := (hs_.at dL 1).trans rfl; have bu := (hs_.at dL 2).trans rfl; have bz := (hs_.at dL 3).trans rfl; have bM := (hs_.at dL 4).trans rfl; have bU := (hs_.at dL 5).trans rfl; have bC := (hs_.at dL 6).trans rfl; go_simp; with_reducible rfl)
         refine ak 1 44 (bA 11 3) aj ?_
         refine ak 2 45 (bA 11 7) aj ?_
         refine ak 3 46 (bA 11 15) aj ?_
         refine Bc (σ := Option Addr × Nat × Nat) 2 (bA 11 511) (fun s_ => [(47, .tuple #[.agg #[.int .u8 z.f0, .int .i64 z.f1.f0, .int .i64 z.f1.f1, .int .i64 z.f1.f2, .int .i64 z.f1.f3, .int .i64 z.f2, .slice s_.1 z.f3.length s_.2.1], .bool true]), (42, .tuple #[.agg #[.int .u8 z.f0, .int .i64 z.f1.f0, .int .i64 z.f1.f1, .int .i64 z.f1.f2, .int .i64 z.f1.f3, .int .i64 z.f2, .slice s_.1 z.f3.length s_.2.1], .bool true]), (48, .agg #[.int .u8 z.f0, .int .i64 z.f1.f0, .int .i64 z.f1.f1, .int .i64 z.f1.f2, .int .i64 z.f1.f3, .int .i64 z.f2, .slice s_.1 z.f3.length s_.2.1]), (49, .bool true), (11, .pointer (some ⟨s_.2.2, 0, none⟩))]) (fun s_ w' => St w P [(some s_.2.2, .cells #[.int .u8 0, .int .i64 0, .int .i64 0, .int .i64 0, .int .i64 0, .int .i64 0, .slice none 0 0] 26 (0, 0)), ((Value.slice Ap p.length cp).ownBlock, op), (some b6, .cells #[.int .u8 0, .int .i64 0, .int .i64 0, .int .i64 0, .int .i64 0, .int .i64 0, .slice none 0 0, .slice none 0 0, .int .i64 0, .int .u8 0] 147 (0, 0)), (some b3, .cells #[.int .u8 ck, .int .i64 cx, .int .i64 cy, .int .i64 cw, .int .i64 ch, .int .i64 ay, .slice A l.length cc] 26 (0, 0))] [(.slice s_.1 z.f3.length s_.2.1, z.f3)] [(.slice A l.length cc, l)] [] w') ?_ ?_
         rotate_left
         ·intro lF
          refine Eu (i := 4) (j := 8) (Ni := some 47) (Nj := some 11) (bA 11 31) (bA 11 271) rfl rfl rfl rfl (yB aj.out (by kernel_rfl)) (by decide) (by decide) (fun K hK => ?_) (fun K hK => ?_)
          ·skip
           refine ja Try.func91 (by kernel_rfl) rfl #[.agg #[.int .u8 ck, .int .i64 cx, .int .i64 cy, .int .i64 cw, .int .i64 ch, .int .i64 ay, .slice A l.length cc], .slice Ap pq.length cp] (by rfl) rfl rfl (by (try simp only [List.map_toArray, List.map_cons, List.map_nil]); rfl) ?_
           refine (JZ ⟨ck, ⟨cx, cy, cw, ch⟩, ay, l⟩ pq z HAT.out H8.out HZ.out (S.out.tree _ (.head _)) (dY iC.out S.out (.head _) je.out).1 (dY iC.out S.out (.head _) je.out).2).mono ?_
           rintro e dS ⟨Az, cz, rfl, h1, hb⟩
           refine ⟨_, rfl, ?_⟩
           replace S := ae.mk (S.out.yx h1 hb)
           clear h1 hb
           refine hK.out _ _ S.out.free.bQ (fun hHeld => ?_)
           clear hK K
           refine dR 47 ?_
           refine ak 5 42 (bA 11 63) aj ?_
           refine ak 6 48 (bA 11 127) aj ?_
           refine ak 7 49 (bA 11 255) aj ?_
           refine iL 8 (some 11) (bA 11 511) aj (fun K hK => ?_)
           refine kH ?hg (N := 11) ?hd (cs := #[.int .u8 0, .int .i64 0, .int .i64 0, .int .i64 0, .int .i64 0, .int .i64 0, .slice none 0 0]) (t := 26) ?hr ?_; (case hd => rfl); (case hg => rfl); (case hr => (go_simp; done))
           intro b11 hg gq hbox hb
           replace S := ae.mk (S.out.box hg hbox hb)
           clear hg hbox hb
           refine hK.out _ _ S.out.dV.free.bQ (fun hHeld => ?_)
           clear hK K
           refine dR 11 ?_
           exact mP (by simp only [jo, Act.put, List.setIfInBounds_toArray, List.set_cons_zero, List.set_cons_succ] <;> rfl) (lF (Az, cz, b11) _ S.out)
          ·skip
           refine kH ?hg (N := 11) ?hd (cs := #[.int .u8 0, .int .i64 0, .int .i64 0, .int .i64 0, .int .i64 0, .int .i64 0, .slice none 0 0]) (t := 26) ?hr ?_; (case hd => rfl); (case hg => rfl); (case hr => (go_simp; done))
           intro b11 hg gz hbox hb
           replace S := ae.mk (S.out.box hg hbox hb)
           clear hg hbox hb
           refine hK.out _ _ S.out.dV (fun hHeld => ?_)
           clear hK K
           refine dR 11 ?_
           refine iL 4 (some 47) (bA 11 287) aj (fun K hK => ?_)
           refine ja Try.func91 (by kernel_rfl) rfl #[.agg #[.int .u8 ck, .int .i64 cx, .int .i64 cy, .int .i64 cw, .int .i64 ch, .int .i64 ay, .slice A l.length cc], .slice Ap pq.length cp] (by rfl) rfl rfl (by (try simp only [List.map_toArray, List.map_cons, List.map_nil]); rfl) ?_
           refine (JZ ⟨ck, ⟨cx, cy, cw, ch⟩, ay, l⟩ pq z HAT.out H8.out HZ.out (S.out.tree _ (.head _)) (dY iC.out S.out aY je.out).1 (dY iC.out S.out aY je.out).2).mono ?_
           rintro e kG ⟨Az, cz, rfl, h1, hb⟩
           refine ⟨_, rfl, ?_⟩
           replace S := ae.mk (S.out.yx h1 hb)
           clear h1 hb
           refine hK.out _ _ S.out.dV.free.bQ (fun hHeld => ?_)
           clear hK K
           refine dR 47 ?_
           refine ak 5 42 (bA 11 319) aj ?_
           refine ak 6 48 (bA 11 383) aj ?_
           refine ak 7 49 (bA 11 511) aj ?_
           exact mP (by simp only [jo, Act.put, List.setIfInBounds_toArray, List.set_cons_zero, List.set_cons_succ] <;> rfl) (lF (Az, cz, b11) _ S.out)
         rintro ⟨Az, cz, b11⟩ Sm S1
         simp only [jo, Act.put, List.setIfInBounds_toArray, List.set_cons_zero, List.set_cons_succ]
         replace S := ae.mk S1
         clear S1 hHeld
         have hHeld := S.out.dV.free.bQ
         refine lV 9 none (bA 11 1023) aj (fun K hK => ?_)
         refine lg 0 rfl 26 (.tmp 11) (.tmp 48) rfl #[.int .u8 z.f0, .int .i64 z.f1.f0, .int .i64 z.f1.f1, .int .i64 z.f1.f2, .int .i64 z.f1.f3, .int .i64 z.f2, .slice Az z.f3.length cz] (j := 0) (u := .agg #[.int .u8 z.f0, .int .i64 z.f1.f0, .int .i64 z.f1.f1, .int .i64 z.f1.f2, .int .i64 z.f1.f3, .int .i64 z.f2, .slice Az z.f3.length cz]) (bK := [.int .u8 z.f0, .int .i64 z.f1.f0, .int .i64 z.f1.f1, .int .i64 z.f1.f2, .int .i64 z.f1.f3, .int .i64 z.f2, .slice Az z.f3.length cz]) S.out (by rfl) rfl rfl rfl rfl (by kernel_rfl) (by simp [Value.oneCell']) (by simp) rfl ?_
         intro vV S1
         simp only [List.set_cons_zero, List.set_cons_succ] at S1
         replace S := ae.mk S1
         clear S1
         refine hK.out _ _ ?_
         clear hK K
         refine ak 10 12 (bA 11 2047) aj ?_
         refine jf (fJ aj.out (by kernel_rfl)) ?_
         clear hHeld
         obtain ⟨jO, jm, n_, wJ, wK, wL, uF⟩ := St.dD S (.head _)
         go_wp2_with ((refine bG (some 52) Try.func99 S (Dt (c := z) HA.out (Kd.oD (base' := 0) (S.out.own _ (.head _)))) ?_; clear S; intro wV S; clear jO jm n_ wJ wK wL uF))
         have hw := HW.out
         go_wp2
         go_roundg n
         case measure => exact Nat.lt_of_lt_of_le (Nat.lt_succ_self _) fM.out
         case rel => exact ⟨n, (by rw [hw]), ⟨by have := HN.out; omega⟩, Nat.le_refl _, HR, ⟨S.out.free.bQ.dV.xJ.xJ.xJ⟩⟩
        | true =>
         rw [ha, if_pos rfl] at hr
         cases hr
 ·intro p d z q ht h1 hf hfr hF
  have xB := ae.mk (show p.length ≤ 1000000 by have := hpl p hf; have := HZ.out; omega)
  have EM := ae.mk hf
  obtain ⟨x, hx, _⟩ := (Dx id _).1 _ (Nat.le_refl _) p hf
  have HX := ae.mk hx
  have HT := ae.mk ht
  have zl := ae.mk hF
  have Dl := ae.mk (show z.f3.length ≤ 1000000 by have h2 := J3 _ _ _ hF.at'; have h3 := bV z; have h4 := ig z.f3; have := HZ.out; omega)
  have HR := ae.mk (show ny (ui ax ⟨ck, ⟨cx, cy, cw, ch⟩, ay, l⟩ p) p.length = some d from hfr)
  clear ht hpl hf hx hfr hF
  have hw : ((ax != 1) = false ∧ decide (ax = 1) = true ∧ (ax == 1) = true) ∨ ((ax != 1) = true ∧ decide (ax = 1) = false ∧ (ax == 1) = false ∧ (ax != 2) = false ∧ decide (ax = 2) = true ∧ (ax == 2) = true) := by rcases h1 with h | h <;> subst h <;> simp
  rcases hw with ⟨hxa, hxb, V5⟩ | ⟨hxa, hxb, V5, hxd, hxe, hxf⟩
  all_goals
   clear h1
   go_enter Try.func157, Try.ntmps157
   go_wp2_with (first | (refine boxS 3 _ 26 S ?_; clear S; intro b3 di S) | (refine boxS 6 _ 147 S ?_; clear S; intro b6 dS S; obtain ⟨bf, bg, bu, bz, bM, bU, bC⟩ := St.dD S aY) | ((with_reducible refine aG (N := 14) rfl ?_); refine vG (N := 14) rfl rfl ⟨ck, ⟨cx, cy, cw, ch⟩, ay, l⟩ S.out (S.out.tree _ (.head _)) ?hr ?_; (case hr => (go_simp; rfl)); intro SB Tj gq S1 h1 h2; replace S := ae.mk S1; have uy := ae.mk h1; have xR := ae.mk h2; clear S1 h1 h2; clear bf bg bu bz bM bU bC) | (refine bG (some 15) Try.func148 S (mf HT.out (vM ⟨ck, ⟨cx, cy, cw, ch⟩, ay, l⟩ EC.out xR.out uy.out)) ?_; clear S; intro gz S; obtain ⟨bf, bg, bu, bz, bM, bU, bC⟩ := St.dD S aY) | (refine GI (some 29) Try.func89 S (MF id ⟨ck, ⟨cx, cy, cw, ch⟩, ay, l⟩ p EM.out HZ.out (S.out.tree _ (.head _))) ?_; clear S; intro Ap cp op kG S iC; clear bf bg bu bz bM bU bC))
   go_loopg [10] (p.length + 1) (fun gg v10 wr => ∃ n : Nat, v10 = .int .i64 ((n : Int) - 1) ∧ ae (n ≤ p.length) ∧ n ≤ gg ∧ ae (ny (ui ax ⟨ck, ⟨cx, cy, cw, ch⟩, ay, l⟩ p) n = some d) ∧ ae (St w P [((Value.slice Ap p.length cp).ownBlock, op), (some b6, .cells #[.int .u8 0, .int .i64 0, .int .i64 0, .int .i64 0, .int .i64 0, .int .i64 0, .slice none 0 0, .slice none 0 0, .int .i64 0, .int .u8 0] 147 (0, 0)), (some b3, .cells #[.int .u8 ck, .int .i64 cx, .int .i64 cy, .int .i64 cw, .int .i64 ch, .int .i64 ay, .slice A l.length cc] 26 (0, 0))] [] [(.slice A l.length cc, l)] [] wr))
   case atStart => exact ⟨p.length, (by have := xB.out; congr 1; unfold wrap64; omega), ⟨Nat.le_refl _⟩, Nat.le_succ _, HR, S⟩
   case round =>
    clear S HR
    obtain ⟨n, rfl, HN, hgg, HR, S⟩ := hrel
    cases n with
    | zero =>
     have h := HR.out
     cases h
    | succ n =>
     have e1 : (((n + 1 : Nat) : Int) - 1) = (n : Int) := by omega
     rw [e1]
     have nH := ae.mk (show n < p.length from HN.out)
     have fM := ae.mk hgg
     have hw : wrap64 ((n : Int) - 1) = (n : Int) - 1 := by have := HN.out; have := xB.out; unfold wrap64; omega
     have HW := ae.mk hw
     have h0 : decide ((n : Int) ≥ 0) = true := decide_eq_true (Int.natCast_nonneg _)
     have wP : (0 : Int) ≤ (n : Int) := Int.natCast_nonneg _
     obtain ⟨z, sQ, hi0, hi1⟩ := ES p ⟨ck, ⟨cx, cy, cw, ch⟩, ay, l⟩ _ HX.out n nH.out
     obtain ⟨pq, hpq⟩ : ∃ pq, pq = p.take n := ⟨_, rfl⟩
     have hal : ui ax ⟨ck, ⟨cx, cy, cw, ch⟩, ay, l⟩ p n = fK ax z.f0 := by unfold ui; rw [sQ]
     rw [← hpq] at sQ
     have HAT := ae.mk sQ
     have je := ae.mk (And.intro hpq (Nat.le_of_lt nH.out))
     have H8 := ae.mk (show pq.length ≤ 1048576 by rw [hpq, List.length_take]; have := xB.out; omega)
     have hcut : ∀ W : World, (Instr.slice 41 (.slice Ap p.length cp) none (some (.int .i64 (n : Int))) none).run Try.prog W = .ok (.slice Ap pq.length cp) W := by
      intro W
      obtain ⟨i0, hi0, _, hsz, _⟩ := info_parts info3
      have h := Jp (P := Try.prog) 41 3 .i64 Try.underlying41 hi0 Ap p.length cp (n : Int) (Int.natCast_nonneg _) (by have := nH.out; omega) (H_ iC.out S.out (.head _)).2 W
      rw [Int.toNat_natCast, show n = pq.length by rw [hpq, List.length_take]; have := nH.out; omega] at h
      rw [show n = pq.length by rw [hpq, List.length_take]; have := nH.out; omega]
      exact h
     have hr := HR.out
     rw [ny, hal] at hr
     clear hw hgg e1 hal hpq sQ hi0 hi1
     cases ha : fK ax z.f0 with
     | false =>
      rw [ha, if_neg (by simp)] at hr
      replace HR := ae.mk hr
      have HA := ae.mk ha
      clear hr ha
      go_wp2
      refine gX (n := 11) (S := fun w' => St w _ _ _ _ _ w') (ds := [9]) (bA 11 0) (by kernel_rfl) rfl rfl (S.out.call (a_ (Below.refl _ _))) (fun hHeld => ?_); refine dZ tH.xw tH.sF (fun aj dE => ?_)
      replace S := ae.mk (S.out.call (a_ (Below.refl _ _)))
      generalize wr.drew = EK at S hHeld ⊢
      refine b_ 0 43 (bA 11 1) aj dE hHeld ?_ (hv := by intro w' hs_; have bf := (hs_.at dL 0).trans rfl; have bg := (hs_.at dL 1).trans rfl; have bu := (hs_.at dL 2).trans rfl; have bz := (hs_.at dL 3).trans rfl; have bM := (hs_.at dL 4).trans rfl; have bU := (hs_.at dL 5).trans rfl; have bC := (hs_.at dL 6).trans rfl; go_simp; with_reducible rfl)
      refine ak 1 44 (bA 11 3) aj ?_
      refine ak 2 45 (bA 11 7) aj ?_
      refine ak 3 46 (bA 11 15) aj ?_
      refine Bc (σ := Option Addr × Nat × Nat) 2 (bA 11 511) (fun s_ => [(47, .tuple #[.agg #[.int .u8 z.f0, .int .i64 z.f1.f0, .int .i64 z.f1.f1, .int .i64 z.f1.f2, .int .i64 z.f1.f3, .int .i64 z.f2, .slice s_.1 z.f3.length s_.2.1], .bool true]), (42, .tuple #[.agg #[.int .u8 z.f0, .int .i64 z.f1.f0, .int .i64 z.f1.f1, .int .i64 z.f1.f2, .int .i64 z.f1.f3, .int .i64 z.f2, .slice s_.1 z.f3.length s_.2.1], .bool true]), (48, .agg #[.int .u8 z.f0, .int .i64 z.f1.f0, .int .i64 z.f1.f1, .int .i64 z.f1.f2, .int .i64 z.f1.f3, .int .i64 z.f2, .slice s_.1 z.f3.length s_.2.1]), (49, .bool true), (11, .pointer (some ⟨s_.2.2, 0, none⟩))]) (fun s_ w' => St w P [(some s_.2.2, .cells #[.int .u8 0, .int .i64 0, .int .i64 0, .int .i64 0, .int .i64 0, .int .i64 0, .slice none 0 0] 26 (0, 0)), ((Value.slice Ap p.length cp).ownBlock, op), (some b6, .cells #[.int .u8 0, .int .i64 0, .int .i64 0, .int .i64 0, .int .i64 0, .int .i64 0, .slice none 0 0, .slice none 0 0, .int .i64 0, .int .u8 0] 147 (0, 0)), (some b3, .cells #[.int .u8 ck, .int .i64 cx, .int .i64 cy, .int .i64 cw, .int .i64 ch, .int .i64 ay, .slice A l.length cc] 26 (0, 0))] [(.slice s_.1 z.f3.length s_.2.1, z.f3)] [(.slice A l.length cc, l)] [] w') ?_ ?_
      rotate_left
      ·intro lF
       refine Eu (i := 4) (j := 8) (Ni := some 47) (Nj := some 11) (bA 11 31) (bA 11 271) rfl rfl rfl rfl (yB aj.out (by kernel_rfl)) (by decide) (by decide) (fun K hK => ?_) (fun K hK => ?_)
       ·skip
        refine ja Try.func91 (by kernel_rfl) rfl #[.agg #[.int .u8 ck, .int .i64 cx, .int .i64 cy, .int .i64 cw, .int .i64 ch, .int .i64 ay, .slice A l.length cc], .slice Ap pq.length cp] (by rfl) rfl rfl (by (try simp only [List.map_toArray, List.map_cons, List.map_nil]); rfl) ?_
        refine (JZ ⟨ck, ⟨cx, cy, cw, ch⟩, ay, l⟩ pq z HAT.out H8.out HZ.out (S.out.tree _ (.head _)) (dY iC.out S.out (.head _) je.out).1 (dY iC.out S.out (.head _) je.out).2).mono ?_
        rintro e dS ⟨Az, cz, rfl, h1, hb⟩
        refine ⟨_, rfl, ?_⟩
        replace S := ae.mk (S.out.yx h1 hb)
        clear h1 hb
        refine hK.out _ _ S.out.free.bQ (fun hHeld => ?_)
        clear hK K
        refine dR 47 ?_
        refine ak 5 42 (bA 11 63) aj ?_
        refine ak 6 48 (bA 11 127) aj ?_
        refine ak 7 49 (bA 11 255) aj ?_
        refine iL 8 (some 11) (bA 11 511) aj (fun K hK => ?_)
        refine kH ?hg (N := 11) ?hd (cs := #[.int .u8 0, .int .i64 0, .int .i64 0, .int .i64 0, .int .i64 0, .int .i64 0, .slice none 0 0]) (t := 26) ?hr ?_; (case hd => rfl); (case hg => rfl); (case hr => (go_simp; done))
        intro b11 hg gq hbox hb
        replace S := ae.mk (S.out.box hg hbox hb)
        clear hg hbox hb
        refine hK.out _ _ S.out.dV.free.bQ (fun hHeld => ?_)
        clear hK K
        refine dR 11 ?_
        exact mP (by simp only [jo, Act.put, List.setIfInBounds_toArray, List.set_cons_zero, List.set_cons_succ] <;> rfl) (lF (Az, cz, b11) _ S.out)
       ·skip
        refine kH ?hg (N := 11) ?hd (cs := #[.int .u8 0, .int .i64 0, .int .i64 0, .int .i64 0, .int .i64 0, .int .i64 0, .slice none 0 0]) (t := 26) ?hr ?_; (case hd => rfl); (case hg => rfl); (case hr => (go_simp; done))
        intro b11 hg gz hbox hb
        replace S := ae.mk (S.out.box hg hbox hb)
        clear hg hbox hb
        refine hK.out _ _ S.out.dV (fun hHeld => ?_)
        clear hK K
        refine dR 11 ?_
        refine iL 4 (some 47) (bA 11 287) aj (fun K hK => ?_)
        refine ja Try.func91 (by kernel_rfl) rfl #[.agg #[.int .u8 ck, .int .i64 cx, .int .i64 cy, .int .i64 cw, .int .i64 ch, .int .i64 ay, .slice A l.length cc], .slice Ap pq.length cp] (by rfl) rfl rfl (by (try simp only [List.map_toArray, List.map_cons, List.map_nil]); rfl) ?_
        refine (JZ ⟨ck, ⟨cx, cy, cw, ch⟩, ay, l⟩ pq z HAT.out H8.out HZ.out (S.out.tree _ (.head _)) (dY iC.out S.out aY je.out).1 (dY iC.out S.out aY je.out).2).mono ?_
        rintro e kG ⟨Az, cz, rfl, h1, hb⟩
        refine ⟨_, rfl, ?_⟩
        replace S := ae.mk (S.out.yx h1 hb)
        clear h1 hb
        refine hK.out _ _ S.out.dV.free.bQ (fun hHeld => ?_)
        clear hK K
        refine dR 47 ?_
        refine ak 5 42 (bA 11 319) aj ?_
        refine ak 6 48 (bA 11 383) aj ?_
        refine ak 7 49 (bA 11 511) aj ?_
        exact mP (by simp only [jo, Act.put, List.setIfInBounds_toArray, List.set_cons_zero, List.set_cons_succ] <;> rfl) (lF (Az, cz, b11) _ S.out)
      rintro ⟨Az, cz, b11⟩ Sm S1
      simp only [jo, Act.put, List.setIfInBounds_toArray, List.set_cons_zero, List.set_cons_succ]
      replace S := ae.mk S1
      clear S1 hHeld
      have hHeld := S.out.dV.free.bQ
      refine lV 9 none (bA 11 1023) aj (fun K hK => ?_)
      refine lg 0 rfl 26 (.tmp 11) (.tmp 48) rfl #[.int .u8 z.f0, .int .i64 z.f1.f0, .int .i64 z.f1.f1, .int .i64 z.f1.f2, .int .i64 z.f1.f3, .int .i64 z.f2, .slice Az z.f3.length cz] (j := 0) (u := .agg #[.int .u8 z.f0, .int .i64 z.f1.f0, .int .i64 z.f1.f1, .int .i64 z.f1.f2, .int .i64 z.f1.f3, .int .i64 z.f2, .slice Az z.f3.length cz]) (bK := [.int .u8 z.f0, .int .i64 z.f1.f0, .int .i64 z.f1.f1, .int .i64 z.f1.f2, .int .i64 z.f1.f3, .int .i64 z.f2, .slice Az z.f3.length cz]) S.out (by rfl) rfl rfl rfl rfl (by kernel_rfl) (by simp [Value.oneCell']) (by simp) rfl ?_
      intro vV S1
      simp only [List.set_cons_zero, List.set_cons_succ] at S1
      replace S := ae.mk S1
      clear S1
      refine hK.out _ _ ?_
      clear hK K
      refine ak 10 12 (bA 11 2047) aj ?_
      refine jf (fJ aj.out (by kernel_rfl)) ?_
      clear hHeld
      obtain ⟨jO, jm, n_, wJ, wK, wL, uF⟩ := St.dD S (.head _)
      go_wp2_with ((refine bG (some 52) Try.func99 S (Dt (c := z) HA.out (Kd.oD (base' := 0) (S.out.own _ (.head _)))) ?_; clear S; intro wV S; clear jO jm n_ wJ wK wL uF))
      have hw := HW.out
      go_wp2
      go_roundg n
      case measure => exact Nat.lt_of_lt_of_le (Nat.lt_succ_self _) fM.out
      case rel => exact ⟨n, (by rw [hw]), ⟨by have := HN.out; omega⟩, Nat.le_refl _, HR, ⟨S.out.free.bQ.dV.xJ.xJ.xJ⟩⟩
     | true =>
      rw [ha, if_pos rfl] at hr
      injection hr with hr
      subst hr
      have hzz := HAT.out
      rw [je.out.1, zl.out.at'] at hzz
      injection hzz with hzz
      subst hzz
      have HA := ae.mk ha
      clear ha
      obtain ⟨AL, ek, _⟩ := Kd.jl (H_ iC.out S.out (.head _)).1 (n : Int) (Int.natCast_nonneg _) (by have := nH.out; omega)
      subst ek
      have HW2 := ae.mk (show wrap64 ((z.f3.length : Int) - 2) = (z.f3.length : Int) - 2 by have := zl.out.len; have := Dl.out; unfold wrap64; omega)
      have SN := ae.mk (show (n : Int) < (p.length : Int) by have := nH.out; omega)
      have hnn : n < p.length := nH.out
      go_wp2
      refine gX (n := 11) (S := fun w' => St w _ _ _ _ _ w') (ds := [9]) (bA 11 0) (by kernel_rfl) rfl rfl (S.out.call (a_ (Below.refl _ _))) (fun hHeld => ?_); refine dZ tH.xw tH.sF (fun aj dE => ?_)
      replace S := ae.mk (S.out.call (a_ (Below.refl _ _)))
      generalize wr.drew = EK at S hHeld ⊢
      refine b_ 0 43 (bA 11 1) aj dE hHeld ?_ (hv := by intro w' hs_; have bf := (hs_.at dL 0).trans rfl; have bg := (hs_.at dL 1).trans rfl; have bu := (hs_.at dL 2).trans rfl; have bz := (hs_.at dL 3).trans rfl; have bM := (hs_.at dL 4).trans rfl; have bU := (hs_.at dL 5).trans rfl; have bC := (hs_.at dL 6).trans rfl; go_simp; with_reducible rfl)
      refine ak 1 44 (bA 11 3) aj ?_
      refine ak 2 45 (bA 11 7) aj ?_
      refine ak 3 46 (bA 11 15) aj ?_
      refine Bc (σ := Option Addr × Nat × Nat) 2 (bA 11 511) (fun s_ => [(47, .tuple #[.agg #[.int .u8 z.f0, .int .i64 z.f1.f0, .int .i64 z.f1.f1, .int .i64 z.f1.f2, .int .i64 z.f1.f3, .int .i64 z.f2, .slice s_.1 z.f3.length s_.2.1], .bool true]), (42, .tuple #[.agg #[.int .u8 z.f0, .int .i64 z.f1.f0, .int .i64 z.f1.f1, .int .i64 z.f1.f2, .int .i64 z.f1.f3, .int .i64 z.f2, .slice s_.1 z.f3.length s_.2.1], .bool true]), (48, .agg #[.int .u8 z.f0, .int .i64 z.f1.f0, .int .i64 z.f1.f1, .int .i64 z.f1.f2, .int .i64 z.f1.f3, .int .i64 z.f2, .slice s_.1 z.f3.length s_.2.1]), (49, .bool true), (11, .pointer (some ⟨s_.2.2, 0, none⟩))]) (fun s_ w' => St w P [(some s_.2.2, .cells #[.int .u8 0, .int .i64 0, .int .i64 0, .int .i64 0, .int .i64 0, .int .i64 0, .slice none 0 0] 26 (0, 0)), ((Value.slice (some AL) p.length cp).ownBlock, op), (some b6, .cells #[.int .u8 0, .int .i64 0, .int .i64 0, .int .i64 0, .int .i64 0, .int .i64 0, .slice none 0 0, .slice none 0 0, .int .i64 0, .int .u8 0] 147 (0, 0)), (some b3, .cells #[.int .u8 ck, .int .i64 cx, .int .i64 cy, .int .i64 cw, .int .i64 ch, .int .i64 ay, .slice A l.length cc] 26 (0, 0))] [(.slice s_.1 z.f3.length s_.2.1, z.f3)] [(.slice A l.length cc, l)] [] w') ?_ ?_
      rotate_left
      ·intro lF
       refine Eu (i := 4) (j := 8) (Ni := some 47) (Nj := some 11) (bA 11 31) (bA 11 271) rfl rfl rfl rfl (yB aj.out (by kernel_rfl)) (by decide) (by decide) (fun K hK => ?_) (fun K hK => ?_)
       ·skip
        refine ja Try.func91 (by kernel_rfl) rfl #[.agg #[.int .u8 ck, .int .i64 cx, .int .i64 cy, .int .i64 cw, .int .i64 ch, .int .i64 ay, .slice A l.length cc], .slice (some AL) pq.length cp] (by rfl) rfl rfl (by (try simp only [List.map_toArray, List.map_cons, List.map_nil]); rfl) ?_
        refine (JZ ⟨ck, ⟨cx, cy, cw, ch⟩, ay, l⟩ pq z HAT.out H8.out HZ.out (S.out.tree _ (.head _)) (dY iC.out S.out (.head _) je.out).1 (dY iC.out S.out (.head _) je.out).2).mono ?_
        rintro e dS ⟨Az, cz, rfl, h1, hb⟩
        refine ⟨_, rfl, ?_⟩
        replace S := ae.mk (S.out.yx h1 hb)
        clear h1 hb
        refine hK.out _ _ S.out.free.bQ (fun hHeld => ?_)
        clear hK K
        refine dR 47 ?_
        refine ak 5 42 (bA 11 63) aj ?_
        refine ak 6 48 (bA 11 127) aj ?_
        refine ak 7 49 (bA 11 255) aj ?_
        refine iL 8 (some 11) (bA 11 511) aj (fun K hK => ?_)
        refine kH ?hg (N := 11) ?hd (cs := #[.int .u8 0, .int .i64 0, .int .i64 0, .int .i64 0, .int .i64 0, .int .i64 0, .slice none 0 0]) (t := 26) ?hr ?_; (case hd => rfl); (case hg => rfl); (case hr => (go_simp; done))
        intro b11 hg gq hbox hb
        replace S := ae.mk (S.out.box hg hbox hb)
        clear hg hbox hb
        refine hK.out _ _ S.out.dV.free.bQ (fun hHeld => ?_)
        clear hK K
        refine dR 11 ?_
        exact mP (by simp only [jo, Act.put, List.setIfInBounds_toArray, List.set_cons_zero, List.set_cons_succ] <;> rfl) (lF (Az, cz, b11) _ S.out)
       ·skip
        refine kH ?hg (N := 11) ?hd (cs := #[.int .u8 0, .int .i64 0, .int .i64 0, .int .i64 0, .int .i64 0, .int .i64 0, .slice none 0 0]) (t := 26) ?hr ?_; (case hd => rfl); (case hg => rfl); (case hr => (go_simp; done))
        intro b11 hg gz hbox hb
        replace S := ae.mk (S.out.box hg hbox hb)
        clear hg hbox hb
        refine hK.out _ _ S.out.dV (fun hHeld => ?_)
        clear hK K
        refine dR 11 ?_
        refine iL 4 (some 47) (bA 11 287) aj (fun K hK => ?_)
        refine ja Try.func91 (by kernel_rfl) rfl #[.agg #[.int .u8 ck, .int .i64 cx, .int .i64 cy, .int .i64 cw, .int .i64 ch, .int .i64 ay, .slice A l.length cc], .slice (some AL) pq.length cp] (by rfl) rfl rfl (by (try simp only [List.map_toArray, List.map_cons, List.map_nil]); rfl) ?_
        refine (JZ ⟨ck, ⟨cx, cy, cw, ch⟩, ay, l⟩ pq z HAT.out H8.out HZ.out (S.out.tree _ (.head _)) (dY iC.out S.out aY je.out).1 (dY iC.out S.out aY je.out).2).mono ?_
        rintro e kG ⟨Az, cz, rfl, h1, hb⟩
        refine ⟨_, rfl, ?_⟩
        replace S := ae.mk (S.out.yx h1 hb)
        clear h1 hb
        refine hK.out _ _ S.out.dV.free.bQ (fun hHeld => ?_)
        clear hK K
        refine dR 47 ?_
        refine ak 5 42 (bA 11 319) aj ?_
        refine ak 6 48 (bA 11 383) aj ?_
        refine ak 7 49 (bA 11 511) aj ?_
        exact mP (by simp only [jo, Act.put, List.setIfInBounds_toArray, List.set_cons_zero, List.set_cons_succ] <;> rfl) (lF (Az, cz, b11) _ S.out)
      rintro ⟨Az, cz, b11⟩ Sm S1
      simp only [jo, Act.put, List.setIfInBounds_toArray, List.set_cons_zero, List.set_cons_succ]
      replace S := ae.mk S1
      clear S1 hHeld
      have hHeld := S.out.dV.free.bQ
      refine lV 9 none (bA 11 1023) aj (fun K hK => ?_)
      refine lg 0 rfl 26 (.tmp 11) (.tmp 48) rfl #[.int .u8 z.f0, .int .i64 z.f1.f0, .int .i64 z.f1.f1, .int .i64 z.f1.f2, .int .i64 z.f1.f3, .int .i64 z.f2, .slice Az z.f3.length cz] (j := 0) (u := .agg #[.int .u8 z.f0, .int .i64 z.f1.f0, .int .i64 z.f1.f1, .int .i64 z.f1.f2, .int .i64 z.f1.f3, .int .i64 z.f2, .slice Az z.f3.length cz]) (bK := [.int .u8 z.f0, .int .i64 z.f1.f0, .int .i64 z.f1.f1, .int .i64 z.f1.f2, .int .i64 z.f1.f3, .int .i64 z.f2, .slice Az z.f3.length cz]) S.out (by rfl) rfl rfl rfl rfl (by kernel_rfl) (by simp [Value.oneCell']) (by simp) rfl ?_
      intro vV S1
      simp only [List.set_cons_zero, List.set_cons_succ] at S1
      replace S := ae.mk S1
      clear S1
      refine hK.out _ _ ?_
      clear hK K
      refine ak 10 12 (bA 11 2047) aj ?_
      refine jf (fJ aj.out (by kernel_rfl)) ?_
      clear hHeld
      obtain ⟨jO, jm, n_, wJ, wK, wL, uF⟩ := St.dD S (.head _)
      go_wp2_with ((refine bG (some 52) Try.func99 S (Dt (c := z) HA.out (Kd.oD (base' := 0) (S.out.own _ (.head _)))) ?_; clear S; intro wV S; clear jO jm n_ wJ wK wL uF))
      refine gX (n := 17) (S := fun w' => St w _ _ _ _ _ w') (ds := [15]) (bA 17 0) (by kernel_rfl) rfl rfl (S.out.call (a_ (Below.refl _ _))) (fun hHeld => ?_); refine dZ xO.aht xO.ad8 (fun aj dE => ?_)
      replace S := ae.mk (S.out.call (a_ (Below.refl _ _)))
      generalize wV.drew = wd9 at S hHeld ⊢
      refine b_ 0 53 (bA 17 1) aj dE hHeld ?_ (hv := by intro w' hs_; have jO := (hs_.at (.head _) 0).trans rfl; have jm := (hs_.at (.head _) 1).trans rfl; have n_ := (hs_.at (.head _) 2).trans rfl; have wJ := (hs_.at (.head _) 3).trans rfl; have wK := (hs_.at (.head _) 4).trans rfl; have wL := (hs_.at (.head _) 5).trans rfl; have uF := (hs_.at (.head _) 6).trans rfl; go_simp; with_reducible rfl)
      refine ak 1 54 (bA 17 3) aj ?_
      refine ak 2 55 (bA 17 7) aj ?_
      refine ak 3 56 (bA 17 15) aj ?_
      refine ak 4 57 (bA 17 31) aj ?_
      refine ak 5 58 (bA 17 63) aj ?_
      refine ak 6 59 (bA 17 127) aj ?_
      refine b_ 7 60 (bA 17 255) aj dE hHeld ?_ (hv := by intro w' hs_; have xp := Bv iC.out (hs_.blk _ aY) n SN.out; go_simp; with_reducible rfl)
      refine ak 8 61 (bA 17 511) aj ?_
      refine b_ 9 62 (bA 17 1023) aj dE hHeld ?_ (hv := by intro w' hs_; have uF := (hs_.at (.head _) 6).trans rfl; go_simp; with_reducible rfl)
      refine ak 10 63 (bA 17 2047) aj ?_
      refine ak 11 64 (bA 17 4095) aj ?_
      refine ak 12 65 (bA 17 8191) aj ?_
      refine ak 13 66 (bA 17 16383) aj ?_
      refine ak 14 67 (bA 17 32767) aj ?_
      refine lV 15 none (bA 17 65535) aj (fun K hK => ?_)
      refine lg 2 rfl 147 (.tmp 6) (.tmp 67) rfl #[.int .u8 z.f0, .int .i64 z.f1.f0, .int .i64 z.f1.f1, .int .i64 z.f1.f2, .int .i64 z.f1.f3, .int .i64 z.f2, .slice Az z.f3.length cz, .slice (some AL) pq.length cp, .int .i64 (mn (rd p (n : Int)) (wrap64 ((z.f3.length : Int) - 2))), .int .u8 ax] (j := 0) (u := .agg #[.int .u8 z.f0, .int .i64 z.f1.f0, .int .i64 z.f1.f1, .int .i64 z.f1.f2, .int .i64 z.f1.f3, .int .i64 z.f2, .slice Az z.f3.length cz, .slice (some AL) pq.length cp, .int .i64 (mn (rd p (n : Int)) (wrap64 ((z.f3.length : Int) - 2))), .int .u8 ax]) (bK := [.int .u8 z.f0, .int .i64 z.f1.f0, .int .i64 z.f1.f1, .int .i64 z.f1.f2, .int .i64 z.f1.f3, .int .i64 z.f2, .slice Az z.f3.length cz, .slice (some AL) pq.length cp, .int .i64 (mn (rd p (n : Int)) (wrap64 ((z.f3.length : Int) - 2))), .int .u8 ax]) S.out (by rfl) rfl rfl rfl rfl (by kernel_rfl) (by simp [Value.oneCell']) (by simp) rfl ?_
      intro Aj S1
      simp only [List.set_cons_zero, List.set_cons_succ] at S1
      replace S := ae.mk S1
      clear S1
      refine hK.out _ _ ?_
      clear hK K
      refine ak 16 7 (bA 17 131071) aj ?_
      refine jf (fJ aj.out (by kernel_rfl)) ?_
      clear hHeld
      go_wp2
      all_goals
       refine bodyPost_ret (eH rfl _ _ b6 147 _ (0, 0) _ rfl (S.out.blk _ dL _ rfl) Try.underlying147 rfl (by kernel_rfl)) rfl ?_
       rw [je.out.1]
       exact ⟨_, _, _, _, _, (by rw [zl.out.hq, HW2.out]; rfl), iC.out, S.out.dV.vS.dV.vS.dV.bQ⟩
end Go.Proofs.Ytfdmfgaiblfbhaa.P
namespace Go.Proofs.Ytfdmfgaiblfbhaa.P
open Go.RowKit Go.Proofs.ag.aV Go.Proofs.ag.bP Go.Proofs.ag.cO
def zN.T1 : Bool × List (List Nat × List Nat) := (true, [([], []), ([0], [0]), ([1], [1]), ([2], [2]), ([3], [3]), ([], []), ([4, 5], [4, 5]), ([6], [6]), ([], []), ([8], [8]), ([9], [9]), ([10], [10]), ([7, 11], [7, 11]), ([12, 12, 0, 1, 2, 3, 4, 5, 6, 7, 8, 9, 10, 11, 12], [12])])
def zN.B1 : List Nat := [0, 1, 3, 7, 15, 0, 63, 127, 0, 256, 768, 1792, 4095, 8191]
theorem zN.Y6 : iM .any (opsOf Try.f164 1) = zN.T1 := by kernel_rfl
theorem zN.Td : gZ zN.T1.2 zN.B1 = true := by kernel_rfl
theorem oL {g : Nat} {fk fx fy fw fh CP ax : Int} {VP : Value} {q : Nat} {A : Option Addr} {cap : Nat} {L : List ai} {b : Nat} {P : Nat → Prop} {w : World} (i : Nat) (hi : i < L.length) (hz : dU L ≤ 1000000) (hF : w.heap[g]? = some (.cells #[.int .u8 fk, .int .i64 fx, .int .i64 fy, .int .i64 fw, .int .i64 fh, .int .i64 CP, .slice A L.length cap, VP, .int .i64 (q : Int), .int .u8 ax] 147 (0, 0))) (hv : Kd.V k26 26 w b P (.slice A L.length cap) L) :
  Calls Try.prog 164 #[.pointer (some ⟨g, 0, none⟩), .int .i64 (i : Int)] w fun e w' => e = .returned (.int .i64 (aH ax (kd L i))) ∧ Below w.heap.size w w' := by
 have S := ae.mk (St.start (ts := [(.slice A L.length cap, L)]) (b0 := w.heap.size) (w := w) (P := P) (fun t ht => by rw [List.mem_singleton.1 ht]; exact eY hv))
 replace S := ae.mk (S.out.yH (show w.cell? ⟨g, 6, none⟩ = some (.slice A L.length cap) from (af hF 6).trans rfl))
 replace S := ae.mk (S.out.yH (show w.cell? ⟨g, 9, none⟩ = some (.int .u8 ax) from (af hF 9).trans rfl))
 have hi0 : (0 : Int) ≤ (i : Int) := Int.natCast_nonneg _
 have hi1 : (i : Int) < (L.length : Int) := by omega
 obtain ⟨gK, ua, uc, ek, S1⟩ := S.out.elem (.head _) (i : Int) hi0 hi1
 subst ek
 rw [Ju] at S1
 simp only [Int.toNat_natCast] at S1
 have ik := ae.mk (show sz (kd L i) ≤ 1048576 by have := tC (jP hi); omega)
 generalize kd L i = k at S1 ik ⊢
 replace S := ae.mk S1
 clear S1 hF hv hz
 go_enter Try.func164, Try.ntmps164
 go_wp2
 refine gX (n := 14) (S := fun w' => St w _ _ _ _ _ w') (ds := []) (bA 14 0) (by kernel_rfl) rfl rfl (S.out.call (a_ (Below.refl _ _))) (fun hHeld => ?_); refine dZ zN.Y6 zN.Td (fun aj dE => ?_)
 replace S := ae.mk (S.out.call (a_ (Below.refl _ _)))
 generalize w.drew = EK at S hHeld ⊢
 refine ak 0 5 (bA 14 1) aj ?_
 refine ak 1 6 (bA 14 3) aj ?_
 refine ak 2 7 (bA 14 7) aj ?_
 refine ak 3 8 (bA 14 15) aj ?_
 refine b_ 4 9 (bA 14 31) aj dE hHeld ?_ (hv := by intro w' hs_; have y8_ := (hs_.cell _ mm8).1; go_simp; with_reducible rfl)
 refine ak 5 10 (bA 14 63) aj ?_
 refine ak 6 11 (bA 14 127) aj ?_
 refine b_ 7 12 (bA 14 255) aj dE hHeld ?_ (hv := by intro w' hs_; have gQ := (hs_.cell _ (.head _)).1; have iD := (hs_.cell _ aY).1; have jd := (hs_.cell _ dL).1; have iP := (hs_.cell _ jB).1; have iQ := (hs_.cell _ lK).1; have jL := (hs_.cell _ qB).1; have jM := (hs_.cell _ zy).1; go_simp; with_reducible rfl)
 refine ak 8 13 (bA 14 511) aj ?_
 refine ak 9 14 (bA 14 1023) aj ?_
 refine ak 10 15 (bA 14 2047) aj ?_
 refine b_ 11 16 (bA 14 4095) aj dE hHeld ?_ (hv := by intro w' hs_; have C9 := (hs_.cell _ FU).1; go_simp; with_reducible rfl)
 refine iL 12 (some 17) (bA 14 8191) aj (fun K hK => ?_)
 refine wY Try.func86 #[.agg #[.int .u8 k.f0, .int .i64 k.f1.f0, .int .i64 k.f1.f1, .int .i64 k.f1.f2, .int .i64 k.f1.f3, .int .i64 k.f2, .slice ua k.f3.length uc], .int .u8 ax] ?_
 refine (Dz k ax ik.out (S.out.tree _ (.head _))).mono ?_
 rintro e dS ⟨rfl, hb⟩
 refine ⟨_, rfl, ?_⟩
 replace S := ae.mk (S.out.call hb)
 clear hb
 refine hK.out _ _ S.out (fun hHeld => ?_)
 clear hK K
 refine dR 17 ?_
 refine ak 13 4 (bA 14 16383) aj ?_
 refine jf (fJ aj.out (by kernel_rfl)) ?_
 clear hHeld
 go_wp2
 go_ret
 exact ⟨rfl, S.out.below⟩
def KU : Option Nat → Int
 | some i => i
 | none => -1
theorem yM {g : Nat} {fk fx fy fw fh CP ax : Int} {VP : Value} {q : Nat} {A : Option Addr} {cap : Nat} {L : List ai} {b : Nat} {P : Nat → Prop} {w : World} (m : Bool) (hq : q + 1 < L.length) (hl : L.length ≤ 1000000) (hz : dU L ≤ 1000000) (hF : w.heap[g]? = some (.cells #[.int .u8 fk, .int .i64 fx, .int .i64 fy, .int .i64 fw, .int .i64 fh, .int .i64 CP, .slice A L.length cap, VP, .int .i64 (q : Int), .int .u8 ax] 147 (0, 0))) (hv : Kd.V k26 26 w b P (.slice A L.length cap) L) :
  Calls Try.prog 185 #[.pointer (some ⟨g, 0, none⟩), .bool m] w fun e w' => e = .returned (.int .i64 (KU (jY ax q m L))) ∧ Below w.heap.size w w' := by
 have S := ae.mk (St.start (ts := [(.slice A L.length cap, L)]) (b0 := w.heap.size) (w := w) (P := P) (fun t ht => by rw [List.mem_singleton.1 ht]; exact eY hv))
 replace S := ae.mk (S.out.yH (show w.cell? ⟨g, 6, none⟩ = some (.slice A L.length cap) from (af hF 6).trans rfl))
 replace S := ae.mk (S.out.yH (show w.cell? ⟨g, 8, none⟩ = some (.int .i64 (q : Int)) from (af hF 8).trans rfl))
 have HF := ae.mk hF
 have HZ := ae.mk hz
 have gY := ae.mk hl
 have HQ := ae.mk hq
 have Jc := ae.mk (show wrap64 ((q : Int) + 1) = ((q + 1 : Nat) : Int) by unfold wrap64; omega)
 generalize hR : jY ax q m L = R
 unfold jY at hR
 clear hF hz hl hq hv
 cases m with
 | true =>
  simp only [if_true] at hR
  have HR := ae.mk hR
  clear hR
  go_enter Try.func185, Try.ntmps185
  have gQ := (S.out.cell _ (.head _)).1
  go_wp2
  clear gQ
  go_loopg [5] L.length (fun gg v5 wr => ∃ i : Nat, v5 = .int .i64 (i : Int) ∧ ae (i ≤ L.length) ∧ L.length - i ≤ gg ∧ ae ((match EZ (mQ ax L) (L.length - i) i with | some i => some i | none => ny (mQ ax L) q) = R) ∧ ae (St w P [] [] [(.slice A L.length cap, L)] [(⟨g, 8, none⟩, .int .i64 (q : Int)), (⟨g, 6, none⟩, .slice A L.length cap)] wr))
  case atStart => exact ⟨q + 1, (by rw [Jc.out]), ⟨by have := HQ.out; omega⟩, by omega, HR, S⟩
  case round =>
   clear S HR
   obtain ⟨i, rfl, HI, hgg, HR, S⟩ := hrel
   by_cases hlt : i < L.length
   case pos =>
    have g_ := ae.mk hlt
    have hlz : (i : Int) < (L.length : Int) := by omega
    have fM := ae.mk hgg
    have hw : wrap64 ((i : Int) + 1) = ((i + 1 : Nat) : Int) := by have := gY.out; unfold wrap64; omega
    have HW := ae.mk hw
    have hr := HR.out
    rw [show L.length - i = (L.length - (i + 1)) + 1 by omega, EZ] at hr
    clear hw hgg
    by_cases hp : 0 < aH ax (kd L i)
    case pos =>
     rw [if_pos (by unfold mQ; simp; omega)] at hr
     replace HR := ae.mk hr
     obtain ⟨hga, hgb⟩ := nz (a := 0) (b := aH ax (kd L i)) (by omega)
     clear hr hp
     have iD := (S.out.cell _ aY).1
     go_wp2_with ((refine bG (some 27) Try.func164 S (oL i g_.out HZ.out (aQ HF.out S.out.below) (S.out.tree _ (.head _))) ?_; clear S; intro di S; clear iD))
     go_ret
     rw [← HR.out]
     exact ⟨rfl, S.out.below⟩
    case neg =>
     rw [if_neg (by unfold mQ; simp; omega)] at hr
     replace HR := ae.mk hr
     obtain ⟨hga, hgb⟩ := lY (a := 0) (b := aH ax (kd L i)) (by omega)
     clear hr hp
     have iD := (S.out.cell _ aY).1
     go_wp2_with ((refine bG (some 27) Try.func164 S (oL i g_.out HZ.out (aQ HF.out S.out.below) (S.out.tree _ (.head _))) ?_; clear S; intro di S; clear iD))
     have hw := HW.out
     go_wp2
     go_roundg (L.length - (i + 1))
     case measure => have := fM.out; have := g_.out; omega
     case rel => exact ⟨i + 1, (by rw [hw]), ⟨by have := g_.out; omega⟩, Nat.le_refl _, HR, S⟩
   case neg =>
    have hlz : ¬ ((i : Int) < (L.length : Int)) := by omega
    have hr := HR.out
    rw [show L.length - i = 0 by omega, EZ] at hr
    simp only [] at hr
    replace HR := ae.mk hr
    clear hr hgg
    have iD := (S.out.cell _ aY).1
    have gQ := (S.out.cell _ (.head _)).1
    go_wp2
    clear iD gQ
    clear hlt hlz
    go_loopg [6] (q + 1) (fun gg v6 wr => ∃ n : Nat, v6 = .int .i64 ((n : Int) - 1) ∧ ae (n ≤ q + 1) ∧ n ≤ gg ∧ ae (ny (mQ ax L) (Nat.min n q) = R) ∧ ae (St w P [] [] [(.slice A L.length cap, L)] [(⟨g, 8, none⟩, .int .i64 (q : Int)), (⟨g, 6, none⟩, .slice A L.length cap)] wr))
    case atStart => exact ⟨q + 1, (by congr 1; omega), ⟨Nat.le_refl _⟩, Nat.le_refl _, ⟨by rw [show Nat.min (q + 1) q = q from Nat.min_eq_right (by omega)]; exact HR.out⟩, S⟩
    case round =>
     clear S HR
     obtain ⟨n, rfl, HN, hgg, HR, S⟩ := hrel
     cases n with
     | zero =>
      have hr := HR.out
      rw [show Nat.min 0 q = 0 from Nat.min_eq_left (Nat.zero_le _), ny] at hr
      replace HR := ae.mk hr
      clear hr
      go_wp2
      go_ret
      rw [← HR.out]
      exact ⟨rfl, S.out.below⟩
     | succ n =>
      have e1 : (((n + 1 : Nat) : Int) - 1) = (n : Int) := by omega
      rw [e1]
      have g_ := ae.mk (show n < L.length by have := HN.out; have := HQ.out; omega)
      have fM := ae.mk hgg
      have hw : wrap64 ((n : Int) - 1) = (n : Int) - 1 := by have := HN.out; have := HQ.out; have := gY.out; unfold wrap64; omega
      have HW := ae.mk hw
      have h0 : decide ((n : Int) ≥ 0) = true := decide_eq_true (Int.natCast_nonneg _)
      have wP : (0 : Int) ≤ (n : Int) := Int.natCast_nonneg _
      have hr := HR.out
      clear hw hgg e1
      by_cases hp : 0 < aH ax (kd L n)
      case pos =>
       by_cases hnq : n < q
       case pos =>
        rw [show Nat.min (n + 1) q = n + 1 from Nat.min_eq_left (by omega), ny, if_pos (by unfold mQ; simp; omega)] at hr
        replace HR := ae.mk hr
        obtain ⟨hga, hgb⟩ := nz (a := 0) (b := aH ax (kd L n)) (by omega)
        obtain ⟨hsa, hsb⟩ := nz (a := (n : Int)) (b := (q : Int)) (by omega)
        have hsc : decide (n < q) = true := decide_eq_true (by omega)
        have hse : n < q := by omega
        clear hr hp
        go_wp2_with ((refine bG (some 40) Try.func164 S (oL n g_.out HZ.out (aQ HF.out S.out.below) (S.out.tree _ (.head _))) ?_; clear S; intro di S; have gQ := (S.out.cell _ (.head _)).1))
        clear gQ
        go_ret
        rw [← HR.out]
        exact ⟨rfl, S.out.below⟩
       case neg =>
        rw [show Nat.min (n + 1) q = Nat.min n q by rw [show Nat.min (n + 1) q = q from Nat.min_eq_right (by omega), show Nat.min n q = q from Nat.min_eq_right (by omega)]] at hr
        replace HR := ae.mk hr
        obtain ⟨hga, hgb⟩ := nz (a := 0) (b := aH ax (kd L n)) (by omega)
        obtain ⟨hsa, hsb⟩ := lY (a := (n : Int)) (b := (q : Int)) (by omega)
        have hsc : decide (n < q) = false := decide_eq_false (by omega)
        have hse : ¬ (n < q) := by omega
        clear hr hp
        go_wp2_with ((refine bG (some 40) Try.func164 S (oL n g_.out HZ.out (aQ HF.out S.out.below) (S.out.tree _ (.head _))) ?_; clear S; intro di S; have gQ := (S.out.cell _ (.head _)).1))
        clear gQ
        have hw := HW.out
        go_wp2
        go_roundg n
        case measure => exact Nat.lt_of_lt_of_le (Nat.lt_succ_self _) fM.out
        case rel => exact ⟨n, (by rw [hw]), ⟨by have := HN.out; omega⟩, Nat.le_refl _, HR, S⟩
      case neg =>
       have hmn : ny (mQ ax L) (Nat.min (n + 1) q) = ny (mQ ax L) (Nat.min n q) := by
        by_cases hnq : n < q
        ·rw [show Nat.min (n + 1) q = n + 1 from Nat.min_eq_left (by omega), show Nat.min n q = n from Nat.min_eq_left (by omega), ny, if_neg (by unfold mQ; simp; omega)]
        ·rw [show Nat.min (n + 1) q = q from Nat.min_eq_right (by omega), show Nat.min n q = q from Nat.min_eq_right (by omega)]
       rw [hmn] at hr; clear hmn
       replace HR := ae.mk hr
       obtain ⟨hga, hgb⟩ := lY (a := 0) (b := aH ax (kd L n)) (by omega)
       clear hr hp
       go_wp2_with ((refine bG (some 40) Try.func164 S (oL n g_.out HZ.out (aQ HF.out S.out.below) (S.out.tree _ (.head _))) ?_; clear S; intro di S))
       have hw := HW.out
       go_wp2
       go_roundg n
       case measure => exact Nat.lt_of_lt_of_le (Nat.lt_succ_self _) fM.out
       case rel => exact ⟨n, (by rw [hw]), ⟨by have := HN.out; omega⟩, Nat.le_refl _, HR, S⟩
 | false =>
  simp only [Bool.false_eq_true, if_false] at hR
  have HR := ae.mk hR
  clear hR
  go_enter Try.func185, Try.ntmps185
  have gQ := (S.out.cell _ (.head _)).1
  go_wp2
  clear gQ
  go_loopg [5] 0 (fun gg v5 wr => ∃ i : Nat, v5 = .int .i64 (i : Int) ∧ ae (St w P [] [] [(.slice A L.length cap, L)] [(⟨g, 8, none⟩, .int .i64 (q : Int)), (⟨g, 6, none⟩, .slice A L.length cap)] wr))
  case atStart => exact ⟨q + 1, (by rw [Jc.out]), S⟩
  case round =>
   clear S
   obtain ⟨i, rfl, S⟩ := hrel
   have gQ := (S.out.cell _ (.head _)).1
   go_wp2
   clear gQ
   go_loopg [6] (q + 1) (fun gg v6 wr => ∃ n : Nat, v6 = .int .i64 ((n : Int) - 1) ∧ ae (n ≤ q + 1) ∧ n ≤ gg ∧ ae (ny (mQ ax L) n = R) ∧ ae (St w P [] [] [(.slice A L.length cap, L)] [(⟨g, 8, none⟩, .int .i64 (q : Int)), (⟨g, 6, none⟩, .slice A L.length cap)] wr))
   case atStart => exact ⟨q + 1, (by congr 1; omega), ⟨Nat.le_refl _⟩, Nat.le_refl _, HR, S⟩
   case round =>
    clear S HR
    obtain ⟨n, rfl, HN, hgg, HR, S⟩ := hrel
    cases n with
    | zero =>
     have hr := HR.out
     rw [ny] at hr
     replace HR := ae.mk hr
     clear hr
     go_wp2
     go_ret
     rw [← HR.out]
     exact ⟨rfl, S.out.below⟩
    | succ n =>
     have e1 : (((n + 1 : Nat) : Int) - 1) = (n : Int) := by omega
     rw [e1]
     have g_ := ae.mk (show n < L.length by have := HN.out; have := HQ.out; omega)
     have fM := ae.mk hgg
     have hw : wrap64 ((n : Int) - 1) = (n : Int) - 1 := by have := HN.out; have := HQ.out; have := gY.out; unfold wrap64; omega
     have HW := ae.mk hw
     have h0 : decide ((n : Int) ≥ 0) = true := decide_eq_true (Int.natCast_nonneg _)
     have wP : (0 : Int) ≤ (n : Int) := Int.natCast_nonneg _
     have hr := HR.out
     clear hw hgg e1
     by_cases hp : 0 < aH ax (kd L n)
     case pos =>
      by_cases hnq : n < q
      case pos =>
       rw [ny, if_pos (by unfold mQ; simp; omega)] at hr
       replace HR := ae.mk hr
       obtain ⟨hga, hgb⟩ := nz (a := 0) (b := aH ax (kd L n)) (by omega)
       obtain ⟨hsa, hsb⟩ := nz (a := (n : Int)) (b := (q : Int)) (by omega)
       have hsc : decide (n < q) = true := decide_eq_true (by omega)
       have hse : n < q := by omega
       clear hr hp
       go_wp2_with ((refine bG (some 40) Try.func164 S (oL n g_.out HZ.out (aQ HF.out S.out.below) (S.out.tree _ (.head _))) ?_; clear S; intro di S; have gQ := (S.out.cell _ (.head _)).1))
       clear gQ
       go_ret
       rw [← HR.out]
       exact ⟨rfl, S.out.below⟩
      case neg =>
       rw [ny, if_pos (by unfold mQ; simp; omega)] at hr
       replace HR := ae.mk hr
       obtain ⟨hga, hgb⟩ := nz (a := 0) (b := aH ax (kd L n)) (by omega)
       obtain ⟨hsa, hsb⟩ := lY (a := (n : Int)) (b := (q : Int)) (by omega)
       have hsc : decide (n < q) = false := decide_eq_false (by omega)
       have hse : ¬ (n < q) := by omega
       clear hr hp
       go_wp2_with ((refine bG (some 40) Try.func164 S (oL n g_.out HZ.out (aQ HF.out S.out.below) (S.out.tree _ (.head _))) ?_; clear S; intro di S; have gQ := (S.out.cell _ (.head _)).1))
       clear gQ
       go_ret
       rw [← HR.out]
       exact ⟨rfl, S.out.below⟩
     case neg =>
      rw [ny, if_neg (by unfold mQ; simp; omega)] at hr
      replace HR := ae.mk hr
      obtain ⟨hga, hgb⟩ := lY (a := 0) (b := aH ax (kd L n)) (by omega)
      clear hr hp
      go_wp2_with ((refine bG (some 40) Try.func164 S (oL n g_.out HZ.out (aQ HF.out S.out.below) (S.out.tree _ (.head _))) ?_; clear S; intro di S))
      have hw := HW.out
      go_wp2
      go_roundg n
      case measure => exact Nat.lt_of_lt_of_le (Nat.lt_succ_self _) fM.out
      case rel => exact ⟨n, (by rw [hw]), ⟨by have := HN.out; omega⟩, Nat.le_refl _, HR, S⟩
def xP.T18 : Bool × List (List Nat × List Nat) := (true, [([], []), ([0], [0]), ([], []), ([], []), ([], []), ([], []), ([3, 4, 5], [3, 4, 5]), ([1, 2, 0, 1, 2, 3, 4, 5, 6], [1, 2]), ([7, 6, 6, 0, 1, 2, 3, 4, 5, 6], [6, 7])])
def xP.B18 : List Nat := [0, 1, 0, 0, 0, 0, 56, 127, 255]
theorem xP.ahu : iM .any (opsOf Try.f199 18) = xP.T18 := by kernel_rfl
theorem xP.ad9 : gZ xP.T18.2 xP.B18 = true := by kernel_rfl
theorem aaw {W : World} {b : Nat} {P : Nat → Prop} {A : Option Addr} {n cc : Nat} (c : ai) (ax : Int) (hV : Kd.V k26 26 W b P (.slice A n cc) c.f3) :
  Calls Try.prog 99 #[.agg #[.int .u8 c.f0, .int .i64 c.f1.f0, .int .i64 c.f1.f1, .int .i64 c.f1.f2, .int .i64 c.f1.f3, .int .i64 c.f2, .slice A n cc], .int .u8 ax] W fun e w' => e = .returned (.bool (fK ax c.f0)) ∧ Below W.heap.size W w' := by
 obtain rfl := (Kd.kQ hV).1
 exact aav c ax hV
theorem ad1 (ax : Int) : ∀ (N : Nat) (c : ai), sz c ≤ N → N ≤ 100000 → ∀ (aC : Int), (-2147483647 ≤ aC ∧ aC ≤ 2147483647) → ∀ (P : Nat → Prop) (A : Option Addr) (cc : Nat) (w : World), Kd.V k26 26 w w.heap.size P (.slice A c.f3.length cc) c.f3 →
  Calls Try.prog 199 #[.agg #[.int .u8 c.f0, .int .i64 c.f1.f0, .int .i64 c.f1.f1, .int .i64 c.f1.f2, .int .i64 c.f1.f3, .int .i64 c.f2, .slice A c.f3.length cc], .int .u8 ax, .int .i64 aC] w (yX w P (dQ ax c aC)) := by
 intro N
 induction N with
 | zero => intro c h; rw [bV] at h; omega
 | succ N ih =>
  intro c hc hN aC hby P A cc w hv
  have hsz := bV c
  have hlen := ig c.f3
  have hl1 : c.f3.length ≤ 100000 := by omega
  have IH := ae.mk fun (k : ai) (hk : k ∈ c.f3) (n : Int) (hn : -2147483647 ≤ n ∧ n ≤ 2147483647) P A cc w h => ih k (by have := Bi hk; omega) (by omega) n hn P A cc w h
  have Ez := ae.mk fun (k : ai) (hk : k ∈ c.f3) => (show sz k ≤ 1048576 by have := Bi hk; omega)
  have gY := ae.mk (show c.f3.length ≤ 1000000 by omega)
  have MI := zH aC (c.f3.map (aH ax)) (by simpa using hl1) hby.1 hby.2
  have hsl := Si (b := aC) (gs := c.f3.map (aH ax)) (by simpa using hl1) hby.1 hby.2
  have hsb := Xe (b := aC) (gs := c.f3.map (aH ax)) (by simpa using hl1) hby.1 hby.2
  have D9 := fun (Ag : Option Addr) (cg : Nat) (W : World) (hC : Kd.C (Kd.int .i64) W Ag (c.f3.map (aH ax)).length (c.f3.map (aH ax))) (h2 : (c.f3.map (aH ax)).length ≤ cg) => Y2 aC (c.f3.map (aH ax)) (by simpa using hl1) hby.1 hby.2 hC h2
  have DC : ∀ i, Hl ax c.f0 c.f3 aC i = if (oz aC (c.f3.map (aH ax))).2 = true ∧ fK ax c.f0 = true then rd (oz aC (c.f3.map (aH ax))).1 (i : Int) else aC := fun i => rfl
  rw [yI]
  have S := ae.mk (St.start (ts := [(.slice A c.f3.length cc, c.f3)]) (b0 := w.heap.size) (w := w) (P := P) (fun t ht => by rw [List.mem_singleton.1 ht]; exact hv))
  obtain ⟨ck, ⟨cx, cy, cw, ch⟩, ay, l⟩ := c
  simp only [] at S IH Ez gY MI hsl hsb D9 DC hl1 ⊢
  obtain ⟨gw, hgw⟩ : ∃ gw, gw = if ax = 1 then wrap64 (cw + aC) else cw := ⟨_, rfl⟩
  obtain ⟨gh, hgh⟩ : ∃ gh, gh = if ax = 1 then ch else wrap64 (ch + aC) := ⟨_, rfl⟩
  simp only [grow]
  rw [← hgw, ← hgh]
  generalize Hl ax ck l aC = NS at DC ⊢
  obtain ⟨⟨sl, ok⟩, hsp⟩ : ∃ sp, sp = oz aC (l.map (aH ax)) := ⟨_, rfl⟩
  simp only [← hsp, List.length_map] at hsl hsb D9 DC
  have HNB := ae.mk (show ∀ i, i < l.length → -2147483647 ≤ NS i ∧ NS i ≤ 2147483647 from fun i hi => by
   rw [DC i]
   split
   ·rename_i h
    exact hsb _ (by unfold rd; rw [List.getD_eq_getElem?_getD, List.getElem?_eq_getElem (by rw [hsl h.1]; simpa using hi)]; exact List.getElem_mem _)
   ·exact hby)
  have EO := ae.mk hsl
  have UG := ae.mk DC
  have UI := ae.mk D9
  have G5 := ae.mk hgw
  have NY := ae.mk hgh
  have G_ := ae.mk hl1
  clear ih hc hN hby hv hsz hlen MI hsl hsb D9 DC hgw hgh hsp hl1
  go_enter Try.func199, Try.ntmps199
  go_upto_if 16 with (first
   | (refine boxS 3 _ 26 S ?_; clear S; intro b3 di S)
   | (refine boxS 6 _ 26 S ?_; clear S; intro b6 dS S)
   | fail)
  go_cut [] (fun wc => ae (St w P [(some b6, .cells #[.int .u8 0, .int .i64 0, .int .i64 0, .int .i64 0, .int .i64 0, .int .i64 0, .slice none 0 0] 26 (0, 0)), (some b3, .cells #[.int .u8 ck, .int .i64 cx, .int .i64 cy, .int .i64 gw, .int .i64 gh, .int .i64 ay, .slice A l.length cc] 26 (0, 0))] [] [(.slice A l.length cc, l)] [] wc))
  case first =>
   by_cases hx : ax = 1
   ·have hxb : (ax == 1) = true := beq_iff_eq.mpr hx
    have HX := ae.mk hx
    clear hx
    have bz := (S.out.at aY 3).trans rfl
    go_wp2_with (first
     | (refine uk 3 23 21 #[.int .u8 ck, .int .i64 cx, .int .i64 cy, .int .i64 (wrap64 (cw + aC)), .int .i64 ch, .int .i64 ay, .slice A l.length cc] 3 1 S ?_; clear S; intro gq S; clear bz)
     | fail)
    go_meet
    case rel => rw [G5.out, NY.out, if_pos HX.out, if_pos HX.out]; exact S
   ·have hxb : (ax == 1) = false := beq_eq_false_iff_ne.mpr hx
    have HX := ae.mk hx
    clear hx
    have bM := (S.out.at aY 4).trans rfl
    go_wp2_with (first
     | (refine uk 3 30 28 #[.int .u8 ck, .int .i64 cx, .int .i64 cy, .int .i64 cw, .int .i64 (wrap64 (ch + aC)), .int .i64 ay, .slice A l.length cc] 4 1 S ?_; clear S; intro gz S; clear bM)
     | fail)
    go_meet
    case rel => rw [G5.out, NY.out, if_neg HX.out, if_neg HX.out]; exact S
  case rest =>
   clear S G5 NY
   rename World => wx
   have S := hcut
   clear hcut
   have bC := (S.out.at aY 6).trans rfl
   go_wp2_with (first
    | (refine Ba (some 33) Try.func137 S (aaA l gY.out (S.out.tree _ (.head _))) ?_; clear S; intro A1 c1 kG S; clear bC)
    | (refine uk 24 34 33 #[.int .u8 ck, .int .i64 cx, .int .i64 cy, .int .i64 gw, .int .i64 gh, .int .i64 ay, .slice A1 l.length c1] 6 1 S ?_; clear S; intro tJ S; have bC := (S.out.at aY 6).trans rfl)
    | fail)
   clear bC
   obtain ⟨oi, S1, HI0⟩ := S.out.noI
   clear S
   go_loopg [7, 38] l.length (fun gg v7 v38 wr => ∃ (pre rest : List ai) (Ag : Option Addr) (cg : Nat) (og : Obj), v7 = .slice Ag pre.length cg ∧ v38 = .int .i64 (pre.length : Int) ∧ ae (pre ++ rest = l) ∧ rest.length ≤ gg ∧ ae (IR w.heap.size (.slice Ag pre.length cg) (pre.map (aH ax)) og) ∧ ae (St w P [((Value.slice Ag pre.length cg).ownBlock, og), (some b6, .cells #[.int .u8 0, .int .i64 0, .int .i64 0, .int .i64 0, .int .i64 0, .int .i64 0, .slice none 0 0] 26 (0, 0)), (some b3, .cells #[.int .u8 ck, .int .i64 cx, .int .i64 cy, .int .i64 gw, .int .i64 gh, .int .i64 ay, .slice A1 l.length c1] 26 (0, 0))] [(.slice A1 l.length c1, l)] [(.slice A l.length cc, l)] [] wr))
   case atStart => exact ⟨[], l, none, 0, oi, rfl, rfl, ⟨rfl⟩, Nat.le_refl _, ⟨HI0⟩, ⟨S1⟩⟩
   case round =>
    clear S1 HI0 oi
    obtain ⟨pre, rest, Ag, cg, og, rfl, rfl, HE, hgg, HI, S⟩ := hrel
    cases rest with
    | nil =>
     have hE := HE.out
     rw [List.append_nil] at hE
     have hE2 := hE.symm
     subst hE2
     clear hE HE hgg
     have hlt : ¬ ((l.length : Int) < (l.length : Int)) := by omega
     have MI := fun W hW => UI.out Ag cg W (by have h := (Kd.eQ (HI.out W hW)).2.2; rw [List.length_map] at h; exact h) (by have h := (Kd.eQ (HI.out W hW)).2.1; exact h)
     have Zi := ae.mk MI
     clear MI UI
     go_wp2_with (first
      | (refine iT (some 52) Try.func49 (Zi.out _ (S.out.blk _ (.head _))) ?_; rintro e vV ⟨As, cs, rfl, h1, hb⟩; refine ⟨_, rfl, ?_⟩; obtain ⟨os, S1, HI1⟩ := S.out.Ql h1 hb; replace S := ae.mk S1; have HIS := ae.mk HI1; clear S1 HI1 h1 hb; have bC := (S.out.at jB 6).trans rfl)
      | fail)
     clear bC
     go_loopg [58] l.length (fun gg v58 wr => ∃ (pre rest : List ai), v58 = .int .i64 (pre.length : Int) ∧ ae (pre ++ rest = l) ∧ rest.length ≤ gg ∧ ae (St w P [((Value.slice As sl.length cs).ownBlock, os), ((Value.slice Ag l.length cg).ownBlock, og), (some b6, .cells #[.int .u8 0, .int .i64 0, .int .i64 0, .int .i64 0, .int .i64 0, .int .i64 0, .slice none 0 0] 26 (0, 0)), (some b3, .cells #[.int .u8 ck, .int .i64 cx, .int .i64 cy, .int .i64 gw, .int .i64 gh, .int .i64 ay, .slice A1 l.length c1] 26 (0, 0))] [(.slice A1 l.length c1, (jW ax pre NS 0 ++ rest))] [(.slice A l.length cc, l)] [] wr))
     case atStart => exact ⟨[], l, rfl, ⟨rfl⟩, Nat.le_refl _, ⟨by rw [qJ]; exact S.out⟩⟩
     case round =>
      clear S
      obtain ⟨pre, rest, rfl, HE, hgg, S⟩ := hrel
      cases rest with
      | nil =>
       have hE := HE.out
       rw [List.append_nil] at hE
       have hE2 := hE.symm
       subst hE2
       clear hE HE hgg
       have hlt : ¬ ((l.length : Int) < (l.length : Int)) := by omega
       obtain ⟨bf, bg, bu, bz, bM, bU, bC⟩ := St.dD S jB
       go_wp2_with (first
        | (refine Qd 26 6 83 #[.int .u8 ck, .int .i64 cx, .int .i64 cy, .int .i64 gw, .int .i64 gh, .int .i64 ay, .slice A1 l.length c1] 0 7 S ?_; clear S; intro wV S; clear bf bg bu bz bM bU bC)
        | fail)
       refine bodyPost_ret (results_cell_row rfl _ _ b6 26 _ (0, 0) _ rfl (S.out.blk _ dL _ rfl) Try.underlying26 rfl (by kernel_rfl)) rfl ?_
       have hN := S.out.oV
       rw [List.append_nil] at hN
       simp only [yX, yK]
       exact ⟨_, _, rfl, hN, S.out.below⟩
      | cons k rest =>
       have hk : k ∈ l := by rw [← HE.out]; simp
       have hlt : (pre.length : Int) < (l.length : Int) := by rw [← HE.out, List.length_append, List.length_cons]; omega
       have hw1 : wrap64 ((pre.length : Int) + 1) = ((pre ++ [k]).length : Int) := by have := gY.out; rw [List.length_append, List.length_singleton]; unfold wrap64; omega
       have HW1 := ae.mk hw1
       have fM := ae.mk hgg
       have HK := ae.mk hk
       have ik := ae.mk (Ez.out k hk)
       have yD := ae.mk (show pre.length ≤ 1000000 by have := gY.out; omega)
       have HJ := ae.mk (show pre.length < l.length by omega)
       have xB := ae.mk (show (pre.length : Int) < ((jW ax pre NS 0 ++ k :: rest).length : Int) by rw [List.length_append, yK, List.length_cons]; omega)
       obtain ⟨g, cap, ev, _⟩ := Kd.wE S.out.oV (by have := xB.out; omega)
       injection ev with e1 e2 e3
       subst e1
       clear e2 e3 hk hgg hw1
       obtain ⟨ua, uc, S1, hcell⟩ := S.out.Gy (pre.length : Int) (Int.natCast_nonneg _) xB.out
       have hrd : aA (jW ax pre NS 0 ++ k :: rest) (pre.length : Int) = k := ad3 ax NS pre k rest
       rw [hrd] at S1 hcell
       replace S := ae.mk S1
       have x0 : wr.cell? ⟨g, pre.length * 7, none⟩ = some (.int .u8 k.f0) := hcell 0 _ rfl
       have x1 : wr.cell? ⟨g, pre.length * 7 + 1, none⟩ = some (.int .i64 k.f1.f0) := hcell 1 _ rfl
       have x2 : wr.cell? ⟨g, pre.length * 7 + 2, none⟩ = some (.int .i64 k.f1.f1) := hcell 2 _ rfl
       have x3 : wr.cell? ⟨g, pre.length * 7 + 3, none⟩ = some (.int .i64 k.f1.f2) := hcell 3 _ rfl
       have x4 : wr.cell? ⟨g, pre.length * 7 + 4, none⟩ = some (.int .i64 k.f1.f3) := hcell 4 _ rfl
       have x5 : wr.cell? ⟨g, pre.length * 7 + 5, none⟩ = some (.int .i64 k.f2) := hcell 5 _ rfl
       have x6 : wr.cell? ⟨g, pre.length * 7 + 6, none⟩ = some (.slice ua k.f3.length uc) := hcell 6 _ rfl
       clear S1 hcell hrd
       go_upto_region 16 with (first
        | (refine boxS 13 _ 26 S ?_; clear S; intro b13 Gn S; clear x0 x1 x2 x3 x4 x5 x6)
        | (refine gy 26 13 62 #[.int .u8 k.f0, .int .i64 k.f1.f0, .int .i64 k.f1.f1, .int .i64 k.f1.f2, .int .i64 k.f1.f3, .int .i64 k.f2, .slice ua k.f3.length uc] 0 7 S ?_; clear S; intro Aj S)
        | fail)
       go_cut [69] (fun v69 wc => v69 = .bool (ok && fK ax ck) ∧ ae (St w P [(some b13, .cells #[.int .u8 k.f0, .int .i64 k.f1.f0, .int .i64 k.f1.f1, .int .i64 k.f1.f2, .int .i64 k.f1.f3, .int .i64 k.f2, .slice ua k.f3.length uc] 26 (0, 0)), ((Value.slice As sl.length cs).ownBlock, os), ((Value.slice Ag l.length cg).ownBlock, og), (some b6, .cells #[.int .u8 0, .int .i64 0, .int .i64 0, .int .i64 0, .int .i64 0, .int .i64 0, .slice none 0 0] 26 (0, 0)), (some b3, .cells #[.int .u8 ck, .int .i64 cx, .int .i64 cy, .int .i64 gw, .int .i64 gh, .int .i64 ay, .slice (some ⟨g, 0, none⟩) l.length c1] 26 (0, 0))] [(.slice (some ⟨g, 0, none⟩) l.length c1, (jW ax pre NS 0 ++ k :: rest))] [(.slice ua k.f3.length uc, k.f3), (.slice A l.length cc, l)] [] wc))
       case first =>
        cases ok with
        | false =>
         go_wp2
         go_meet
         case rel => exact ⟨by first | rfl | simp, S⟩
        | true =>
         obtain ⟨bf, bg, bu, bz, bM, bU, bC⟩ := St.dD S lK
         go_wp2_with (first
          | (refine iI 68 rfl ?_; (refine iV (by rfl) ?_; dsimp only); refine bG (some 68) Try.func99 S (aaw ⟨ck, ⟨cx, cy, gw, gh⟩, ay, _⟩ ax (Kd.oD (base' := 0) (S.out.own _ (.head _)))) ?_; clear S; intro Gm S; clear bf bg bu bz bM bU bC)
          | fail)
         go_meet
         case rel => exact ⟨by first | rfl | simp, S⟩
       case rest =>
        clear S
        obtain ⟨rfl, S⟩ := hcut
        rename World => wz
        go_upto_if 69 with fail
        go_cut [14] (fun v14 wc => v14 = .int .i64 (NS pre.length) ∧ ae (St w P [(some b13, .cells #[.int .u8 k.f0, .int .i64 k.f1.f0, .int .i64 k.f1.f1, .int .i64 k.f1.f2, .int .i64 k.f1.f3, .int .i64 k.f2, .slice ua k.f3.length uc] 26 (0, 0)), ((Value.slice As sl.length cs).ownBlock, os), ((Value.slice Ag l.length cg).ownBlock, og), (some b6, .cells #[.int .u8 0, .int .i64 0, .int .i64 0, .int .i64 0, .int .i64 0, .int .i64 0, .slice none 0 0] 26 (0, 0)), (some b3, .cells #[.int .u8 ck, .int .i64 cx, .int .i64 cy, .int .i64 gw, .int .i64 gh, .int .i64 ay, .slice (some ⟨g, 0, none⟩) l.length c1] 26 (0, 0))] [(.slice (some ⟨g, 0, none⟩) l.length c1, (jW ax pre NS 0 ++ k :: rest))] [(.slice ua k.f3.length uc, k.f3), (.slice A l.length cc, l)] [] wc))
        case first =>
         cases hoa : (ok && fK ax ck) with
         | false =>
          go_wp2
          go_meet
          case rel => exact ⟨by rw [UG.out, if_neg (by intro h; rw [h.1, h.2] at hoa; cases hoa)], S⟩
         | true =>
          have hok : ok = true ∧ fK ax ck = true := by simpa using hoa
          have hsl2 : sl.length = l.length := EO.out hok.1
          have hlt2 : (pre.length : Int) < (sl.length : Int) := by rw [hsl2]; exact hlt
          obtain ⟨ads, ea, _⟩ := Kd.jl (Kd.eQ (HIS.out _ (S.out.blk _ aY))).2.2 (pre.length : Int) (Int.natCast_nonneg _) hlt2
          subst ea
          have UH := ae.mk hok
          clear hok
          have xs := Bv HIS.out (S.out.blk _ aY) pre.length hlt2
          go_wp2
          clear xs
          go_meet
          case rel => exact ⟨by rw [UG.out, if_pos UH.out], S⟩
        case rest =>
         clear S
         obtain ⟨rfl, S⟩ := hcut
         rename World => wy
         go_wp2
         refine gX (n := 9) (S := fun w' => St w _ _ _ _ _ w') (ds := [8]) (bA 9 0) (by kernel_rfl) rfl rfl (S.out.call (a_ (Below.refl _ _))) (fun hHeld => ?_); refine dZ xP.ahu xP.ad9 (fun aj dE => ?_)
         replace S := ae.mk (S.out.call (a_ (Below.refl _ _)))
         generalize wy.drew = amK at S hHeld ⊢
         refine ak 0 74 (bA 9 1) aj ?_
         refine b_ 1 75 (bA 9 3) aj dE hHeld ?_ (hv := by intro w' hs_; have bC := (hs_.at lK 6).trans rfl; go_simp; with_reducible rfl)
         refine ak 2 76 (bA 9 7) aj ?_
         refine b_ 3 77 (bA 9 15) aj dE hHeld ?_ (hv := by intro w' hs_; have akU := (hs_.at (.head _) 0).trans rfl; have akV := (hs_.at (.head _) 1).trans rfl; have akW := (hs_.at (.head _) 2).trans rfl; have akX := (hs_.at (.head _) 3).trans rfl; have akY := (hs_.at (.head _) 4).trans rfl; have akZ := (hs_.at (.head _) 5).trans rfl; have ak0 := (hs_.at (.head _) 6).trans rfl; go_simp; with_reducible rfl)
         refine ak 4 78 (bA 9 31) aj ?_
         refine ak 5 79 (bA 9 63) aj ?_
         refine iL 6 (some 80) (bA 9 127) aj (fun K hK => ?_)
         refine wY Try.func199 #[.agg #[.int .u8 k.f0, .int .i64 k.f1.f0, .int .i64 k.f1.f1, .int .i64 k.f1.f2, .int .i64 k.f1.f3, .int .i64 k.f2, .slice ua k.f3.length uc], .int .u8 ax, .int .i64 (NS pre.length)] ?_
         refine (IH.out k HK.out (NS pre.length) (HNB.out _ HJ.out) _ ua uc _ (eY (S.out.tree _ (.head _)))).mono ?_
         rintro e Lu ⟨Av, cv, rfl, h1, hb⟩
         refine ⟨_, rfl, ?_⟩
         replace S := ae.mk (S.out.res (Kd.oD (base' := 0) h1) hb)
         clear h1 hb
         refine hK.out _ _ S.out.bQ (fun hHeld => ?_)
         clear hK K
         refine dR 80 ?_
         refine ak 7 81 (bA 9 255) aj ?_
         refine lV 8 none (bA 9 511) aj (fun K hK => ?_)
         refine Ld (pre.length : Int) (dQ ax k (NS pre.length)) (.tmp 81) (.tmp 80) rfl S.out (by rfl) rfl (Int.natCast_nonneg _) xB.out (by first | rfl | (go_simp; rfl)) rfl (by kernel_rfl) (.head _) ?_
         intro agd S1
         rw [show (jW ax pre NS 0 ++ k :: rest).set (pre.length : Int).toNat (dQ ax k (NS pre.length)) = jW ax (pre ++ [k]) NS 0 ++ rest from aau ax NS pre k rest] at S1
         replace S := ae.mk S1
         clear S1
         refine hK.out _ _ ?_
         clear hK K
         refine jf (fJ aj.out (by kernel_rfl)) ?_
         clear hHeld
         go_wp2
         have hw1 := HW1.out
         go_wp2
         go_roundg rest.length
         case measure => exact Nat.lt_of_lt_of_le (Nat.lt_succ_self _) fM.out
         case rel => exact ⟨pre ++ [k], rest, (by rw [hw1]), ⟨by rw [List.append_assoc]; exact HE.out⟩, Nat.le_refl _, ⟨S.out.dV.bQ.bQ⟩⟩
    | cons k rest =>
     have hk : k ∈ l := by rw [← HE.out]; simp
     have hlt : (pre.length : Int) < (l.length : Int) := by rw [← HE.out, List.length_append, List.length_cons]; omega
     have hw1 : wrap64 ((pre.length : Int) + 1) = ((pre ++ [k]).length : Int) := by have := gY.out; rw [List.length_append, List.length_singleton]; unfold wrap64; omega
     have HW1 := ae.mk hw1
     have fM := ae.mk hgg
     have HK := ae.mk hk
     have ik := ae.mk (Ez.out k hk)
     have yD := ae.mk (show pre.length ≤ 1000000 by have := gY.out; omega)
     have HJ := ae.mk (show pre.length < l.length by omega)
     have xB := ae.mk (show (pre.length : Int) < ((l).length : Int) by omega)
     obtain ⟨g, cap, ev, _⟩ := Kd.wE S.out.oV (by have := xB.out; omega)
     injection ev with e1 e2 e3
     subst e1
     clear e2 e3 hk hgg hw1
     obtain ⟨ua, uc, S1, hcell⟩ := S.out.Gy (pre.length : Int) (Int.natCast_nonneg _) xB.out
     have hrd : aA (l) (pre.length : Int) = k := (by rw [← HE.out]; exact kE pre k rest)
     rw [hrd] at S1 hcell
     replace S := ae.mk S1
     have x0 : wr.cell? ⟨g, pre.length * 7, none⟩ = some (.int .u8 k.f0) := hcell 0 _ rfl
     have x1 : wr.cell? ⟨g, pre.length * 7 + 1, none⟩ = some (.int .i64 k.f1.f0) := hcell 1 _ rfl
     have x2 : wr.cell? ⟨g, pre.length * 7 + 2, none⟩ = some (.int .i64 k.f1.f1) := hcell 2 _ rfl
     have x3 : wr.cell? ⟨g, pre.length * 7 + 3, none⟩ = some (.int .i64 k.f1.f2) := hcell 3 _ rfl
     have x4 : wr.cell? ⟨g, pre.length * 7 + 4, none⟩ = some (.int .i64 k.f1.f3) := hcell 4 _ rfl
     have x5 : wr.cell? ⟨g, pre.length * 7 + 5, none⟩ = some (.int .i64 k.f2) := hcell 5 _ rfl
     have x6 : wr.cell? ⟨g, pre.length * 7 + 6, none⟩ = some (.slice ua k.f3.length uc) := hcell 6 _ rfl
     clear S1 hcell hrd
     go_wp2_with (first
      | (refine boxS 9 _ 26 S ?_; clear S; intro b9 Y8 S; clear x0 x1 x2 x3 x4 x5 x6)
      | (refine gy 26 9 41 #[.int .u8 k.f0, .int .i64 k.f1.f0, .int .i64 k.f1.f1, .int .i64 k.f1.f2, .int .i64 k.f1.f3, .int .i64 k.f2, .slice ua k.f3.length uc] 0 7 S ?_; clear S; intro age S; obtain ⟨sG, A8, vz, A_, Jl, Jm, Jn⟩ := St.dD S (.head _))
      | (refine bG (some 45) Try.func86 S (Dz k ax ik.out (S.out.tree _ (.head _))) ?_; clear S; intro ai8 S; clear sG A8 vz A_ Jl Jm Jn)
      | ((with_reducible refine aG (N := 47) rfl ?_); at_builtin; go_loud (refine aax (.tmp 42) (.tmp 46) rfl rfl Try.underlying41 info3 S.out.JM HI.out (aH ax k) rfl (by first | (go_simp; done) | (go_simp; rfl)) (by have := yD.out; simp only [List.length_map]; omega) ?_); intro Ag2 cg2 og2 ai9 S1 I1; rw [show (pre.map (aH ax) ++ [aH ax k]).length = (pre ++ [k]).length by simp] at S1 I1 ⊢; replace S := ae.mk S1.JM; have HI2 := ae.mk I1; clear S1 I1 HI)
      | fail)
     have hw1 := HW1.out
     go_wp2
     go_roundg rest.length
     case measure => exact Nat.lt_of_lt_of_le (Nat.lt_succ_self _) fM.out
     case rel => exact ⟨pre ++ [k], rest, Ag2, cg2, og2, (by simp), (by rw [hw1]), ⟨by rw [List.append_assoc]; exact HE.out⟩, Nat.le_refl _, ⟨by rw [List.map_append]; exact HI2.out⟩, ⟨S.out.dV.bQ⟩⟩
def zO.T6 : Bool × List (List Nat × List Nat) := (true, [([], []), ([], []), ([], []), ([0, 1, 2], [0, 1, 2]), ([], []), ([4], [4]), ([5], [5]), ([], []), ([7], [7]), ([8], [8]), ([3, 6, 9, 3], [3, 6, 9]), ([10, 10, 0, 1, 2, 3, 4, 5, 6, 7, 8, 9, 10], [10]), ([11, 0, 1, 2, 3, 4, 5, 6, 7, 8, 9, 10, 11], [])])
def zO.B6 : List Nat := [0, 0, 0, 7, 0, 16, 48, 0, 128, 384, 1023, 2047, 4095]
theorem zO.tab6 : iM .any (opsOf Try.f183 6) = zO.T6 := by kernel_rfl
theorem zO.CG : gZ zO.T6.2 zO.B6 = true := by kernel_rfl
theorem UZ (ax : Int) (c : ai) (hz : sz c ≤ 1048576) (aC : Int) (P : Nat → Prop) (A : Option Addr) (cc : Nat) (w : World) (hv : Kd.V k26 26 w w.heap.size P (.slice A c.f3.length cc) c.f3) :
  Calls Try.prog 183 #[.agg #[.int .u8 c.f0, .int .i64 c.f1.f0, .int .i64 c.f1.f1, .int .i64 c.f1.f2, .int .i64 c.f1.f3, .int .i64 c.f2, .slice A c.f3.length cc], .int .u8 ax, .int .i64 aC] w (Zl w P (aZ ax c aC) (aN ax c aC)) := by
 have S := ae.mk (St.start (ts := [(.slice A c.f3.length cc, c.f3)]) (b0 := w.heap.size) (w := w) (P := P) (fun t ht => by rw [List.mem_singleton.1 ht]; exact hv))
 have HZ := ae.mk hz
 obtain ⟨ck, ⟨cx, cy, cw, ch⟩, ay, l⟩ := c
 simp only [] at S
 clear hv hz
 cases ht : dB ⟨ck, ⟨cx, cy, cw, ch⟩, ay, l⟩ with
 | false =>
  have HB := ae.mk (show rq ax ⟨ck, ⟨cx, cy, cw, ch⟩, ay, l⟩ = true by unfold rq; rw [ht]; rfl)
  go_enter Try.func183, Try.ntmps183
  go_wp2_with (first | (refine boxS 3 _ 26 S ?_; clear S; intro b3 di S) | (refine boxS 6 _ 26 S ?_; clear S; intro b6 dS S; obtain ⟨bf, bg, bu, bz, bM, bU, bC⟩ := St.dD S aY) | ((with_reducible refine aG (N := 10) rfl ?_); refine vG (N := 10) rfl rfl ⟨ck, ⟨cx, cy, cw, ch⟩, ay, l⟩ S.out (S.out.tree _ (.head _)) ?hr ?_; (case hr => (go_simp; rfl)); intro Xq XW gq S1 h1 h2; replace S := ae.mk S1; have uy := ae.mk h1; have xR := ae.mk h2; clear S1 h1 h2; clear bf bg bu bz bM bU bC) | (refine bG (some 11) Try.func148 S (vM ⟨ck, ⟨cx, cy, cw, ch⟩, ay, l⟩ HZ.out xR.out uy.out) ?_; clear S; intro gz S) | (refine gy 26 6 21 #[.int .u8 0, .int .i64 0, .int .i64 0, .int .i64 0, .int .i64 0, .int .i64 0, .slice none 0 0] 0 7 S ?_; clear S; intro kG S))
  refine bodyPost_ret (eH rfl _ _ b6 26 _ (0, 0) _ rfl (S.out.blk _ (.head _) _ rfl) Try.underlying26 rfl (by kernel_rfl)) rfl ?_
  rw [show aN ax ⟨ck, ⟨cx, cy, cw, ch⟩, ay, l⟩ aC = 1 by unfold aN; rw [if_pos HB.out], show aZ ax ⟨ck, ⟨cx, cy, cw, ch⟩, ay, l⟩ aC = z26 by unfold aZ; rw [if_pos HB.out]]
  exact ⟨_, _, rfl, Kd.oO _ _ _ _ _, S.out.below⟩
 | true =>
  have HT := ae.mk ht
  by_cases hax : ax = 1 ∨ ax = 2
  ·have HB := ae.mk (show rq ax ⟨ck, ⟨cx, cy, cw, ch⟩, ay, l⟩ = false by unfold rq; rw [ht]; rcases hax with rfl | rfl <;> rfl)
   have jh := ae.mk hax
   clear ht hax
   go_enter Try.func183, Try.ntmps183
   go_upto_region 1 with (first | (refine boxS 3 _ 26 S ?_; clear S; intro b3 di S) | (refine boxS 6 _ 26 S ?_; clear S; intro b6 dS S))
   (skip)
   go_cut [20] (fun v20 wc => v20 = .bool false ∧ ae (St w P [(some b6, .cells #[.int .u8 0, .int .i64 0, .int .i64 0, .int .i64 0, .int .i64 0, .int .i64 0, .slice none 0 0] 26 (0, 0)), (some b3, .cells #[.int .u8 ck, .int .i64 cx, .int .i64 cy, .int .i64 cw, .int .i64 ch, .int .i64 ay, .slice A l.length cc] 26 (0, 0))] [] [(.slice A l.length cc, l)] [] wc))
   case first =>
    by_cases h1 : ax = 1
    ·skip
     have h1b : (ax != 1) = false := by rw [h1]; rfl
     clear h1
     obtain ⟨bf, bg, bu, bz, bM, bU, bC⟩ := St.dD S aY
     go_wp2_with (first | ((with_reducible refine aG (N := 10) rfl ?_); refine vG (N := 10) rfl rfl ⟨ck, ⟨cx, cy, cw, ch⟩, ay, l⟩ S.out (S.out.tree _ (.head _)) ?hr ?_; (case hr => (go_simp; rfl)); intro Xq XW di S1 h1 h2; replace S := ae.mk S1; have uy := ae.mk h1; have xR := ae.mk h2; clear S1 h1 h2; clear bf bg bu bz bM bU bC) | (refine bG (some 11) Try.func148 S (mf HT.out (vM ⟨ck, ⟨cx, cy, cw, ch⟩, ay, l⟩ HZ.out xR.out uy.out)) ?_; clear S; intro dS S))
     go_meet
     case rel => exact ⟨by rfl, S⟩
    ·skip
     have h1b : (ax != 1) = true := bne_iff_ne.mpr h1
     have h2b : (ax != 2) = false := by rw [jh.out.resolve_left h1]; rfl
     clear h1
     obtain ⟨bf, bg, bu, bz, bM, bU, bC⟩ := St.dD S aY
     go_wp2_with (first | ((with_reducible refine aG (N := 10) rfl ?_); refine vG (N := 10) rfl rfl ⟨ck, ⟨cx, cy, cw, ch⟩, ay, l⟩ S.out (S.out.tree _ (.head _)) ?hr ?_; (case hr => (go_simp; rfl)); intro Xq XW di S1 h1 h2; replace S := ae.mk S1; have uy := ae.mk h1; have xR := ae.mk h2; clear S1 h1 h2; clear bf bg bu bz bM bU bC) | (refine bG (some 11) Try.func148 S (mf HT.out (vM ⟨ck, ⟨cx, cy, cw, ch⟩, ay, l⟩ HZ.out xR.out uy.out)) ?_; clear S; intro dS S))
     go_meet
     case rel => exact ⟨by rfl, S⟩
   case rest =>
    clear S
    obtain ⟨rfl, S⟩ := hcut
    rename World => wx
    have bg := (S.out.at aY 1).trans rfl
    have bz := (S.out.at aY 3).trans rfl
    have bu := (S.out.at aY 2).trans rfl
    have bM := (S.out.at aY 4).trans rfl
    go_upto_region 4 with ((refine bG (some 38) Try.func98 S (af' ⟨0, 0, wrap64 (cx + cw), wrap64 (cy + ch)⟩ ax) ?_; clear S; intro di S; clear bg bz bu bM))
    (skip)
    by_cases h4 : aC < wrap64 (-(aH ax ⟨ck, ⟨cx, cy, cw, ch⟩, ay, l⟩))
    ·have E8 : decide (aC < wrap64 (-(aH ax ⟨ck, ⟨cx, cy, cw, ch⟩, ay, l⟩))) = true := decide_eq_true h4
     have HO := ae.mk (show yc ax ⟨ck, ⟨cx, cy, cw, ch⟩, ay, l⟩ aC = true by unfold yc; rw [E8]; rfl)
     clear h4
     obtain ⟨bf, bg, bu, bz, bM, bU, bC⟩ := St.dD S aY
     go_wp2_with (first | (refine bG (some 42) Try.func86 S (Dz ⟨ck, ⟨cx, cy, cw, ch⟩, ay, l⟩ ax HZ.out (S.out.tree _ (.head _))) ?_; clear S; intro di S; clear bf bg bu bz bM bU bC) | (refine gy 26 6 51 #[.int .u8 0, .int .i64 0, .int .i64 0, .int .i64 0, .int .i64 0, .int .i64 0, .slice none 0 0] 0 7 S ?_; clear S; intro dS S))
     refine bodyPost_ret (eH rfl _ _ b6 26 _ (0, 0) _ rfl (S.out.blk _ (.head _) _ rfl) Try.underlying26 rfl (by kernel_rfl)) rfl ?_
     rw [show aN ax ⟨ck, ⟨cx, cy, cw, ch⟩, ay, l⟩ aC = 7 by unfold aN; rw [if_neg (by rw [HB.out]; simp), if_pos HO.out], show aZ ax ⟨ck, ⟨cx, cy, cw, ch⟩, ay, l⟩ aC = z26 by unfold aZ; rw [if_neg (by rw [HB.out]; simp), if_pos HO.out]]
     exact ⟨_, _, rfl, Kd.oO _ _ _ _ _, S.out.below⟩
    ·have E8 : decide (aC < wrap64 (-(aH ax ⟨ck, ⟨cx, cy, cw, ch⟩, ay, l⟩))) = false := decide_eq_false h4
     by_cases h5 : aC > wrap64 (10000 - (aW ax ⟨0, 0, wrap64 (cx + cw), wrap64 (cy + ch)⟩))
     ·have Js : decide (aC > wrap64 (10000 - (aW ax ⟨0, 0, wrap64 (cx + cw), wrap64 (cy + ch)⟩))) = true := decide_eq_true h5
      have Vm : decide (wrap64 (10000 - (aW ax ⟨0, 0, wrap64 (cx + cw), wrap64 (cy + ch)⟩)) < aC) = true := decide_eq_true h5
      have HO := ae.mk (show yc ax ⟨ck, ⟨cx, cy, cw, ch⟩, ay, l⟩ aC = true by unfold yc; rw [E8]; exact Js)
      clear h4 h5
      obtain ⟨bf, bg, bu, bz, bM, bU, bC⟩ := St.dD S aY
      go_wp2_with (first | (refine bG (some 42) Try.func86 S (Dz ⟨ck, ⟨cx, cy, cw, ch⟩, ay, l⟩ ax HZ.out (S.out.tree _ (.head _))) ?_; clear S; intro di S; clear bf bg bu bz bM bU bC) | (refine gy 26 6 51 #[.int .u8 0, .int .i64 0, .int .i64 0, .int .i64 0, .int .i64 0, .int .i64 0, .slice none 0 0] 0 7 S ?_; clear S; intro dS S))
      refine bodyPost_ret (eH rfl _ _ b6 26 _ (0, 0) _ rfl (S.out.blk _ (.head _) _ rfl) Try.underlying26 rfl (by kernel_rfl)) rfl ?_
      rw [show aN ax ⟨ck, ⟨cx, cy, cw, ch⟩, ay, l⟩ aC = 7 by unfold aN; rw [if_neg (by rw [HB.out]; simp), if_pos HO.out], show aZ ax ⟨ck, ⟨cx, cy, cw, ch⟩, ay, l⟩ aC = z26 by unfold aZ; rw [if_neg (by rw [HB.out]; simp), if_pos HO.out]]
      exact ⟨_, _, rfl, Kd.oO _ _ _ _ _, S.out.below⟩
     ·have Js : decide (aC > wrap64 (10000 - (aW ax ⟨0, 0, wrap64 (cx + cw), wrap64 (cy + ch)⟩))) = false := decide_eq_false h5
      have Vm : decide (wrap64 (10000 - (aW ax ⟨0, 0, wrap64 (cx + cw), wrap64 (cy + ch)⟩)) < aC) = false := decide_eq_false h5
      have HO := ae.mk (show yc ax ⟨ck, ⟨cx, cy, cw, ch⟩, ay, l⟩ aC = false by unfold yc; rw [E8]; exact Js)
      have hf := adZ HB.out HO.out
      have HZ2 := ae.mk (show sz ⟨ck, ⟨cx, cy, cw, ch⟩, ay, l⟩ ≤ 100000 by omega)
      have HZ3 := ae.mk (show sz (dQ ax ⟨ck, ⟨cx, cy, cw, ch⟩, ay, l⟩ aC) ≤ 1000000 by rw [(UY ax _).1 _ (Nat.le_refl _)]; omega)
      have HBY := ae.mk (show -2147483647 ≤ aC ∧ aC ≤ 2147483647 by omega)
      clear hf h4 h5
      obtain ⟨bf, bg, bu, bz, bM, bU, bC⟩ := St.dD S aY
      go_wp2_with ((refine bG (some 42) Try.func86 S (Dz ⟨ck, ⟨cx, cy, cw, ch⟩, ay, l⟩ ax HZ.out (S.out.tree _ (.head _))) ?_; clear S; intro di S; clear bf bg bu bz bM bU bC))
      refine gX (n := 13) (S := fun w' => St w _ _ _ _ _ w') (ds := [11]) (bA 13 0) (by kernel_rfl) rfl rfl (S.out.call (a_ (Below.refl _ _))) (fun hHeld => ?_); refine dZ zO.tab6 zO.CG (fun aj dE => ?_)
      replace S := ae.mk (S.out.call (a_ (Below.refl _ _)))
      generalize di.drew = wd2 at S hHeld ⊢
      refine b_ 0 52 (bA 13 1) aj dE hHeld ?_ (hv := by intro w' hs_; have bf := (hs_.at aY 0).trans rfl; have bg := (hs_.at aY 1).trans rfl; have bu := (hs_.at aY 2).trans rfl; have bz := (hs_.at aY 3).trans rfl; have bM := (hs_.at aY 4).trans rfl; have bU := (hs_.at aY 5).trans rfl; have bC := (hs_.at aY 6).trans rfl; go_simp; with_reducible rfl)
      refine ak 1 53 (bA 13 3) aj ?_
      refine ak 2 54 (bA 13 7) aj ?_
      refine ak 4 56 (bA 13 23) aj ?_
      refine ak 5 57 (bA 13 55) aj ?_
      refine b_ 6 58 (bA 13 119) aj dE hHeld ?_ (hv := by intro w' hs_; have bg := (hs_.at aY 1).trans rfl; go_simp; with_reducible rfl)
      refine ak 7 59 (bA 13 247) aj ?_
      refine ak 8 60 (bA 13 503) aj ?_
      refine b_ 9 61 (bA 13 1015) aj dE hHeld ?_ (hv := by intro w' hs_; have bu := (hs_.at aY 2).trans rfl; go_simp; with_reducible rfl)
      refine iL 3 (some 55) (bA 13 1023) aj (fun K hK => ?_)
      refine ja Try.func199 (by kernel_rfl) rfl #[.agg #[.int .u8 ck, .int .i64 cx, .int .i64 cy, .int .i64 cw, .int .i64 ch, .int .i64 ay, .slice A l.length cc], .int .u8 ax, .int .i64 aC] (by rfl) rfl rfl (by (try simp only [List.map_toArray, List.map_cons, List.map_nil]); rfl) ?_
      refine (ad1 ax 100000 ⟨ck, ⟨cx, cy, cw, ch⟩, ay, l⟩ HZ2.out (Nat.le_refl _) aC HBY.out _ A cc _ (eY (S.out.tree _ (.head _)))).mono ?_
      rintro e gq ⟨A55, aiv, rfl, h1, hb⟩
      refine ⟨_, rfl, ?_⟩
      replace S := ae.mk (S.out.res (Kd.oD (base' := 0) h1) hb)
      clear h1 hb
      refine hK.out _ _ S.out.bQ (fun hHeld => ?_)
      clear hK K
      refine dR 55 ?_
      refine iL 10 (some 62) (bA 13 2047) aj (fun K hK => ?_)
      refine ja Try.func66 (by kernel_rfl) rfl #[.agg #[.int .u8 ((dQ ax ⟨ck, ⟨cx, cy, cw, ch⟩, ay, l⟩ aC).f0), .int .i64 ((dQ ax ⟨ck, ⟨cx, cy, cw, ch⟩, ay, l⟩ aC).f1.f0), .int .i64 ((dQ ax ⟨ck, ⟨cx, cy, cw, ch⟩, ay, l⟩ aC).f1.f1), .int .i64 ((dQ ax ⟨ck, ⟨cx, cy, cw, ch⟩, ay, l⟩ aC).f1.f2), .int .i64 ((dQ ax ⟨ck, ⟨cx, cy, cw, ch⟩, ay, l⟩ aC).f1.f3), .int .i64 ((dQ ax ⟨ck, ⟨cx, cy, cw, ch⟩, ay, l⟩ aC).f2), .slice A55 ((dQ ax ⟨ck, ⟨cx, cy, cw, ch⟩, ay, l⟩ aC).f3.length) aiv], .int .i64 cx, .int .i64 cy] (by rfl) rfl rfl (by (try simp only [List.map_toArray, List.map_cons, List.map_nil]); rfl) ?_
      refine (NG (dQ ax ⟨ck, ⟨cx, cy, cw, ch⟩, ay, l⟩ aC) cx cy HZ3.out (S.out.tree _ (.head _))).mono ?_
      rintro e gz ⟨A62, XQ, rfl, h1, hb⟩
      refine ⟨_, rfl, ?_⟩
      replace S := ae.mk (S.out.yx h1 hb)
      clear h1 hb
      refine hK.out _ _ S.out.free.bQ.bQ (fun hHeld => ?_)
      clear hK K
      refine dR 62 ?_
      refine lV 11 none (bA 13 4095) aj (fun K hK => ?_)
      refine lg 0 rfl 26 (.tmp 6) (.tmp 62) rfl #[.int .u8 ((bD (dQ ax ⟨ck, ⟨cx, cy, cw, ch⟩, ay, l⟩ aC) cx cy).f0), .int .i64 ((bD (dQ ax ⟨ck, ⟨cx, cy, cw, ch⟩, ay, l⟩ aC) cx cy).f1.f0), .int .i64 ((bD (dQ ax ⟨ck, ⟨cx, cy, cw, ch⟩, ay, l⟩ aC) cx cy).f1.f1), .int .i64 ((bD (dQ ax ⟨ck, ⟨cx, cy, cw, ch⟩, ay, l⟩ aC) cx cy).f1.f2), .int .i64 ((bD (dQ ax ⟨ck, ⟨cx, cy, cw, ch⟩, ay, l⟩ aC) cx cy).f1.f3), .int .i64 ((bD (dQ ax ⟨ck, ⟨cx, cy, cw, ch⟩, ay, l⟩ aC) cx cy).f2), .slice A62 ((bD (dQ ax ⟨ck, ⟨cx, cy, cw, ch⟩, ay, l⟩ aC) cx cy).f3.length) XQ] (j := 0) (u := .agg #[.int .u8 ((bD (dQ ax ⟨ck, ⟨cx, cy, cw, ch⟩, ay, l⟩ aC) cx cy).f0), .int .i64 ((bD (dQ ax ⟨ck, ⟨cx, cy, cw, ch⟩, ay, l⟩ aC) cx cy).f1.f0), .int .i64 ((bD (dQ ax ⟨ck, ⟨cx, cy, cw, ch⟩, ay, l⟩ aC) cx cy).f1.f1), .int .i64 ((bD (dQ ax ⟨ck, ⟨cx, cy, cw, ch⟩, ay, l⟩ aC) cx cy).f1.f2), .int .i64 ((bD (dQ ax ⟨ck, ⟨cx, cy, cw, ch⟩, ay, l⟩ aC) cx cy).f1.f3), .int .i64 ((bD (dQ ax ⟨ck, ⟨cx, cy, cw, ch⟩, ay, l⟩ aC) cx cy).f2), .slice A62 ((bD (dQ ax ⟨ck, ⟨cx, cy, cw, ch⟩, ay, l⟩ aC) cx cy).f3.length) XQ]) (bK := [.int .u8 ((bD (dQ ax ⟨ck, ⟨cx, cy, cw, ch⟩, ay, l⟩ aC) cx cy).f0), .int .i64 ((bD (dQ ax ⟨ck, ⟨cx, cy, cw, ch⟩, ay, l⟩ aC) cx cy).f1.f0), .int .i64 ((bD (dQ ax ⟨ck, ⟨cx, cy, cw, ch⟩, ay, l⟩ aC) cx cy).f1.f1), .int .i64 ((bD (dQ ax ⟨ck, ⟨cx, cy, cw, ch⟩, ay, l⟩ aC) cx cy).f1.f2), .int .i64 ((bD (dQ ax ⟨ck, ⟨cx, cy, cw, ch⟩, ay, l⟩ aC) cx cy).f1.f3), .int .i64 ((bD (dQ ax ⟨ck, ⟨cx, cy, cw, ch⟩, ay, l⟩ aC) cx cy).f2), .slice A62 ((bD (dQ ax ⟨ck, ⟨cx, cy, cw, ch⟩, ay, l⟩ aC) cx cy).f3.length) XQ]) S.out (by rfl) rfl rfl rfl rfl (by kernel_rfl) (by simp [Value.oneCell']) (by simp) rfl ?_
      intro kG S1
      simp only [List.set_cons_zero, List.set_cons_succ] at S1
      replace S := ae.mk S1
      clear S1
      refine hK.out _ _ ?_
      clear hK K
      refine ak 12 7 (bA 13 8191) aj ?_
      refine jf (fJ aj.out (by kernel_rfl)) ?_
      clear hHeld
      go_wp2
      refine bodyPost_ret (eH rfl _ _ b6 26 _ (0, 0) _ rfl (S.out.blk _ (.head _) _ rfl) Try.underlying26 rfl (by kernel_rfl)) rfl ?_
      rw [show aN ax ⟨ck, ⟨cx, cy, cw, ch⟩, ay, l⟩ aC = 0 by unfold aN; rw [if_neg (by rw [HB.out]; simp), if_neg (by rw [HO.out]; simp)], show aZ ax ⟨ck, ⟨cx, cy, cw, ch⟩, ay, l⟩ aC = bD (dQ ax ⟨ck, ⟨cx, cy, cw, ch⟩, ay, l⟩ aC) cx cy by unfold aZ; rw [if_neg (by rw [HB.out]; simp), if_neg (by rw [HO.out]; simp)]]
      exact ⟨_, _, rfl, S.out.oV, S.out.below⟩
  ·have h1b : (ax != 1) = true := bne_iff_ne.mpr (fun h => hax (.inl h))
   have h2b : (ax != 2) = true := bne_iff_ne.mpr (fun h => hax (.inr h))
   have HB := ae.mk (show rq ax ⟨ck, ⟨cx, cy, cw, ch⟩, ay, l⟩ = true by unfold rq; rw [ht, h1b, h2b]; rfl)
   clear hax
   go_enter Try.func183, Try.ntmps183
   go_wp2_with (first | (refine boxS 3 _ 26 S ?_; clear S; intro b3 di S) | (refine boxS 6 _ 26 S ?_; clear S; intro b6 dS S; obtain ⟨bf, bg, bu, bz, bM, bU, bC⟩ := St.dD S aY) | ((with_reducible refine aG (N := 10) rfl ?_); refine vG (N := 10) rfl rfl ⟨ck, ⟨cx, cy, cw, ch⟩, ay, l⟩ S.out (S.out.tree _ (.head _)) ?hr ?_; (case hr => (go_simp; rfl)); intro Xq XW gq S1 h1 h2; replace S := ae.mk S1; have uy := ae.mk h1; have xR := ae.mk h2; clear S1 h1 h2; clear bf bg bu bz bM bU bC) | (refine bG (some 11) Try.func148 S (vM ⟨ck, ⟨cx, cy, cw, ch⟩, ay, l⟩ HZ.out xR.out uy.out) ?_; clear S; intro gz S) | (refine gy 26 6 21 #[.int .u8 0, .int .i64 0, .int .i64 0, .int .i64 0, .int .i64 0, .int .i64 0, .slice none 0 0] 0 7 S ?_; clear S; intro kG S))
   refine bodyPost_ret (eH rfl _ _ b6 26 _ (0, 0) _ rfl (S.out.blk _ (.head _) _ rfl) Try.underlying26 rfl (by kernel_rfl)) rfl ?_
   rw [show aN ax ⟨ck, ⟨cx, cy, cw, ch⟩, ay, l⟩ aC = 1 by unfold aN; rw [if_pos HB.out], show aZ ax ⟨ck, ⟨cx, cy, cw, ch⟩, ay, l⟩ aC = z26 by unfold aZ; rw [if_pos HB.out]]
   exact ⟨_, _, rfl, Kd.oO _ _ _ _ _, S.out.below⟩
end Go.Proofs.Ytfdmfgaiblfbhaa.P
namespace Go.Proofs.Ytfdmfgaiblfbhaa.P
open Go.RowKit Go.Proofs.ag.aV Go.Proofs.ag.bP Go.Proofs.ag.cO
attribute [local go_sem] kJ kS lM l7 lI lJ mJ mO
def F_.f (k : Nat) (a0 : Int) (a1 : Int) : Option (List Int × Bool) := if a1 < 1 then (some (([] : List Int), false)) else (if a1 > 20000 then (some (([] : List Int), false)) else (if a0 < (wrap64 ((wrap64 (2 * a1)) - 1)) then (some (([] : List Int), false)) else (if a0 > 2147483647 then (some (([] : List Int), false)) else (if 0 ≤ a1 then (if (a1 : Int).toNat ≤ 35184372088832 then ((bJ.f k (wrap64 ((wrap64 (a0 - a1)) + 1)) (List.replicate (a1 : Int).toNat 0)).bind fun agT => (some (agT.1, true))) else (none)) else (none)))))
def Z4.f (k : Nat)  : Option (Bool) := (F_.f k 80 3).bind fun Zu => ((F_.f k 8 3).bind fun Zv => (if Zu.2 = true then (if Zv.2 = true then ((nR.f k Zu.1 (([26, 26, 26] : List Int))).bind fun ai1 => (if ai1 = true then ((nR.f k Zv.1 (([2, 2, 2] : List Int))).bind fun ai2 => (some ai2)) else (some false))) else (some false)) else (some false)))
mutual
def kM.j0 : Nat → Int → Int → List Int → Bool → Option (List Int × Bool)
 | 0, _, _, _, _ => none
 | k + 1, x0, x1, x6, x27 => if x27 = true then (some (x6, false)) else (if x1 = 0 then (none) else (kM.l0 k x1 x6 (wrap64 (Int.tdiv (wrap64 (x0 - (wrap64 (x1 - 1)))) x1)) (Int.tmod (wrap64 (x0 - (wrap64 (x1 - 1)))) x1) 0))
def kM.l0 : Nat → Int → List Int → Int → Int → Int → Option (List Int × Bool)
 | 0, _, _, _, _, _ => none
 | k + 1, x1, x6, x7, x8, x9 => if x9 < x1 then (if x9 < x8 then (if x6.length < 17592186044416 then (kM.l0 k x1 (x6 ++ [wrap64 (x7 + 1)]) x7 x8 (wrap64 (x9 + 1))) else (none)) else (if x6.length < 17592186044416 then (kM.l0 k x1 (x6 ++ [x7]) x7 x8 (wrap64 (x9 + 1))) else (none))) else (some (x6, true))
end
def kM.f (k : Nat) (a0 : Int) (a1 : Int) : Option (List Int × Bool) := (some (([] : List Int) : List Int)).bind fun Un => (if a1 < 1 then (kM.j0 k a0 a1 Un true) else (if a1 > 20000 then (kM.j0 k a0 a1 Un true) else (if a0 < (wrap64 ((wrap64 (2 * a1)) - 1)) then (kM.j0 k a0 a1 Un true) else (kM.j0 k a0 a1 Un (decide (a0 > 2147483647))))))
end Go.Proofs.Ytfdmfgaiblfbhaa.P
namespace Go.Proofs.Ytfdmfgaiblfbhaa.Pure
open Go.RowKit Go.Proofs.Ytfdmfgaiblfbhaa.P Go.Proofs.ag.aV Go.Proofs.ag.bP Go.Proofs.ag.cO
end Go.Proofs.Ytfdmfgaiblfbhaa.Pure
namespace Go.Proofs.Ytfdmfgaiblfbhaa.P
open Go.RowKit Go.Proofs.ag.aV Go.Proofs.ag.bP Go.Proofs.ag.cO
theorem Qp : ∀ (N : Nat), (∀ c : ai, sz c ≤ N → ∀ x y, sz (bD c x y) = sz c) ∧ (∀ l : List ai, dU l ≤ N → ∀ a x y, dU (jZ a l x y) = dU l) := by
 intro N
 induction N with
 | zero => exact ⟨fun c h => by rw [bV] at h; omega, fun l h a x y => by cases l with
  | nil => rw [mZ]
  | cons k ks => rw [df] at h; have := bV k; omega⟩
 | succ N ih =>
  have hC : ∀ c : ai, sz c ≤ N + 1 → ∀ x y, sz (bD c x y) = sz c := fun c h x y => by
   rw [l9, bV, bV c]
   show 1 + dU (jZ c.f0 c.f3 x y) = _
   rw [ih.2 c.f3 (by rw [bV] at h; omega)]
  refine ⟨hC, fun l => ?_⟩
  induction l with
  | nil => intro _ a x y; rw [mZ]
  | cons k ks ihl =>
   intro h a x y
   rw [o8, df, df]
   rw [df] at h
   rw [hC k (by omega), ihl (by omega)]
section
variable {W : World} {b : Nat} {P : Nat → Prop} {A : Option Addr} {cc : Nat}
end
theorem yY {W W1 : World} {Q : Nat → Value → Prop} {ad : Nat → Addr} (h : ∀ (j : Nat) (u : Value), Q j u → W.cell? (ad j) = some u) (hb : Below W.heap.size W W1) : ∀ (j : Nat) (u : Value), Q j u → W1.cell? (ad j) = some u :=
 fun j u hq => (hb.cell (World.block_lt_of_cell? W _ (h j u hq))).trans (h j u hq)
def zS.T0 : Bool × List (List Nat × List Nat) := (true, [([], []), ([0], [0]), ([1], [1]), ([2], [2]), ([3], [3]), ([], []), ([], []), ([6], [6]), ([7], [7]), ([8], [8]), ([9], [9]), ([], []), ([10, 11], [10, 11]), ([12], [12]), ([13], [13]), ([], []), ([15], [15]), ([16], [16]), ([17], [17]), ([], []), ([14, 18, 19, 14], [14, 18, 19]), ([20], [20]), ([21], [21]), ([21], [21]), ([4, 5, 0, 1, 2, 3, 4, 5, 6, 7, 8, 9, 10, 11, 12, 13, 14, 15, 16, 17, 18, 19, 20, 21, 22], [4, 5]), ([24, 22, 20, 0, 1, 2, 3, 4, 5, 6, 7, 8, 9, 10, 11, 12, 13, 14, 15, 16, 17, 18, 19, 20, 21, 22], [22, 24])])
def zS.B0 : List Nat := [0, 1, 3, 7, 15, 0, 0, 64, 192, 448, 960, 0, 4032, 8128, 16320, 0, 32768, 98304, 229376, 0, 1048512, 2097088, 4194240, 4194240, 8388607, 25165823]
theorem zS.ai5 : iM .any (opsOf Try.f186 0) = zS.T0 := by kernel_rfl
theorem zS.agR : gZ zS.T0.2 zS.B0 = true := by kernel_rfl
theorem zx {w W : World} {P : Nat → Prop} {bs : List (Option Nat × Obj)} {ts : List (Value × List ai)} {ro : List (Addr × Value)} {g gr cap : Nat} {fk fx fy fw fh CP ax : Int} {VP : Value} {q : Nat} {L : List ai} (i : Nat) (n : Int) (hi : i < L.length) (hz : dU L ≤ 1000000)
  (S0 : St w P ((some g, .cells #[.int .u8 fk, .int .i64 fx, .int .i64 fy, .int .i64 fw, .int .i64 fh, .int .i64 CP, .slice (some ⟨gr, 0, none⟩) L.length cap, VP, .int .i64 (q : Int), .int .u8 ax] 147 (0, 0)) :: bs) [(.slice (some ⟨gr, 0, none⟩) L.length cap, L)] (ts) (ro) W) :
  Calls Try.prog 186 #[.pointer (some ⟨g, 0, none⟩), .int .i64 (i : Int), .int .i64 n] W fun e w' => e = .returned (.tuple #[]) ∧ St w P ((some g, .cells #[.int .u8 fk, .int .i64 fx, .int .i64 fy, .int .i64 fw, .int .i64 fh, .int .i64 CP, .slice (some ⟨gr, 0, none⟩) L.length cap, VP, .int .i64 (q : Int), .int .u8 ax] 147 (0, 0)) :: bs) [(.slice (some ⟨gr, 0, none⟩) L.length cap, (cZ ax i n L))] (ts) (ro) w' := by
 have S := ae.mk S0
 clear S0
 have hi1 : (i : Int) < (L.length : Int) := by omega
 have HI1 := ae.mk hi1
 obtain ⟨ua, uc, S1, hcell⟩ := S.out.Gy (i : Int) (Int.natCast_nonneg _) hi1
 rw [Ju] at S1 hcell
 simp only [Int.toNat_natCast] at hcell
 have ik := ae.mk (show sz (kd L i) ≤ 1000000 by have := tC (jP hi); omega)
 have Ez := ae.mk (show sz (bD (kd L i) 0 0) ≤ 1048576 by rw [(Qp (sz (kd L i))).1 _ (Nat.le_refl _)]; have := ik.out; omega)
 unfold cZ
 generalize kd L i = k at S1 hcell ik Ez ⊢
 replace S := ae.mk S1
 have GZ := ae.mk hcell
 clear S1 hcell hz hi
 go_enter Try.func186, Try.ntmps186
 go_wp2
 refine gX (n := 26) (S := fun w' => St w _ _ _ _ _ w' ∧ ∀ (j : Nat) (u : Value), (lN k ua uc)[j]? = some u → w'.cell? ⟨gr, i * 7 + j, none⟩ = some u) (ds := [25]) (bA 26 0) (by kernel_rfl) rfl rfl ⟨S.out.call (a_ (Below.refl _ _)), yY GZ.out (a_ (Below.refl _ _))⟩ (fun hHeld => ?_); refine dZ zS.ai5 zS.agR (fun aj dE => ?_)
 replace S := ae.mk (S.out.call (a_ (Below.refl _ _)))
 replace GZ := ae.mk (yY GZ.out (a_ (Below.refl _ _)))
 generalize W.drew = EK at S GZ hHeld ⊢
 refine ak 0 7 (bA 26 1) aj ?_
 refine ak 1 8 (bA 26 3) aj ?_
 refine ak 2 9 (bA 26 7) aj ?_
 refine ak 3 10 (bA 26 15) aj ?_
 refine b_ 4 11 (bA 26 31) aj dE hHeld ?_ (hv := by intro w' hs_; have aiz := (hs_.1.at (.head _) 6).trans rfl; go_simp; with_reducible rfl)
 refine ak 5 12 (bA 26 63) aj ?_
 refine ak 6 13 (bA 26 127) aj ?_
 refine ak 7 14 (bA 26 255) aj ?_
 refine ak 8 15 (bA 26 511) aj ?_
 refine ak 9 16 (bA 26 1023) aj ?_
 refine b_ 10 17 (bA 26 2047) aj dE hHeld ?_ (hv := by intro w' hs_; have aiz := (hs_.1.at (.head _) 6).trans rfl; go_simp; with_reducible rfl)
 refine ak 11 18 (bA 26 4095) aj ?_
 refine ak 12 19 (bA 26 8191) aj ?_
 refine b_ 13 20 (bA 26 16383) aj dE hHeld ?_ (hv := by intro w' hs_; have xe0 := (show w'.cell? ⟨gr, i * 7, none⟩ = some (.int .u8 k.f0) from hs_.2 0 _ rfl); have xe1 := (show w'.cell? ⟨gr, i * 7 + 1, none⟩ = some (.int .i64 k.f1.f0) from hs_.2 1 _ rfl); have xe2 := (show w'.cell? ⟨gr, i * 7 + 2, none⟩ = some (.int .i64 k.f1.f1) from hs_.2 2 _ rfl); have xe3 := (show w'.cell? ⟨gr, i * 7 + 3, none⟩ = some (.int .i64 k.f1.f2) from hs_.2 3 _ rfl); have xe4 := (show w'.cell? ⟨gr, i * 7 + 4, none⟩ = some (.int .i64 k.f1.f3) from hs_.2 4 _ rfl); have xe5 := (show w'.cell? ⟨gr, i * 7 + 5, none⟩ = some (.int .i64 k.f2) from hs_.2 5 _ rfl); have xe6 := (show w'.cell? ⟨gr, i * 7 + 6, none⟩ = some (.slice ua k.f3.length uc) from hs_.2 6 _ rfl); go_simp; with_reducible rfl)
 refine ak 15 22 (bA 26 49151) aj ?_
 refine ak 16 23 (bA 26 114687) aj ?_
 refine ak 17 24 (bA 26 245759) aj ?_
 refine b_ 18 25 (bA 26 507903) aj dE hHeld ?_ (hv := by intro w' hs_; have amj := (hs_.1.at (.head _) 9).trans rfl; go_simp; with_reducible rfl)
 refine ak 19 26 (bA 26 1032191) aj ?_
 refine iL 14 (some 21) (bA 26 1048575) aj (fun K hK => ?_)
 refine wY Try.func66 #[.agg #[.int .u8 k.f0, .int .i64 k.f1.f0, .int .i64 k.f1.f1, .int .i64 k.f1.f2, .int .i64 k.f1.f3, .int .i64 k.f2, .slice ua k.f3.length uc], .int .i64 0, .int .i64 0] ?_
 refine (NG k 0 0 ik.out (S.out.tree _ (.head _))).mono ?_
 rintro e dS ⟨A1, c1, rfl, h1, hb⟩
 refine ⟨_, rfl, ?_⟩
 replace GZ := ae.mk (yY GZ.out hb)
 replace S := ae.mk (S.out.res (Kd.oD (base' := 0) h1) hb)
 clear h1 hb
 refine hK.out _ _ ⟨S.out.bQ, GZ.out⟩ (fun hHeld => ?_)
 clear hK K
 refine dR 21 ?_
 refine iL 20 (some 27) (bA 26 2097151) aj (fun K hK => ?_)
 refine wY Try.func183 #[.agg #[.int .u8 ((bD k 0 0).f0), .int .i64 ((bD k 0 0).f1.f0), .int .i64 ((bD k 0 0).f1.f1), .int .i64 ((bD k 0 0).f1.f2), .int .i64 ((bD k 0 0).f1.f3), .int .i64 ((bD k 0 0).f2), .slice A1 ((bD k 0 0).f3.length) c1], .int .u8 ax, .int .i64 n] ?_
 refine (UZ ax (bD k 0 0) Ez.out n _ _ _ _ (eY (S.out.tree _ (.head _)))).mono ?_
 rintro e gq ⟨A2, c2, rfl, h1, hb⟩
 refine ⟨_, rfl, ?_⟩
 replace GZ := ae.mk (yY GZ.out hb)
 replace S := ae.mk (S.out.res (Kd.oD (base' := 0) h1) hb)
 clear h1 hb
 refine hK.out _ _ ⟨S.out.bQ.bQ, GZ.out⟩ (fun hHeld => ?_)
 clear hK K
 refine dR 27 ?_
 refine ak 21 6 (bA 26 4194303) aj ?_
 refine ak 22 28 (bA 26 8388607) aj ?_
 refine ak 23 29 (bA 26 16777215) aj ?_
 refine ak 24 30 (bA 26 33554431) aj ?_
 refine lV 25 none (bA 26 67108863) aj (fun K hK => ?_)
 refine Ld (i : Int) (yJ ax n k) (.tmp 30) (.tmp 28) rfl S.out (by rfl) rfl (Int.natCast_nonneg _) HI1.out (by first | rfl | (go_simp; rfl)) rfl (by kernel_rfl) (.head _) ?_
 intro gz S1
 rw [Int.toNat_natCast] at S1
 replace S := ae.mk S1
 clear S1
 refine hK.out _ _ ?_
 clear hK K
 refine jf (fJ aj.out (by kernel_rfl)) ?_
 clear hHeld
 go_wp2
 (try simp only [Exit.inBlock, Exit.then])
 refine bodyPost_end (results_none rfl _ _ _) rfl ?_
 exact ⟨rfl, S.out.bQ.bQ.bQ⟩
end Go.Proofs.Ytfdmfgaiblfbhaa.P
namespace Go.Proofs.Ytfdmfgaiblfbhaa.P
open Go.RowKit Go.Proofs.ag.aV Go.Proofs.ag.bP Go.Proofs.ag.cO
attribute [local go_sem] kJ lM kS l7
def nX (b : Int) : Int := if 0 < b then b else if b < -2147483647 then 2147483647 else -b
theorem GH {ax : Int} {q : Nat} {m : Bool} {L : List ai} {i : Nat} {args : Array Value} {W : World} (h : jY ax q m L = some i) (hc : Calls Try.prog 185 args W fun e w' => e = .returned (.int .i64 (KU (jY ax q m L))) ∧ Below W.heap.size W w') : Calls Try.prog 185 args W fun e w' => e = .returned (.int .i64 (i : Int)) ∧ Below W.heap.size W w' := by
 rw [h] at hc
 exact hc
theorem Q4 {ax : Int} {q : Nat} {m : Bool} {L : List ai} {args : Array Value} {W : World} (h : jY ax q m L = none) (hc : Calls Try.prog 185 args W fun e w' => e = .returned (.int .i64 (KU (jY ax q m L))) ∧ Below W.heap.size W w') : Calls Try.prog 185 args W fun e w' => e = .returned (.int .i64 (-1)) ∧ Below W.heap.size W w' := by
 rw [h] at hc
 exact hc
theorem aco {w W : World} {P : Nat → Prop} {bs : List (Option Nat × Obj)} {ts : List (Value × List ai)} {ro : List (Addr × Value)} {g gr cap : Nat} {fk fx fy fw fh CP ax s : Int} {VP : Value} {q : Nat} {L : List ai} (aC : Int) (hax : ax = 1 ∨ ax = 2) (hg : rZ ax s L) (hq : q + 1 < L.length) (hz : dU L ≤ 1000000) (hb : -9223372036854775808 ≤ aC ∧ aC ≤ 9223372036854775807)
  (S0 : St w P ((some g, .cells #[.int .u8 fk, .int .i64 fx, .int .i64 fy, .int .i64 fw, .int .i64 fh, .int .i64 CP, .slice (some ⟨gr, 0, none⟩) L.length cap, VP, .int .i64 (q : Int), .int .u8 ax] 147 (0, 0)) :: bs) [(.slice (some ⟨gr, 0, none⟩) L.length cap, L)] (ts) (ro) W) :
  Calls Try.prog 158 #[.pointer (some ⟨g, 0, none⟩), .int .i64 aC] W fun e w' => e = .returned (.int .i64 (if decide (0 < aC) = true then (gW ax q (decide (0 < aC)) (nX aC) 10001 L 0).2 else -(gW ax q (decide (0 < aC)) (nX aC) 10001 L 0).2)) ∧ St w P ((some g, .cells #[.int .u8 fk, .int .i64 fx, .int .i64 fy, .int .i64 fw, .int .i64 fh, .int .i64 CP, .slice (some ⟨gr, 0, none⟩) (((gW ax q (decide (0 < aC)) (nX aC) 10001 L 0).1).length) cap, VP, .int .i64 (q : Int), .int .u8 ax] 147 (0, 0)) :: bs) [(.slice (some ⟨gr, 0, none⟩) (((gW ax q (decide (0 < aC)) (nX aC) 10001 L 0).1).length) cap, (gW ax q (decide (0 < aC)) (nX aC) 10001 L 0).1)] (ts) (ro) w' := by
 have S := ae.mk S0
 have jh := ae.mk hax
 have UE := ae.mk (show L.length ≤ 1000000 by have := ig L; omega)
 have EH : 0 ≤ aH ax (kd L (place q (decide (0 < aC)))) := by
  have hp : place q (decide (0 < aC)) < L.length := by unfold place; split <;> omega
  have := Pure.jA hax (hg.kN _ (jP hp))
  omega
 have EN := ae.mk EH
 have HI0 := ae.mk (su.start hg (p := place q (decide (0 < aC))) (by unfold place; split <;> omega))
 have HQQ := ae.mk hq
 have HZZ := ae.mk hz
 have zk := ae.mk hb
 have Jc := ae.mk (show wrap64 ((q : Int) + 1) = ((q + 1 : Nat) : Int) by have := UE.out; unfold wrap64; omega)
 clear S0 EH hax hg hq hz hb
 by_cases hp : 0 < aC
 case pos =>
  rw [decide_eq_true hp] at HI0 EN ⊢
  obtain ⟨R, hR⟩ : ∃ R, R = gW ax q true (nX aC) 10001 L 0 := ⟨_, rfl⟩
  rw [← hR]
  obtain ⟨LF, E_⟩ : ∃ l, l = nX aC := ⟨_, rfl⟩
  rw [← E_] at hR
  have HI0 := ae.mk (show su ax s q (dU L) L L 0 from HI0.out)
  have EN := ae.mk (show 0 ≤ aH ax (kd L q) from EN.out)
  have HR := ae.mk hR.symm
  have Bq := ae.mk (show q = place q true from rfl)
  have Bj := ae.mk (show LF = aC by rw [E_]; unfold nX; rw [if_pos hp])
  have L_ := ae.mk hp
  obtain ⟨hba, hbb⟩ := nz (a := 0) (b := aC) (by omega)
  simp only [if_true]
  clear hp hR E_
  go_enter Try.func158, Try.ntmps158
  have XT := (S.out.at (.head _) 8).trans rfl
  go_wp2
  clear XT
  go_loopg [7, 8] 10001 (fun gg v7 v8 wr => ∃ (K : List ai) (d : Int) (f : Nat), v7 = .int .i64 (LF - d) ∧ v8 = .int .i64 d ∧ ae (gW ax q true LF f K d = R) ∧ ae (su ax s q (dU L) L K d) ∧ ae (10001 ≤ (f : Int) + d) ∧ f ≤ gg ∧ ae (St w P ((some g, .cells #[.int .u8 fk, .int .i64 fx, .int .i64 fy, .int .i64 fw, .int .i64 fh, .int .i64 CP, .slice (some ⟨gr, 0, none⟩) K.length cap, VP, .int .i64 (q : Int), .int .u8 ax] 147 (0, 0)) :: bs) [(.slice (some ⟨gr, 0, none⟩) K.length cap, K)] (ts) (ro) wr))
  case atStart => exact ⟨L, 0, 10001, (by rw [Bj.out, Int.sub_zero]), rfl, HR, HI0, ⟨by omega⟩, Nat.le_refl _, S⟩
  case round =>
   clear S HR HI0
   obtain ⟨K, d, f, rfl, rfl, HR, HI, HF, hgg, S⟩ := hrel
   have HD := ae.mk (HI.out.small jh.out EN.out)
   have HD0 := ae.mk HI.out.d0
   have v_ := ae.mk (show q + 1 < K.length by rw [HI.out.len]; exact HQQ.out)
   have G6 := ae.mk (show K.length ≤ 1000000 by rw [HI.out.len]; exact UE.out)
   have ik := ae.mk (show dU K ≤ 1000000 by rw [HI.out.z]; exact HZZ.out)
   by_cases hl : LF ≤ d
   case pos =>
    have HRR := ae.mk ((t_ hl).symm.trans HR.out).symm
    obtain ⟨hxa, hxb⟩ := lY (a := 0) (b := LF - d) (by omega)
    have hx2 : ¬ (d < LF) := by omega
    have hx3 : decide (d < LF) = false := decide_eq_false hx2
    clear hl hgg
    go_wp2
    have hrr := HRR.out
    subst hrr
    go_ret
    exact ⟨rfl, S.out⟩
   case neg =>
    have sV := ae.mk (show d < LF by omega)
    have nH := ae.mk hl
    obtain ⟨hxa, hxb⟩ := nz (a := 0) (b := LF - d) (by omega)
    have hx2 : d < LF := sV.out
    have hx3 : decide (d < LF) = true := decide_eq_true hx2
    clear hl
    cases hgv : jY ax q true K with
    | none =>
     have HG := ae.mk hgv
     have HRR := ae.mk ((wR hgv).symm.trans HR.out).symm
     clear hgv hgg
     have h34 : decide ((-1 : Int) < 0) = true := rfl
     go_wp2_with ((refine bG (some 32) Try.func185 S (Q4 HG.out (yM true v_.out G6.out ik.out (S.out.blk _ (.head _) _ rfl) (Kd.oD (base' := 0) (S.out.own _ (.head _))))) ?_; clear S; intro di S))
     have hrr := HRR.out
     subst hrr
     go_ret
     exact ⟨rfl, S.out⟩
    | some i =>
     have hs := yl hgv v_.out
     have HG := ae.mk hgv
     have g_ := ae.mk hs.1
     have uz := ae.mk (show i ≠ q by rw [Bq.out]; exact hs.2.1)
     have xU := ae.mk hs.2.2
     have hg2 := Pure.jA jh.out (HI.out.good.kN _ (jP hs.1))
     have qW := ae.mk (show (aH ax (kd K i)) ≤ 10000 by omega)
     have fM := ae.mk hgg
     have hf : f ≠ 0 := by have := HF.out; have := HD.out; omega
     obtain ⟨f', rfl⟩ : ∃ f', f = f' + 1 := ⟨f - 1, by omega⟩
     have hstep := (tZ nH.out hgv).symm.trans HR.out
     rw [show place q true = q from Bq.out.symm] at hstep
     have HST := ae.mk hstep
     have h34 : decide ((i : Int) < 0) = false := decide_eq_false (by omega)
     have aiO : ¬ ((i : Int) < 0) := by omega
     clear hs hgv hgg hg2 hf hstep
     by_cases hmn : (aH ax (kd K i)) < LF - d
     case pos =>
      have hmv : mn (LF - d) (aH ax (kd K i)) = (aH ax (kd K i)) := by unfold mn; rw [if_pos hmn]
      have r_ := ae.mk (show gW ax q true LF f' (cZ ax q (aH ax (kd K i)) (cZ ax i (-(aH ax (kd K i))) K)) (d + (aH ax (kd K i))) = R by have h := HST.out; rw [hmv] at h; exact h)
      have jE := ae.mk (show 0 < (aH ax (kd K i)) by have := xU.out; have := sV.out; omega)
      have nY := ae.mk (show (aH ax (kd K i)) ≤ (aH ax (kd K i)) by omega)
      have xX := ae.mk (HI.out.step jh.out g_.out uz.out (Int.le_of_lt jE.out) nY.out)
      have xh := ae.mk (show q < (cZ ax i (-(aH ax (kd K i))) K).length by rw [show (cZ ax i (-(aH ax (kd K i))) K).length = K.length from List.length_set]; exact HI.out.FY)
      have xg := ae.mk (show dU (cZ ax i (-(aH ax (kd K i))) K) ≤ 1000000 by rw [(HI.out.good.move jh.out g_.out (n := -(aH ax (kd K i))) (by have := nY.out; omega) (by have := HI.out.good.small; have := jE.out; omega)).2.2.2.2.1]; exact ik.out)
      have hneg : wrap64 (-(aH ax (kd K i))) = -(aH ax (kd K i)) := by have := qW.out; have := nY.out; have := jE.out; unfold wrap64; omega
      have hw7 : wrap64 (LF - d - (aH ax (kd K i))) = LF - (d + (aH ax (kd K i))) := by have h1 := Bj.out; have h2 := zk.out; have := nY.out; have := jE.out; have := HD.out; have := HD0.out; have := sV.out; unfold wrap64; omega
      have hw8 : wrap64 (d + (aH ax (kd K i))) = d + (aH ax (kd K i)) := by have := qW.out; have := nY.out; have := jE.out; have := HD.out; have := HD0.out; unfold wrap64; omega
      have UJ := ae.mk hw7
      have N_ := ae.mk hw8
      have hm1 : (aH ax (kd K i)) < LF - d := hmn
      clear hmv hmn hw7 hw8
      go_wp2_with (first | (refine bG (some 32) Try.func185 S (GH HG.out (yM true v_.out G6.out ik.out (S.out.blk _ (.head _) _ rfl) (Kd.oD (base' := 0) (S.out.own _ (.head _))))) ?_; clear S; intro di S) | (refine bG (some 38) Try.func164 S (oL i g_.out ik.out (S.out.blk _ (.head _) _ rfl) (Kd.oD (base' := 0) (S.out.own _ (.head _)))) ?_; clear S; intro dS S) | (refine iT (some 44) Try.func186 (zx i (wrap64 (-(aH ax (kd K i)))) g_.out ik.out S.out) ?_; rintro e gq ⟨rfl, h1⟩; refine ⟨_, rfl, ?_⟩; rw [hneg] at h1; replace S := ae.mk h1; clear h1; rw [show K.length = (cZ ax i (-(aH ax (kd K i))) K).length from (List.length_set).symm] at S) | (refine iT (some 48) Try.func186 (zx q (aH ax (kd K i)) xh.out xg.out S.out) ?_; rintro e gz ⟨rfl, h1⟩; refine ⟨_, rfl, ?_⟩; replace S := ae.mk h1; clear h1; rw [show (cZ ax i (-(aH ax (kd K i))) K).length = (cZ ax q (aH ax (kd K i)) (cZ ax i (-(aH ax (kd K i))) K)).length from (List.length_set).symm] at S))
      go_roundg f'
      case measure => exact Nat.lt_of_lt_of_le (Nat.lt_succ_self _) fM.out
      case rel => exact ⟨_, d + (aH ax (kd K i)), f', (by rw [UJ.out]), (by rw [N_.out]), r_, xX, ⟨by have := HF.out; have := jE.out; omega⟩, Nat.le_refl _, S⟩
     case neg =>
      have hmv : mn (LF - d) (aH ax (kd K i)) = (LF - d) := by unfold mn; rw [if_neg hmn]
      have r_ := ae.mk (show gW ax q true LF f' (cZ ax q (LF - d) (cZ ax i (-(LF - d)) K)) (d + (LF - d)) = R by have h := HST.out; rw [hmv] at h; exact h)
      have jE := ae.mk (show 0 < (LF - d) by have := xU.out; have := sV.out; omega)
      have nY := ae.mk (show (LF - d) ≤ (aH ax (kd K i)) by omega)
      have xX := ae.mk (HI.out.step jh.out g_.out uz.out (Int.le_of_lt jE.out) nY.out)
      have xh := ae.mk (show q < (cZ ax i (-(LF - d)) K).length by rw [show (cZ ax i (-(LF - d)) K).length = K.length from List.length_set]; exact HI.out.FY)
      have xg := ae.mk (show dU (cZ ax i (-(LF - d)) K) ≤ 1000000 by rw [(HI.out.good.move jh.out g_.out (n := -(LF - d)) (by have := nY.out; omega) (by have := HI.out.good.small; have := jE.out; omega)).2.2.2.2.1]; exact ik.out)
      have hneg : wrap64 (-(LF - d)) = -(LF - d) := by have := qW.out; have := nY.out; have := jE.out; unfold wrap64; omega
      have hw7 : wrap64 (LF - d - (LF - d)) = LF - (d + (LF - d)) := by have h1 := Bj.out; have h2 := zk.out; have := nY.out; have := jE.out; have := HD.out; have := HD0.out; have := sV.out; unfold wrap64; omega
      have hw8 : wrap64 (d + (LF - d)) = d + (LF - d) := by have := qW.out; have := nY.out; have := jE.out; have := HD.out; have := HD0.out; unfold wrap64; omega
      have UJ := ae.mk hw7
      have N_ := ae.mk hw8
      have hm1 : ¬ ((aH ax (kd K i)) < LF - d) := hmn
      clear hmv hmn hw7 hw8
      go_wp2_with (first | (refine bG (some 32) Try.func185 S (GH HG.out (yM true v_.out G6.out ik.out (S.out.blk _ (.head _) _ rfl) (Kd.oD (base' := 0) (S.out.own _ (.head _))))) ?_; clear S; intro di S) | (refine bG (some 38) Try.func164 S (oL i g_.out ik.out (S.out.blk _ (.head _) _ rfl) (Kd.oD (base' := 0) (S.out.own _ (.head _)))) ?_; clear S; intro dS S) | (refine iT (some 44) Try.func186 (zx i (wrap64 (-(LF - d))) g_.out ik.out S.out) ?_; rintro e gq ⟨rfl, h1⟩; refine ⟨_, rfl, ?_⟩; rw [hneg] at h1; replace S := ae.mk h1; clear h1; rw [show K.length = (cZ ax i (-(LF - d)) K).length from (List.length_set).symm] at S) | (refine iT (some 48) Try.func186 (zx q (LF - d) xh.out xg.out S.out) ?_; rintro e gz ⟨rfl, h1⟩; refine ⟨_, rfl, ?_⟩; replace S := ae.mk h1; clear h1; rw [show (cZ ax i (-(LF - d)) K).length = (cZ ax q (LF - d) (cZ ax i (-(LF - d)) K)).length from (List.length_set).symm] at S))
      go_roundg f'
      case measure => exact Nat.lt_of_lt_of_le (Nat.lt_succ_self _) fM.out
      case rel => exact ⟨_, d + (LF - d), f', (by (congr 1; omega)), (by rw [N_.out]), r_, xX, ⟨by have := HF.out; have := jE.out; omega⟩, Nat.le_refl _, S⟩
 case neg =>
  rw [decide_eq_false hp] at HI0 EN ⊢
  obtain ⟨R, hR⟩ : ∃ R, R = gW ax q false (nX aC) 10001 L 0 := ⟨_, rfl⟩
  rw [← hR]
  obtain ⟨LF, E_⟩ : ∃ l, l = nX aC := ⟨_, rfl⟩
  rw [← E_] at hR
  obtain ⟨pl, hpl⟩ : ∃ p, p = place q false := ⟨_, rfl⟩
  rw [← hpl] at HI0 EN
  have hq1 : wrap64 ((q : Int) + 1) = (pl : Int) := by rw [Jc.out, hpl]; rfl
  have HR := ae.mk hR.symm
  have Bq := ae.mk (show pl = place q false from hpl)
  have Bj := ae.mk (show LF = if aC < -2147483647 then 2147483647 else -aC by rw [E_]; unfold nX; rw [if_neg hp])
  have L_ := ae.mk hp
  obtain ⟨hba, hbb⟩ := lY (a := 0) (b := aC) (by omega)
  simp only [Bool.false_eq_true, if_false]
  clear hp hR E_ hpl
  go_enter Try.func158, Try.ntmps158
  have XT := (S.out.at (.head _) 8).trans rfl
  go_wp2
  clear XT
  all_goals
   go_loopg [7, 8] 10001 (fun gg v7 v8 wr => ∃ (K : List ai) (d : Int) (f : Nat), v7 = .int .i64 (LF - d) ∧ v8 = .int .i64 d ∧ ae (gW ax q false LF f K d = R) ∧ ae (su ax s pl (dU L) L K d) ∧ ae (10001 ≤ (f : Int) + d) ∧ f ≤ gg ∧ ae (St w P ((some g, .cells #[.int .u8 fk, .int .i64 fx, .int .i64 fy, .int .i64 fw, .int .i64 fh, .int .i64 CP, .slice (some ⟨gr, 0, none⟩) K.length cap, VP, .int .i64 (q : Int), .int .u8 ax] 147 (0, 0)) :: bs) [(.slice (some ⟨gr, 0, none⟩) K.length cap, K)] (ts) (ro) wr))
   case atStart => exact ⟨L, 0, 10001, (by have h1 := Bj.out; have h2 := zk.out; have h3 := L_.out; congr 1; rw [h1]; unfold wrap64; split <;> omega), rfl, HR, HI0, ⟨by omega⟩, Nat.le_refl _, S⟩
   case round =>
    clear S HR HI0
    obtain ⟨K, d, f, rfl, rfl, HR, HI, HF, hgg, S⟩ := hrel
    have HD := ae.mk (HI.out.small jh.out EN.out)
    have HD0 := ae.mk HI.out.d0
    have v_ := ae.mk (show q + 1 < K.length by rw [HI.out.len]; exact HQQ.out)
    have G6 := ae.mk (show K.length ≤ 1000000 by rw [HI.out.len]; exact UE.out)
    have ik := ae.mk (show dU K ≤ 1000000 by rw [HI.out.z]; exact HZZ.out)
    by_cases hl : LF ≤ d
    case pos =>
     have HRR := ae.mk ((t_ hl).symm.trans HR.out).symm
     obtain ⟨hxa, hxb⟩ := lY (a := 0) (b := LF - d) (by omega)
     have hx2 : ¬ (d < LF) := by omega
     have hx3 : decide (d < LF) = false := decide_eq_false hx2
     clear hl hgg
     go_wp2
     have hrr := HRR.out
     subst hrr
     go_ret
     rw [show wrap64 (-d) = -d by have := HD.out; have := HD0.out; unfold wrap64; omega]
     exact ⟨rfl, S.out⟩
    case neg =>
     have sV := ae.mk (show d < LF by omega)
     have nH := ae.mk hl
     obtain ⟨hxa, hxb⟩ := nz (a := 0) (b := LF - d) (by omega)
     have hx2 : d < LF := sV.out
     have hx3 : decide (d < LF) = true := decide_eq_true hx2
     clear hl
     cases hgv : jY ax q false K with
     | none =>
      have HG := ae.mk hgv
      have HRR := ae.mk ((wR hgv).symm.trans HR.out).symm
      clear hgv hgg
      have h34 : decide ((-1 : Int) < 0) = true := rfl
      go_wp2_with ((refine bG (some 32) Try.func185 S (Q4 HG.out (yM false v_.out G6.out ik.out (S.out.blk _ (.head _) _ rfl) (Kd.oD (base' := 0) (S.out.own _ (.head _))))) ?_; clear S; intro di S))
      have hrr := HRR.out
      subst hrr
      go_ret
      rw [show wrap64 (-d) = -d by have := HD.out; have := HD0.out; unfold wrap64; omega]
      exact ⟨rfl, S.out⟩
     | some i =>
      have hs := yl hgv v_.out
      have HG := ae.mk hgv
      have g_ := ae.mk hs.1
      have uz := ae.mk (show i ≠ pl by rw [Bq.out]; exact hs.2.1)
      have xU := ae.mk hs.2.2
      have hg2 := Pure.jA jh.out (HI.out.good.kN _ (jP hs.1))
      have qW := ae.mk (show (aH ax (kd K i)) ≤ 10000 by omega)
      have fM := ae.mk hgg
      have hf : f ≠ 0 := by have := HF.out; have := HD.out; omega
      obtain ⟨f', rfl⟩ : ∃ f', f = f' + 1 := ⟨f - 1, by omega⟩
      have hstep := (tZ nH.out hgv).symm.trans HR.out
      rw [show place q false = pl from Bq.out.symm] at hstep
      have HST := ae.mk hstep
      have h34 : decide ((i : Int) < 0) = false := decide_eq_false (by omega)
      have aiO : ¬ ((i : Int) < 0) := by omega
      clear hs hgv hgg hg2 hf hstep
      by_cases hmn : (aH ax (kd K i)) < LF - d
      case pos =>
       have hmv : mn (LF - d) (aH ax (kd K i)) = (aH ax (kd K i)) := by unfold mn; rw [if_pos hmn]
       have r_ := ae.mk (show gW ax q false LF f' (cZ ax pl (aH ax (kd K i)) (cZ ax i (-(aH ax (kd K i))) K)) (d + (aH ax (kd K i))) = R by have h := HST.out; rw [hmv] at h; exact h)
       have jE := ae.mk (show 0 < (aH ax (kd K i)) by have := xU.out; have := sV.out; omega)
       have nY := ae.mk (show (aH ax (kd K i)) ≤ (aH ax (kd K i)) by omega)
       have xX := ae.mk (HI.out.step jh.out g_.out uz.out (Int.le_of_lt jE.out) nY.out)
       have xh := ae.mk (show pl < (cZ ax i (-(aH ax (kd K i))) K).length by rw [show (cZ ax i (-(aH ax (kd K i))) K).length = K.length from List.length_set]; exact HI.out.FY)
       have xg := ae.mk (show dU (cZ ax i (-(aH ax (kd K i))) K) ≤ 1000000 by rw [(HI.out.good.move jh.out g_.out (n := -(aH ax (kd K i))) (by have := nY.out; omega) (by have := HI.out.good.small; have := jE.out; omega)).2.2.2.2.1]; exact ik.out)
       have hneg : wrap64 (-(aH ax (kd K i))) = -(aH ax (kd K i)) := by have := qW.out; have := nY.out; have := jE.out; unfold wrap64; omega
       have hw7 : wrap64 (LF - d - (aH ax (kd K i))) = LF - (d + (aH ax (kd K i))) := by have h1 := Bj.out; have h2 := zk.out; have := nY.out; have := jE.out; have := HD.out; have := HD0.out; have := sV.out; split at h1 <;> (unfold wrap64; omega)
       have hw8 : wrap64 (d + (aH ax (kd K i))) = d + (aH ax (kd K i)) := by have := qW.out; have := nY.out; have := jE.out; have := HD.out; have := HD0.out; unfold wrap64; omega
       have UJ := ae.mk hw7
       have N_ := ae.mk hw8
       have hm1 : (aH ax (kd K i)) < LF - d := hmn
       clear hmv hmn hw7 hw8
       go_wp2_with (first | (refine bG (some 32) Try.func185 S (GH HG.out (yM false v_.out G6.out ik.out (S.out.blk _ (.head _) _ rfl) (Kd.oD (base' := 0) (S.out.own _ (.head _))))) ?_; clear S; intro di S) | (refine bG (some 38) Try.func164 S (oL i g_.out ik.out (S.out.blk _ (.head _) _ rfl) (Kd.oD (base' := 0) (S.out.own _ (.head _)))) ?_; clear S; intro dS S) | (refine iT (some 44) Try.func186 (zx i (wrap64 (-(aH ax (kd K i)))) g_.out ik.out S.out) ?_; rintro e gq ⟨rfl, h1⟩; refine ⟨_, rfl, ?_⟩; rw [hneg] at h1; replace S := ae.mk h1; clear h1; rw [show K.length = (cZ ax i (-(aH ax (kd K i))) K).length from (List.length_set).symm] at S) | (refine iT (some 48) Try.func186 (zx pl (aH ax (kd K i)) xh.out xg.out S.out) ?_; rintro e gz ⟨rfl, h1⟩; refine ⟨_, rfl, ?_⟩; replace S := ae.mk h1; clear h1; rw [show (cZ ax i (-(aH ax (kd K i))) K).length = (cZ ax pl (aH ax (kd K i)) (cZ ax i (-(aH ax (kd K i))) K)).length from (List.length_set).symm] at S))
       go_roundg f'
       case measure => exact Nat.lt_of_lt_of_le (Nat.lt_succ_self _) fM.out
       case rel => exact ⟨_, d + (aH ax (kd K i)), f', (by rw [UJ.out]), (by rw [N_.out]), r_, xX, ⟨by have := HF.out; have := jE.out; omega⟩, Nat.le_refl _, S⟩
      case neg =>
       have hmv : mn (LF - d) (aH ax (kd K i)) = (LF - d) := by unfold mn; rw [if_neg hmn]
       have r_ := ae.mk (show gW ax q false LF f' (cZ ax pl (LF - d) (cZ ax i (-(LF - d)) K)) (d + (LF - d)) = R by have h := HST.out; rw [hmv] at h; exact h)
       have jE := ae.mk (show 0 < (LF - d) by have := xU.out; have := sV.out; omega)
       have nY := ae.mk (show (LF - d) ≤ (aH ax (kd K i)) by omega)
       have xX := ae.mk (HI.out.step jh.out g_.out uz.out (Int.le_of_lt jE.out) nY.out)
       have xh := ae.mk (show pl < (cZ ax i (-(LF - d)) K).length by rw [show (cZ ax i (-(LF - d)) K).length = K.length from List.length_set]; exact HI.out.FY)
       have xg := ae.mk (show dU (cZ ax i (-(LF - d)) K) ≤ 1000000 by rw [(HI.out.good.move jh.out g_.out (n := -(LF - d)) (by have := nY.out; omega) (by have := HI.out.good.small; have := jE.out; omega)).2.2.2.2.1]; exact ik.out)
       have hneg : wrap64 (-(LF - d)) = -(LF - d) := by have := qW.out; have := nY.out; have := jE.out; unfold wrap64; omega
       have hw7 : wrap64 (LF - d - (LF - d)) = LF - (d + (LF - d)) := by have h1 := Bj.out; have h2 := zk.out; have := nY.out; have := jE.out; have := HD.out; have := HD0.out; have := sV.out; split at h1 <;> (unfold wrap64; omega)
       have hw8 : wrap64 (d + (LF - d)) = d + (LF - d) := by have := qW.out; have := nY.out; have := jE.out; have := HD.out; have := HD0.out; unfold wrap64; omega
       have UJ := ae.mk hw7
       have N_ := ae.mk hw8
       have hm1 : ¬ ((aH ax (kd K i)) < LF - d) := hmn
       clear hmv hmn hw7 hw8
       go_wp2_with (first | (refine bG (some 32) Try.func185 S (GH HG.out (yM false v_.out G6.out ik.out (S.out.blk _ (.head _) _ rfl) (Kd.oD (base' := 0) (S.out.own _ (.head _))))) ?_; clear S; intro di S) | (refine bG (some 38) Try.func164 S (oL i g_.out ik.out (S.out.blk _ (.head _) _ rfl) (Kd.oD (base' := 0) (S.out.own _ (.head _)))) ?_; clear S; intro dS S) | (refine iT (some 44) Try.func186 (zx i (wrap64 (-(LF - d))) g_.out ik.out S.out) ?_; rintro e gq ⟨rfl, h1⟩; refine ⟨_, rfl, ?_⟩; rw [hneg] at h1; replace S := ae.mk h1; clear h1; rw [show K.length = (cZ ax i (-(LF - d)) K).length from (List.length_set).symm] at S) | (refine iT (some 48) Try.func186 (zx pl (LF - d) xh.out xg.out S.out) ?_; rintro e gz ⟨rfl, h1⟩; refine ⟨_, rfl, ?_⟩; replace S := ae.mk h1; clear h1; rw [show (cZ ax i (-(LF - d)) K).length = (cZ ax pl (LF - d) (cZ ax i (-(LF - d)) K)).length from (List.length_set).symm] at S))
       go_roundg f'
       case measure => exact Nat.lt_of_lt_of_le (Nat.lt_succ_self _) fM.out
       case rel => exact ⟨_, d + (LF - d), f', (by (congr 1; omega)), (by rw [N_.out]), r_, xX, ⟨by have := HF.out; have := jE.out; omega⟩, Nat.le_refl _, S⟩
end Go.Proofs.Ytfdmfgaiblfbhaa.P
namespace Go.Proofs.Ytfdmfgaiblfbhaa.P
open Go.RowKit Go.Proofs.ag.aV Go.Proofs.ag.bP Go.Proofs.ag.cO
section
variable {c x z : ai} {path p L : _} {en id : Int}
end
noncomputable def nG (ax aC : Int) (q : Nat) (L : List ai) : List ai × Int :=
 ((gW ax q (decide (0 < aC)) (nX aC) 10001 L 0).1, if decide (0 < aC) = true then (gW ax q (decide (0 < aC)) (nX aC) 10001 L 0).2 else -(gW ax q (decide (0 < aC)) (nX aC) 10001 L 0).2)
noncomputable def Ei (ax aC : Int) (c z : ai) (pq : List Int) (q : Nat) : ai × Int × Int :=
 if (nG ax aC q z.f3).2 = 0 ∧ aC ≠ 0 then (z26, 0, 7) else (bD ((pO ⟨z.f0, z.f1, z.f2, (nG ax aC q z.f3).1⟩ pq c).getD z26) c.f1.f0 c.f1.f1, (nG ax aC q z.f3).2, 0)
def qI (p : List Int) (d : Nat) (z : ai) : Nat := (mn (rd p (d : Int)) ((z.f3.length : Int) - 2)).toNat
noncomputable def qU (ax id aC : Int) (c : ai) : ai × Int × Int :=
 if AU ax id c ≠ 0 then (z26, 0, AU ax id c) else match iR id c with
 | none => (z26, 0, 0)
 | some p => match Ha ax c p with
  | none => (z26, 0, 0)
  | some d => match qo c (p.take d) with
   | none => (z26, 0, 0)
   | some z => Ei ax aC c z (p.take d) (qI p d z)
structure qV (ax id : Int) (c : ai) (p : List Int) (d : Nat) (z : ai) (q : Nat) : Prop where
 kN : dB c = true
 hax : ax = 1 ∨ ax = 2
 find : iR id c = some p
 ZG : Ha ax c p = some d
 fr : Bg ax c p d z q
 zt : dB z = true
theorem Po {ax id : Int} {c : ai} (h : AU ax id c = 0) : ∃ p d z q, qV ax id c p d z q := by
 unfold AU at h
 split at h
 ·rename_i h1
  cases hf : iR id c with
  | none => rw [hf] at h; simp at h
  | some p =>
   rw [hf] at h
   simp only [] at h
   cases hd : Ha ax c p with
   | none => rw [hd] at h; simp at h
   | some d =>
    obtain ⟨x, hx, _⟩ := (Dx id _).1 c (Nat.le_refl _) p hf
    obtain ⟨z, q, hF, ht⟩ := Tu h1.1 hx hd
    exact ⟨p, d, z, q, h1.1, h1.2, hf, hd, hF, ht⟩
 ·simp at h
theorem qV.n {ax id : Int} {c : ai} {p : List Int} {d : Nat} {z : ai} {q : Nat} (h : qV ax id c p d z q) : AU ax id c = 0 := by
 unfold AU
 rw [if_pos ⟨h.kN, h.hax⟩, h.find]
 simp only [h.ZG]
theorem qV.q {ax id : Int} {c : ai} {p : List Int} {d : Nat} {z : ai} {q : Nat} (h : qV ax id c p d z q) : qI p d z = q := by
 unfold qI
 rw [← h.fr.hq]
 exact Int.toNat_natCast _
theorem qV.good {ax id : Int} {c : ai} {p : List Int} {d : Nat} {z : ai} {q : Nat} (h : qV ax id c p d z q) : rZ ax (aW ax z.f1 - ((z.f3.length : Int) - 1)) z.f3 := Tt h.hax h.zt h.fr.al
theorem qV.zs {ax id : Int} {c : ai} {p : List Int} {d : Nat} {z : ai} {q : Nat} (h : qV ax id c p d z q) : 1 + dU z.f3 ≤ sz c ∧ sz c ≤ 20000 := by
 have h1 := J3 _ _ _ h.fr.at'
 have h2 := bV z
 exact ⟨by omega, o6 (lL h.kN)⟩
theorem IL {ax id aC n : Int} {c : ai} (h : AU ax id c = n) (h0 : n ≠ 0) : qU ax id aC c = (z26, 0, n) := by
 unfold qU
 rw [h, if_pos h0]
theorem y9 {ax id aC : Int} {c : ai} {p : List Int} {d : Nat} {z : ai} {q : Nat} (h : qV ax id c p d z q) : qU ax id aC c = Ei ax aC c z (p.take d) q := by
 unfold qU
 rw [h.n, if_neg (by simp), h.find]
 simp only [h.ZG, h.fr.at', h.q]
theorem MW {ax aC s : Int} {q : Nat} {L : List ai} (hax : ax = 1 ∨ ax = 2) (h : rZ ax s L) (hq : q + 1 < L.length) :
  su ax s (place q (decide (0 < aC))) (dU L) L (nG ax aC q L).1 (gW ax q (decide (0 < aC)) (nX aC) 10001 L 0).2 :=
 (TV hax _ _ _ (su.start h (by unfold place; split <;> omega)) hq).1
theorem IK {ax aC s : Int} {q : Nat} {L : List ai} (hax : ax = 1 ∨ ax = 2) (h : rZ ax s L) (hq : q + 1 < L.length) : dU (nG ax aC q L).1 = dU L ∧ (nG ax aC q L).1.length = L.length :=
 ⟨(MW hax h hq).z, (MW hax h hq).len⟩
theorem acp (ax id aC : Int) (c : ai) : sz (qU ax id aC c).1 ≤ 1048576 := by
 have hz : sz z26 ≤ 1048576 := by decide
 by_cases h : AU ax id c = 0
 ·obtain ⟨p, d, z, q, hF⟩ := Po h
  rw [y9 hF]
  unfold Ei
  split
  ·exact hz
  ·show sz (bD _ _ _) ≤ _
   rw [(Qp _).1 _ (Nat.le_refl _)]
   cases hp : pO ⟨z.f0, z.f1, z.f2, (nG ax aC q z.f3).1⟩ (p.take d) c with
   | none => exact hz
   | some y =>
    have h5 := IM _ _ c y hp
    have h6 := bV ⟨z.f0, z.f1, z.f2, (nG ax aC q z.f3).1⟩
    have h7 := (IK (aC := aC) hF.hax hF.good hF.fr.next).1
    have h8 := hF.zs
    show sz y ≤ _
    simp only [] at h6
    omega
 ·rw [IL rfl h]; exact hz
abbrev Jh (w : World) (P : Nat → Prop) (r : ai × Int × Int) (e : Ending) (w' : World) : Prop := ∃ A c, e = .returned (.tuple #[.agg #[.int .u8 r.1.f0, .int .i64 r.1.f1.f0, .int .i64 r.1.f1.f1, .int .i64 r.1.f1.f2, .int .i64 r.1.f1.f3, .int .i64 r.1.f2, .slice A r.1.f3.length c], .int .i64 r.2.1, .int .i64 r.2.2]) ∧ Kd.N k26 26 w' w.heap.size (fun k => P k ∨ w.heap.size ≤ k) (.slice A r.1.f3.length c) r.1.f3 ∧ Below w.heap.size w w'
abbrev adm (w : World) (P : Nat → Prop) (ax : Int) (p pq : List Int) (z : ai) (q : Nat) (e : Ending) (w' : World) : Prop := ∃ Az cz Ap cp op, e = .returned (.tuple #[.agg #[.int .u8 z.f0, .int .i64 z.f1.f0, .int .i64 z.f1.f1, .int .i64 z.f1.f2, .int .i64 z.f1.f3, .int .i64 z.f2, .slice Az z.f3.length cz, .slice Ap pq.length cp, .int .i64 (q : Int), .int .u8 ax], .int .i64 0]) ∧ IR w.heap.size (.slice Ap p.length cp) p op ∧ St w P [((Value.slice Ap p.length cp).ownBlock, op)] [(.slice Az z.f3.length cz, z.f3)] [] [] w'
theorem Pn {ax id : Int} {c : ai} {p pq : List Int} {d : Nat} {z : ai} {q : Nat} {b : Nat} {P : Nat → Prop} {A : Option Addr} {cc : Nat} {w : World} (h : qV ax id c p d z q) (hpq : pq = p.take d) (hz : sz c ≤ 1000000) (hv : Kd.V k26 26 w b P (.slice A c.f3.length cc) c.f3) :
  Calls Try.prog 157 #[.agg #[.int .u8 c.f0, .int .i64 c.f1.f0, .int .i64 c.f1.f1, .int .i64 c.f1.f2, .int .i64 c.f1.f3, .int .i64 c.f2, .slice A c.f3.length cc], .int .i64 id, .int .u8 ax] w (adm w P ax p pq z q) := by
 subst hpq
 exact (Q3 c hz id ax b P A cc w hv).2 p d z q h.kN h.hax h.find h.ZG h.fr
theorem Qc {w W : World} {P : Nat → Prop} {bs : List (Option Nat × Obj)} {ts : List (Value × List ai)} {ro : List (Addr × Value)} {g gr cap : Nat} {fk fx fy fw fh CP ax s : Int} {VP : Value} {q : Nat} {L L' : List ai} {n : Int} (aC : Int) (hax : ax = 1 ∨ ax = 2) (hg : rZ ax s L) (hq : q + 1 < L.length) (hz : dU L ≤ 1000000) (hb : -9223372036854775808 ≤ aC ∧ aC ≤ 9223372036854775807) (hF : nG ax aC q L = (L', n))
  (S0 : St w P ((some g, .cells #[.int .u8 fk, .int .i64 fx, .int .i64 fy, .int .i64 fw, .int .i64 fh, .int .i64 CP, .slice (some ⟨gr, 0, none⟩) L.length cap, VP, .int .i64 (q : Int), .int .u8 ax] 147 (0, 0)) :: bs) [(.slice (some ⟨gr, 0, none⟩) L.length cap, L)] ts ro W) :
  Calls Try.prog 158 #[.pointer (some ⟨g, 0, none⟩), .int .i64 aC] W fun e w' => e = .returned (.int .i64 n) ∧ St w P ((some g, .cells #[.int .u8 fk, .int .i64 fx, .int .i64 fy, .int .i64 fw, .int .i64 fh, .int .i64 CP, .slice (some ⟨gr, 0, none⟩) L'.length cap, VP, .int .i64 (q : Int), .int .u8 ax] 147 (0, 0)) :: bs) [(.slice (some ⟨gr, 0, none⟩) L'.length cap, L')] ts ro w' := by
 have h := aco aC hax hg hq hz hb S0
 have e1 : L' = (nG ax aC q L).1 := by rw [hF]
 have e2 : n = (nG ax aC q L).2 := by rw [hF]
 subst e1 e2
 exact h
theorem RF (c : ai) (hz : sz c ≤ 1000000) (id ax aC : Int) (hb : -9223372036854775808 ≤ aC ∧ aC ≤ 9223372036854775807) (P : Nat → Prop) (A : Option Addr) (cc : Nat) (w : World) (hv : Kd.V k26 26 w w.heap.size P (.slice A c.f3.length cc) c.f3) :
  Calls Try.prog 114 #[.agg #[.int .u8 c.f0, .int .i64 c.f1.f0, .int .i64 c.f1.f1, .int .i64 c.f1.f2, .int .i64 c.f1.f3, .int .i64 c.f2, .slice A c.f3.length cc], .int .i64 id, .int .u8 ax, .int .i64 aC] w (Jh w P (qU ax id aC c)) := by
 have S := ae.mk (St.start (ts := [(.slice A c.f3.length cc, c.f3)]) (b0 := w.heap.size) (w := w) (P := P) (fun t ht => by rw [List.mem_singleton.1 ht]; exact hv))
 have HZ := ae.mk hz
 have zk := ae.mk hb
 clear hz hv hb
 by_cases hn0 : AU ax id c = 0
 case pos =>
  obtain ⟨p, d, z, q, hF⟩ := Po hn0
  have hs := hF.zs
  have hps := fun y => IM ⟨z.f0, z.f1, z.f2, (nG ax aC q z.f3).1⟩ (p.take d) c y
  have hpz := (IK (aC := aC) hF.hax hF.good hF.fr.next).1
  obtain ⟨y, hy⟩ := WN (kid := ⟨z.f0, z.f1, z.f2, (nG ax aC q z.f3).1⟩) (p.take d) c hF.fr.at'
  have hys := hps y hy
  have hk6 := bV ⟨z.f0, z.f1, z.f2, (nG ax aC q z.f3).1⟩
  simp only [] at hk6
  rw [y9 hF]
  unfold Ei
  rw [hy]
  obtain ⟨pq, hpq⟩ : ∃ pq, pq = p.take d := ⟨_, rfl⟩
  rw [← hpq] at hy
  obtain ⟨⟨L', n⟩, hr⟩ : ∃ r, nG ax aC q z.f3 = r := ⟨_, rfl⟩
  rw [hr] at hy hpz hys hk6 ⊢
  simp only [Option.getD_some] at hy hpz hys hk6 ⊢
  have zl := ae.mk hF
  have jh := ae.mk hF.hax
  have HGD := ae.mk hF.good
  have N8 := ae.mk hF.fr.next
  have HZ2 := ae.mk (show 0 < z.f3.length by have := hF.fr.next; omega)
  have Dl := ae.mk (show dU z.f3 ≤ 1000000 by omega)
  have HPF := ae.mk hr
  have H9 := ae.mk hy
  have je := ae.mk (And.intro hpq (Nat.le_of_lt hF.fr.hd))
  have ik := ae.mk (show sz ⟨z.f0, z.f1, z.f2, L'⟩ ≤ 1000000 by omega)
  have Jd := ae.mk (show sz y ≤ 1000000 by omega)
  clear hn0 hF hs hps hpz hys hk6 hr hy hpq
  obtain ⟨ck, ⟨cx, cy, cw, ch⟩, ay, l⟩ := c
  simp only [] at S ⊢
  by_cases hn : n = 0
  case pos =>
   by_cases hb0 : aC = 0
   case pos =>
    rw [if_neg (fun h => h.2 hb0)]
    obtain ⟨hna, hnb, hnd⟩ := rU (a := n) (b := 0) (by omega)
    obtain ⟨hba, hbb, hbd⟩ := rU (a := aC) (b := 0) (by omega)
    clear hn hb0
    go_enter Try.func114, Try.ntmps114
    go_wp2_with (first | (refine boxS 4 _ 26 S ?_; clear S; intro b4 di S) | (refine boxS 8 _ 26 S ?_; clear S; intro b8 dS S; obtain ⟨d_, dn, dA, ed, eF, eG, dM⟩ := St.dD S aY) | (refine iT (some 20) Try.func157 (Pn zl.out je.out.1 HZ.out (S.out.tree _ (.head _))) ?_; rintro e gq ⟨Az, cz, Ap, cp, op, rfl, CQ, T⟩; refine ⟨_, rfl, ?_⟩; have S1 := S.out.join T; have iC := ae.mk CQ; obtain ⟨gr, aeg, ev, _⟩ := Kd.wE S1.oV HZ2.out; injection ev with e1 e2 e3; subst e1; clear e2 e3 T CQ; replace S := ae.mk S1; clear S1; clear d_ dn dA ed eF eG dM) | (refine boxS 11 _ 147 S ?_; clear S; intro b11 gz S) | (refine gy 147 11 21 #[.int .u8 z.f0, .int .i64 z.f1.f0, .int .i64 z.f1.f1, .int .i64 z.f1.f2, .int .i64 z.f1.f3, .int .i64 z.f2, .slice (some ⟨gr, 0, none⟩) z.f3.length cz, .slice Ap pq.length cp, .int .i64 (q : Int), .int .u8 ax] 0 10 S ?_; clear S; intro kG S) | (refine iT (some 28) Try.func158 (Qc aC jh.out HGD.out N8.out Dl.out zk.out HPF.out S.out) ?_; rintro e tJ ⟨rfl, S1⟩; refine ⟨_, rfl, ?_⟩; replace S := ae.mk S1.free; clear S1; obtain ⟨d_, dn, dA, ed, eF, eG, dM⟩ := St.dD S jB; have jO := (S.out.at (.head _) 0).trans rfl; have jm := (S.out.at (.head _) 1).trans rfl; have n_ := (S.out.at (.head _) 2).trans rfl; have wJ := (S.out.at (.head _) 3).trans rfl; have wK := (S.out.at (.head _) 4).trans rfl; have wL := (S.out.at (.head _) 5).trans rfl; have uF := (S.out.at (.head _) 6).trans rfl; have OT := (S.out.at (.head _) 7).trans rfl) | (refine iT (some 42) Try.func102 (ZX ⟨ck, ⟨cx, cy, cw, ch⟩, ay, l⟩ ⟨z.f0, z.f1, z.f2, L'⟩ pq y H9.out HZ.out ik.out (S.out.tree _ aY) (S.out.tree _ (.head _)) (dY iC.out S.out aY je.out).1 (dY iC.out S.out aY je.out).2) ?_; rintro e vV ⟨Ay, BJ, rfl, h1, hb⟩; refine ⟨_, rfl, ?_⟩; replace S := ae.mk (S.out.res (Kd.oD (base' := 0) h1) hb); clear h1 hb; clear d_ dn dA ed eF eG dM jO jm n_ wJ wK wL uF OT) | (refine boxS 14 _ 26 S ?_; clear S; intro b14 wV S) | (refine gy 26 14 43 #[.int .u8 y.f0, .int .i64 y.f1.f0, .int .i64 y.f1.f1, .int .i64 y.f1.f2, .int .i64 y.f1.f3, .int .i64 y.f2, .slice Ay y.f3.length BJ] 0 7 S ?_; clear S; intro Gn S; obtain ⟨OU, OV, OW, OX, OY, OZ, O0⟩ := St.dD S (.head _); have dn := (S.out.at lK 1).trans rfl; have dA := (S.out.at lK 2).trans rfl) | (refine Ba (some 52) Try.func66 S (NG y cx cy Jd.out (S.out.tree _ (.head _))) ?_; clear S; intro As cs Aj S; clear OU OV OW OX OY OZ O0 dn dA) | (refine KY 26 8 52 #[.int .u8 ((bD y cx cy).f0), .int .i64 ((bD y cx cy).f1.f0), .int .i64 ((bD y cx cy).f1.f1), .int .i64 ((bD y cx cy).f1.f2), .int .i64 ((bD y cx cy).f1.f3), .int .i64 ((bD y cx cy).f2), .slice As ((bD y cx cy).f3.length) cs] 0 7 S ?_; clear S; intro Gm S))
    refine bodyPost_ret (kF rfl _ _ b8 26 _ (0, 0) _ rfl (S.out.blk _ jB _ rfl) Try.underlying26 rfl (by kernel_rfl)) rfl ?_
    exact ⟨_, _, rfl, S.out.oV, S.out.below⟩
   case neg =>
    rw [if_pos ⟨hn, hb0⟩]
    obtain ⟨hna, hnb, hnd⟩ := rU (a := n) (b := 0) (by omega)
    obtain ⟨hba, hbb, hbd⟩ := eqF (a := aC) (b := 0) (by omega)
    clear hn hb0
    go_enter Try.func114, Try.ntmps114
    go_wp2_with (first | (refine boxS 4 _ 26 S ?_; clear S; intro b4 di S) | (refine boxS 8 _ 26 S ?_; clear S; intro b8 dS S; obtain ⟨d_, dn, dA, ed, eF, eG, dM⟩ := St.dD S aY) | (refine iT (some 20) Try.func157 (Pn zl.out je.out.1 HZ.out (S.out.tree _ (.head _))) ?_; rintro e gq ⟨Az, cz, Ap, cp, op, rfl, CQ, T⟩; refine ⟨_, rfl, ?_⟩; have S1 := S.out.join T; have iC := ae.mk CQ; obtain ⟨gr, aeg, ev, _⟩ := Kd.wE S1.oV HZ2.out; injection ev with e1 e2 e3; subst e1; clear e2 e3 T CQ; replace S := ae.mk S1; clear S1; clear d_ dn dA ed eF eG dM) | (refine boxS 11 _ 147 S ?_; clear S; intro b11 gz S) | (refine gy 147 11 21 #[.int .u8 z.f0, .int .i64 z.f1.f0, .int .i64 z.f1.f1, .int .i64 z.f1.f2, .int .i64 z.f1.f3, .int .i64 z.f2, .slice (some ⟨gr, 0, none⟩) z.f3.length cz, .slice Ap pq.length cp, .int .i64 (q : Int), .int .u8 ax] 0 10 S ?_; clear S; intro kG S) | (refine iT (some 28) Try.func158 (Qc aC jh.out HGD.out N8.out Dl.out zk.out HPF.out S.out) ?_; rintro e tJ ⟨rfl, S1⟩; refine ⟨_, rfl, ?_⟩; replace S := ae.mk S1.free; clear S1) | (refine Qd 26 8 35 #[.int .u8 0, .int .i64 0, .int .i64 0, .int .i64 0, .int .i64 0, .int .i64 0, .slice none 0 0] 0 7 S ?_; clear S; intro vV S))
    refine bodyPost_ret (kF rfl _ _ b8 26 _ (0, 0) _ rfl (S.out.blk _ dL _ rfl) Try.underlying26 rfl (by kernel_rfl)) rfl ?_
    exact ⟨_, _, rfl, Kd.oO _ _ _ _ _, S.out.below⟩
  case neg =>
   rw [if_neg (fun h => hn h.1)]
   obtain ⟨hna, hnb, hnd⟩ := eqF (a := n) (b := 0) (by omega)
   clear hn
   go_enter Try.func114, Try.ntmps114
   go_wp2_with (first | (refine boxS 4 _ 26 S ?_; clear S; intro b4 di S) | (refine boxS 8 _ 26 S ?_; clear S; intro b8 dS S; obtain ⟨d_, dn, dA, ed, eF, eG, dM⟩ := St.dD S aY) | (refine iT (some 20) Try.func157 (Pn zl.out je.out.1 HZ.out (S.out.tree _ (.head _))) ?_; rintro e gq ⟨Az, cz, Ap, cp, op, rfl, CQ, T⟩; refine ⟨_, rfl, ?_⟩; have S1 := S.out.join T; have iC := ae.mk CQ; obtain ⟨gr, aeg, ev, _⟩ := Kd.wE S1.oV HZ2.out; injection ev with e1 e2 e3; subst e1; clear e2 e3 T CQ; replace S := ae.mk S1; clear S1; clear d_ dn dA ed eF eG dM) | (refine boxS 11 _ 147 S ?_; clear S; intro b11 gz S) | (refine gy 147 11 21 #[.int .u8 z.f0, .int .i64 z.f1.f0, .int .i64 z.f1.f1, .int .i64 z.f1.f2, .int .i64 z.f1.f3, .int .i64 z.f2, .slice (some ⟨gr, 0, none⟩) z.f3.length cz, .slice Ap pq.length cp, .int .i64 (q : Int), .int .u8 ax] 0 10 S ?_; clear S; intro kG S) | (refine iT (some 28) Try.func158 (Qc aC jh.out HGD.out N8.out Dl.out zk.out HPF.out S.out) ?_; rintro e tJ ⟨rfl, S1⟩; refine ⟨_, rfl, ?_⟩; replace S := ae.mk S1.free; clear S1; obtain ⟨d_, dn, dA, ed, eF, eG, dM⟩ := St.dD S jB; have jO := (S.out.at (.head _) 0).trans rfl; have jm := (S.out.at (.head _) 1).trans rfl; have n_ := (S.out.at (.head _) 2).trans rfl; have wJ := (S.out.at (.head _) 3).trans rfl; have wK := (S.out.at (.head _) 4).trans rfl; have wL := (S.out.at (.head _) 5).trans rfl; have uF := (S.out.at (.head _) 6).trans rfl; have OT := (S.out.at (.head _) 7).trans rfl) | (refine iT (some 42) Try.func102 (ZX ⟨ck, ⟨cx, cy, cw, ch⟩, ay, l⟩ ⟨z.f0, z.f1, z.f2, L'⟩ pq y H9.out HZ.out ik.out (S.out.tree _ aY) (S.out.tree _ (.head _)) (dY iC.out S.out aY je.out).1 (dY iC.out S.out aY je.out).2) ?_; rintro e vV ⟨Ay, BJ, rfl, h1, hb⟩; refine ⟨_, rfl, ?_⟩; replace S := ae.mk (S.out.res (Kd.oD (base' := 0) h1) hb); clear h1 hb; clear d_ dn dA ed eF eG dM jO jm n_ wJ wK wL uF OT) | (refine boxS 14 _ 26 S ?_; clear S; intro b14 wV S) | (refine gy 26 14 43 #[.int .u8 y.f0, .int .i64 y.f1.f0, .int .i64 y.f1.f1, .int .i64 y.f1.f2, .int .i64 y.f1.f3, .int .i64 y.f2, .slice Ay y.f3.length BJ] 0 7 S ?_; clear S; intro Gn S; obtain ⟨OU, OV, OW, OX, OY, OZ, O0⟩ := St.dD S (.head _); have dn := (S.out.at lK 1).trans rfl; have dA := (S.out.at lK 2).trans rfl) | (refine Ba (some 52) Try.func66 S (NG y cx cy Jd.out (S.out.tree _ (.head _))) ?_; clear S; intro As cs Aj S; clear OU OV OW OX OY OZ O0 dn dA) | (refine KY 26 8 52 #[.int .u8 ((bD y cx cy).f0), .int .i64 ((bD y cx cy).f1.f0), .int .i64 ((bD y cx cy).f1.f1), .int .i64 ((bD y cx cy).f1.f2), .int .i64 ((bD y cx cy).f1.f3), .int .i64 ((bD y cx cy).f2), .slice As ((bD y cx cy).f3.length) cs] 0 7 S ?_; clear S; intro Gm S))
   refine bodyPost_ret (kF rfl _ _ b8 26 _ (0, 0) _ rfl (S.out.blk _ jB _ rfl) Try.underlying26 rfl (by kernel_rfl)) rfl ?_
   exact ⟨_, _, rfl, S.out.oV, S.out.below⟩
 case neg =>
  obtain ⟨n, hn⟩ : ∃ n, AU ax id c = n := ⟨_, rfl⟩
  rw [hn] at hn0
  rw [IL hn hn0]
  obtain ⟨hna, hnb, hnd⟩ := eqF (a := n) (b := 0) (by omega)
  have HN := ae.mk hn
  have jE := ae.mk hn0
  clear hn hn0
  obtain ⟨ck, ⟨cx, cy, cw, ch⟩, ay, l⟩ := c
  simp only [] at S ⊢
  go_enter Try.func114, Try.ntmps114
  go_wp2_with (first | (refine boxS 4 _ 26 S ?_; clear S; intro b4 di S) | (refine boxS 8 _ 26 S ?_; clear S; intro b8 dS S; obtain ⟨d_, dn, dA, ed, eF, eG, dM⟩ := St.dD S aY) | (refine bG (some 20) Try.func157 S ((Q3 ⟨ck, ⟨cx, cy, cw, ch⟩, ay, l⟩ HZ.out id ax _ _ _ _ _ (S.out.tree _ (.head _))).1 n HN.out jE.out) ?_; clear S; intro gq S; clear d_ dn dA ed eF eG dM) | (refine boxS 11 _ 147 S ?_; clear S; intro b11 gz S) | (refine gy 147 11 21 #[.int .u8 0, .int .i64 0, .int .i64 0, .int .i64 0, .int .i64 0, .int .i64 0, .slice none 0 0, .slice none 0 0, .int .i64 0, .int .u8 0] 0 10 S ?_; clear S; intro kG S) | (refine uk 26 8 25 #[.int .u8 0, .int .i64 0, .int .i64 0, .int .i64 0, .int .i64 0, .int .i64 0, .slice none 0 0] 0 7 S ?_; clear S; intro tJ S))
  refine bodyPost_ret (kF rfl _ _ b8 26 _ (0, 0) _ rfl (S.out.blk _ aY _ rfl) Try.underlying26 rfl (by kernel_rfl)) rfl ?_
  exact ⟨_, _, rfl, Kd.oO _ _ _ _ _, S.out.below⟩
theorem R_ (a : Int) : ∀ (l : List ai) (n : Nat) (x y : Int), n < l.length → ∃ x' y', kd (jZ a l x y) n = bD (kd l n) x' y' := by
 intro l
 induction l with
 | nil => intro n x y h; simp at h
 | cons k ks ih =>
  intro n x y h
  rw [o8]
  cases n with
  | zero => exact ⟨x, y, rfl⟩
  | succ n => exact ih n _ _ (by simpa using h)
def EF : ai := ⟨1, ⟨0, 0, 40, 24⟩, 1, []⟩
def EG : ai := ⟨1, ⟨41, 0, 39, 24⟩, 2, []⟩
def wO : ai := ⟨2, ⟨0, 0, 80, 24⟩, 0, [EF, EG]⟩
theorem Pm : dB wO = true := by decide +kernel
theorem aaF : iR 2 wO = some [1] := by decide +kernel
theorem aeG : Ha 1 wO [1] = some 0 := by decide +kernel
theorem MC : qV 1 2 wO [1] 0 wO 0 :=
 ⟨Pm, .inl rfl, aaF, aeG, ⟨by decide, rfl, by decide, by decide, by decide, by decide, by decide⟩, Pm⟩
theorem Ya : jY 1 0 true [EF, EG] = some 1 := by decide +kernel
theorem Pj : aH 1 (kd [EF, EG] 1) = 38 := by decide +kernel
theorem aaG : nG 1 5 0 [EF, EG] = (cZ 1 0 5 (cZ 1 1 (-5) [EF, EG]), 5) := by
 have e : gW 1 0 true 5 10001 [EF, EG] 0 = (cZ 1 0 5 (cZ 1 1 (-5) [EF, EG]), 5) := by
  rw [tZ (f := 10000) (by omega) Ya, Pj]
  have e1 : mn ((5 : Int) - 0) 38 = 5 := by decide
  have e2 : place 0 true = 0 := rfl
  rw [e1, e2, Int.zero_add, t_ (Int.le_refl _)]
 unfold nG
 rw [show decide ((0 : Int) < 5) = true from rfl, show nX 5 = 5 from rfl, e]
 rfl
theorem aeF : (qU 1 2 5 wO).2 = (5, 0) ∧ (qU 1 2 5 wO).1.f3.length = 2 ∧ (kd (qU 1 2 5 wO).1.f3 0).f1.f2 = 45 ∧ (kd (qU 1 2 5 wO).1.f3 1).f1.f2 = 34 := by
 have hg := MC.good
 have hs : aW 1 wO.f1 - ((wO.f3.length : Int) - 1) = 79 := by decide
 rw [hs] at hg
 have hg : rZ 1 79 [EF, EG] := hg
 obtain ⟨a1, a2, a3, a4, a5, a6⟩ := hg.move (.inl rfl) (i := 1) (n := -5) (by decide) (by rw [Pj]; decide) (by decide)
 obtain ⟨b1, b2, b3, b4, b5, b6⟩ := a1.move (.inl rfl) (i := 0) (n := 5) (by rw [a4]; decide) (by
  have := Pure.jA (ax := 1) (.inl rfl) (a1.kN _ (jP (i := 0) (by rw [a4]; decide)))
  omega) (by decide)
 have e0 := b6
 rw [a3 0 (by decide)] at e0
 have e1 := a6
 rw [← b3 1 (by decide)] at e1
 have hr : qU 1 2 5 wO = (bD ⟨wO.f0, wO.f1, wO.f2, cZ 1 0 5 (cZ 1 1 (-5) [EF, EG])⟩ 0 0, 5, 0) := by
  rw [y9 MC]
  unfold Ei
  rw [show wO.f3 = [EF, EG] from rfl, aaG]
  rfl
 rw [hr]
 generalize cZ 1 0 5 (cZ 1 1 (-5) [EF, EG]) = L at *
 have hl : L.length = 2 := by rw [b4, a4]; rfl
 have hf : (bD ⟨wO.f0, wO.f1, wO.f2, L⟩ 0 0).f3 = jZ 2 L 0 0 := by rw [l9]; rfl
 obtain ⟨x0, y0, h0⟩ := R_ 2 L 0 0 0 (by omega)
 obtain ⟨x1, y1, h1⟩ := R_ 2 L 1 0 0 (by omega)
 simp only []
 rw [hf, lZ, h0, h1]
 have hw : ∀ k x y, (bD k x y).f1.f2 = aW 1 k.f1 := fun k x y => by rw [l9]; rfl
 rw [hw, hw, e0, e1]
 refine ⟨?_, hl, ?_, ?_⟩ <;> first | trivial | rfl
theorem acf {Pr : Program} {ops : Array Oper} {rest : List Oper} {op : Oper} {a : Act} {Q : Exit → Act → World → Prop} {w W : World} {P : Nat → Prop} {bs : List (Option Nat × Obj)} {ts : List (Value × List ai)} {ro : List (Addr × Value)} {N : Tmp} (hd : op.dst = some N) (hgd : op.guard = none) (x y : ai) {A B : Option Addr} {c d b b' : Nat} (S : St w P bs [] ts ro W)
  (hV : Kd.V k26 26 W b (Ok w P (keys bs [])) (.slice A x.f3.length c) x.f3) (hV' : Kd.V k26 26 W b' (Ok w P (keys bs [])) (.slice B y.f3.length d) y.f3)
  (hrun : (execOp a.eval op).run Pr W = .ok (.value (.slice (some ⟨W.heap.size, 0, none⟩) 2 2)) (W.alloc (.cells (lN x A c ++ lN y B d).toArray 26)))
  (h : ∀ A1 c1 w1, St w P bs [(.slice A1 2 c1, [x, y])] ts ro w1 → wpList Pr ops Q rest (a.put op.dst (.slice A1 2 c1)) w1) : wpList Pr ops Q (op :: rest) a W := by
 obtain ⟨_, hl, hF⟩ := Kd.C_ hV
 obtain ⟨_, hl', hF'⟩ := Kd.C_ hV'
 refine Kd.yV k26 (w0 := W) W.heap.size 26 hgd hd (xs := [x, y]) (inner := lN x A c ++ lN y B d) (ok := fun k => Ok w P (keys bs []) k ∨ W.heap.size ≤ k) (gU := Ok w P (keys bs [])) hrun (dm.c7 (o_ W _ x hl hF) (dm.c7 (o_ W _ y hl' hF') (dm.none _ _))) (fun _ h => .inl h) (.inr (Nat.le_refl _)) (Below.refl _ _) (Nat.le_refl _) (by simp) ?_
 intro v1 w1 hN _ hg _
 obtain ⟨A1, c1, rfl⟩ := Kd.jG hN
 exact h A1 c1 w1 (S.yx hN (rD hg))
theorem PY {ax id aC : Int} {c : ai} {r : ai × Int × Int} {P : Nat → Prop} {W : World} {f : FuncId} {args : Array Value} (h : qU ax id aC c = r) (hc : Calls Try.prog f args W (Jh W P (qU ax id aC c))) : Calls Try.prog f args W (Jh W P r) := by
 rw [h] at hc
 exact hc
theorem EU {w : World} : Calls Try.prog 113 #[] w fun e w' => e = .returned (.bool true) ∧ Below w.heap.size w w' := by
 have S := ae.mk (St.start (ts := []) (b0 := w.heap.size) (w := w) (P := fun _ => True) (fun t ht => by cases ht))
 have hx := aeF
 obtain ⟨⟨X, n, e⟩, hr⟩ : ∃ r, qU 1 2 5 wO = r := ⟨_, rfl⟩
 rw [hr] at hx
 obtain ⟨h1, h2, h3, h4⟩ := hx
 injection h1 with h5 h6
 have h5 : n = 5 := h5
 have h6 : e = 0 := h6
 subst h5 h6
 have HR := ae.mk hr
 have HL := ae.mk (show X.f3.length = 2 from h2)
 have UE := ae.mk (show ((0 : Nat) : Int) < (X.f3.length : Int) by rw [HL.out]; decide)
 have G_ := ae.mk (show ((1 : Nat) : Int) < (X.f3.length : Int) by rw [HL.out]; decide)
 have HX0 := ae.mk (show (kd X.f3 0).f1.f2 = 45 from h3)
 have HX1 := ae.mk (show (kd X.f3 1).f1.f2 = 34 from h4)
 clear h2 h3 h4 hr
 go_enter Try.func113, Try.ntmps113
 go_wp2_with (first
  | (refine boxS 1 _ 26 S ?_; clear S; intro b1 di S)
  | (refine gy 26 1 8 #[.int .u8 1, .int .i64 0, .int .i64 0, .int .i64 40, .int .i64 24, .int .i64 1, .slice none 0 0] 0 7 S ?_; clear S; intro dS S)
  | (refine boxS 2 _ 26 S ?_; clear S; intro b2 gq S)
  | (refine gy 26 2 10 #[.int .u8 1, .int .i64 41, .int .i64 0, .int .i64 39, .int .i64 24, .int .i64 2, .slice none 0 0] 0 7 S ?_; clear S; intro gz S; obtain ⟨jr, kU, kV, kW, kX, kY, fD⟩ := St.dD S (.head _); obtain ⟨iH, lQ, lS, lT, lU, nV, jD⟩ := St.dD S aY)
  | ((with_reducible refine aG (N := 14) rfl ?_); refine acf (N := 14) rfl rfl EF EG S.out (Kd.ND k26 26 _ 0 _) (Kd.ND k26 26 _ 0 _) ?hr ?_; (case hr => first | (go_simp; done) | (go_simp; rfl)); intro Aq cq kG S1; replace S := ae.mk S1; clear S1; clear jr kU kV kW kX kY fD iH lQ lS lT lU nV jD)
  | (refine boxS 3 _ 26 S ?_; clear S; intro b3 tJ S)
  | (refine gy 26 3 15 #[.int .u8 2, .int .i64 0, .int .i64 0, .int .i64 80, .int .i64 24, .int .i64 0, .slice Aq 2 cq] 0 7 S ?_; clear S; intro vV S; obtain ⟨bf, bg, bu, bz, bM, bU, bC⟩ := St.dD S (.head _))
  | (refine iT (some 18) Try.func114 (PY HR.out (RF wO (by decide) 2 1 5 (by decide) _ _ _ _ (eY (S.out.free.tree _ (.head _))))) ?_; rintro e wV ⟨Ax, AP, rfl, h1, hb⟩; refine ⟨_, rfl, ?_⟩; replace S := ae.mk (S.out.free.res (Kd.oD (base' := 0) h1) hb); clear h1 hb; clear bf bg bu bz bM bU bC)
  | (refine boxS 4 _ 26 S ?_; clear S; intro b4 Gn S)
  | (refine gy 26 4 19 #[.int .u8 X.f0, .int .i64 X.f1.f0, .int .i64 X.f1.f1, .int .i64 X.f1.f2, .int .i64 X.f1.f3, .int .i64 X.f2, .slice Ax X.f3.length AP] 0 7 S ?_; clear S; intro Aj S; obtain ⟨ad, ua, uc, ek, S1⟩ := S.out.elem (.head _) ((0 : Nat) : Int) (by decide) UE.out; subst ek; obtain ⟨ad2, ub, uc2, ek, S2⟩ := S1.elem aY ((1 : Nat) : Int) (by decide) G_.out; injection ek with ek; subst ek; rw [Ju] at S1 S2; have f3 : Aj.cell? ⟨ad.block, ad.off + 3, none⟩ = some (.int .i64 45) := (by have h := (S1.cell _ jB).1; rw [HX0.out] at h; exact h); have f10 : Aj.cell? ⟨ad.block, ad.off + 10, none⟩ = some (.int .i64 34) := (by have h := (S2.cell _ jB).1; rw [HX1.out] at h; exact h); have amu : Aj.cell? ⟨ad.block, ad.off + 7 + 3, none⟩ = some (.int .i64 34) := f10; have hl := HL.out; clear S1 S2; have dM := (S.out.at (.head _) 6).trans rfl)
  | fail)
 clear dM
 go_ret
 exact ⟨rfl, S.out.below⟩
end Go.Proofs.Ytfdmfgaiblfbhaa.P
namespace Go.Proofs.Ytfdmfgaiblfbhaa.P
open Go.RowKit Go.Proofs.ag.aV Go.Proofs.ag.bP Go.Proofs.ag.cO
attribute [local go_sem] kJ lM kS l7
def qH.T9 : Bool × List (List Nat × List Nat) := (true, [([], []), ([], []), ([], []), ([1, 2], [1, 2]), ([0, 3], [0, 3]), ([4], [4]), ([5], [5]), ([5], [5]), ([], []), ([8, 6, 4, 0, 1, 2, 3, 4, 5, 6, 8], [6, 8]), ([7, 9, 0, 1, 2, 3, 4, 5, 6, 7, 8, 9], [7])])
def qH.B9 : List Nat := [0, 0, 0, 6, 15, 31, 63, 63, 0, 383, 1023]
theorem qH.xw : iM .any (opsOf Try.f116 9) = qH.T9 := by kernel_rfl
theorem qH.sF : gZ qH.T9.2 qH.B9 = true := by kernel_rfl
abbrev adT (w : World) (p : List Int) (d : Nat) (q : Nat) (e : Ending) (w' : World) : Prop := ∃ Ap cp op, e = .returned (.agg #[.slice Ap (p.take d).length cp, .int .i64 (q : Int), .int .i64 0]) ∧ IR w.heap.size (.slice Ap p.length cp) p op ∧ (∀ g, (Value.slice Ap p.length cp).ownBlock = some g → w.heap.size ≤ g ∧ w'.heap[g]? = some op) ∧ Below w.heap.size w w'
theorem QZ (c : ai) (hz : sz c ≤ 1000000) (id ax : Int) (b : Nat) (P : Nat → Prop) (A : Option Addr) (cc : Nat) (w : World) (hv : Kd.V k26 26 w b P (.slice A c.f3.length cc) c.f3) :
  (∀ n, AU ax id c = n → n ≠ 0 → Calls Try.prog 116 #[.agg #[.int .u8 c.f0, .int .i64 c.f1.f0, .int .i64 c.f1.f1, .int .i64 c.f1.f2, .int .i64 c.f1.f3, .int .i64 c.f2, .slice A c.f3.length cc], .int .i64 id, .int .u8 ax] w fun e w' => e = .returned (.agg #[.slice none 0 0, .int .i64 0, .int .i64 n]) ∧ Below w.heap.size w w') ∧
  (∀ p d z q, dB c = true → (ax = 1 ∨ ax = 2) → iR id c = some p → Ha ax c p = some d → Bg ax c p d z q → Calls Try.prog 116 #[.agg #[.int .u8 c.f0, .int .i64 c.f1.f0, .int .i64 c.f1.f1, .int .i64 c.f1.f2, .int .i64 c.f1.f3, .int .i64 c.f2, .slice A c.f3.length cc], .int .i64 id, .int .u8 ax] w (adT w p d q)) := by
 have S := ae.mk (St.start (ts := [(.slice A c.f3.length cc, c.f3)]) (b0 := w.heap.size) (w := w) (P := P) (fun t ht => by rw [List.mem_singleton.1 ht]; exact eY hv))
 have EC := ae.mk (show sz c ≤ 1048576 by omega)
 have HZ := ae.mk hz
 have hpl := fun p (h : iR id c = some p) => (D7 id (sz c)).1 c (Nat.le_refl _) p h
 clear hz hv
 obtain ⟨ck, ⟨cx, cy, cw, ch⟩, ay, l⟩ := c
 simp only [] at S ⊢
 constructor
 ·intro n hn hn0
  unfold AU at hn
  cases ht : dB ⟨ck, ⟨cx, cy, cw, ch⟩, ay, l⟩ with
  | false =>
   rw [if_neg (fun h => by rw [ht] at h; cases h.1)] at hn
   subst hn
   have HT := ae.mk ht
   clear ht hn0 hpl
   go_enter Try.func116, Try.ntmps116
   go_wp2_with (first | (refine boxS 3 _ 26 S ?_; clear S; intro b3 di S) | (refine boxS 6 _ 110 S ?_; clear S; intro b6 dS S; obtain ⟨bf, bg, bu, bz, bM, bU, bC⟩ := St.dD S aY) | (refine bG (some 14) Try.func84 S (mf HT.out (xn ⟨ck, ⟨cx, cy, cw, ch⟩, ay, l⟩ EC.out _ _ _ _ _ (S.out.tree _ (.head _)))) ?_; clear S; intro gq S; clear bf bg bu bz bM bU bC) | (refine gy 110 6 24 #[.slice none 0 0, .int .i64 0, .int .i64 1] 0 3 S ?_; clear S; intro gz S))
   refine bodyPost_ret (results_cell_row rfl _ _ b6 110 _ (0, 0) _ rfl (S.out.blk _ (.head _) _ rfl) Try.underlying110 rfl (by kernel_rfl)) rfl ?_
   exact ⟨rfl, S.out.below⟩
  | true =>
   have HT := ae.mk ht
   by_cases h1 : ax = 1 ∨ ax = 2
   case neg =>
    rw [if_neg (fun h => h1 h.2)] at hn
    subst hn
    clear ht hn0 hpl
    by_cases h2 : ax < 1
    case pos =>
     obtain ⟨hxa, hxb⟩ := nz (a := ax) (b := 1) (by omega)
     clear h1 h2
     go_enter Try.func116, Try.ntmps116
     go_wp2_with (first | (refine boxS 3 _ 26 S ?_; clear S; intro b3 di S) | (refine boxS 6 _ 110 S ?_; clear S; intro b6 dS S; obtain ⟨bf, bg, bu, bz, bM, bU, bC⟩ := St.dD S aY) | (refine bG (some 14) Try.func84 S (mf HT.out (xn ⟨ck, ⟨cx, cy, cw, ch⟩, ay, l⟩ EC.out _ _ _ _ _ (S.out.tree _ (.head _)))) ?_; clear S; intro gq S; clear bf bg bu bz bM bU bC) | (refine gy 110 6 24 #[.slice none 0 0, .int .i64 0, .int .i64 1] 0 3 S ?_; clear S; intro gz S))
     refine bodyPost_ret (results_cell_row rfl _ _ b6 110 _ (0, 0) _ rfl (S.out.blk _ (.head _) _ rfl) Try.underlying110 rfl (by kernel_rfl)) rfl ?_
     exact ⟨rfl, S.out.below⟩
    case neg =>
     obtain ⟨hxa, hxb⟩ := lY (a := ax) (b := 1) (by omega)
     obtain ⟨hya, hyb⟩ := nz (a := 2) (b := ax) (by omega)
     clear h1 h2
     go_enter Try.func116, Try.ntmps116
     go_wp2_with (first | (refine boxS 3 _ 26 S ?_; clear S; intro b3 di S) | (refine boxS 6 _ 110 S ?_; clear S; intro b6 dS S; obtain ⟨bf, bg, bu, bz, bM, bU, bC⟩ := St.dD S aY) | (refine bG (some 14) Try.func84 S (mf HT.out (xn ⟨ck, ⟨cx, cy, cw, ch⟩, ay, l⟩ EC.out _ _ _ _ _ (S.out.tree _ (.head _)))) ?_; clear S; intro gq S; clear bf bg bu bz bM bU bC) | (refine gy 110 6 24 #[.slice none 0 0, .int .i64 0, .int .i64 1] 0 3 S ?_; clear S; intro gz S))
     refine bodyPost_ret (results_cell_row rfl _ _ b6 110 _ (0, 0) _ rfl (S.out.blk _ (.head _) _ rfl) Try.underlying110 rfl (by kernel_rfl)) rfl ?_
     exact ⟨rfl, S.out.below⟩
   rw [if_pos ⟨ht, h1⟩] at hn
   cases hf : iR id ⟨ck, ⟨cx, cy, cw, ch⟩, ay, l⟩ with
   | none =>
    rw [hf] at hn
    simp only [] at hn
    subst hn
    have EM := ae.mk hf
    clear ht hn0 hpl hf
    obtain ⟨hxa, hxb⟩ := lY (a := ax) (b := 1) (by omega)
    obtain ⟨hya, hyb⟩ := lY (a := 2) (b := ax) (by omega)
    all_goals
     clear h1
     go_enter Try.func116, Try.ntmps116
     go_wp2_with (first | (refine boxS 3 _ 26 S ?_; clear S; intro b3 di S) | (refine boxS 6 _ 110 S ?_; clear S; intro b6 dS S; obtain ⟨bf, bg, bu, bz, bM, bU, bC⟩ := St.dD S aY) | (refine bG (some 14) Try.func84 S (mf HT.out (xn ⟨ck, ⟨cx, cy, cw, ch⟩, ay, l⟩ EC.out _ _ _ _ _ (S.out.tree _ (.head _)))) ?_; clear S; intro gq S; clear bf bg bu bz bM bU bC; obtain ⟨bf, bg, bu, bz, bM, bU, bC⟩ := St.dD S aY) | (refine GI (some 28) Try.func90 S (YV id ⟨ck, ⟨cx, cy, cw, ch⟩, ay, l⟩ EM.out HZ.out (S.out.tree _ (.head _))) ?_; clear S; intro Ap cp op gz S iC; clear bf bg bu bz bM bU bC) | (refine uk 110 6 33 #[.slice none 0 0, .int .i64 0, .int .i64 6] 0 3 S ?_; clear S; intro kG S))
     refine bodyPost_ret (results_cell_row rfl _ _ b6 110 _ (0, 0) _ rfl (S.out.blk _ aY _ rfl) Try.underlying110 rfl (by kernel_rfl)) rfl ?_
     exact ⟨rfl, S.out.below⟩
   | some p =>
    rw [hf] at hn
    simp only [] at hn
    have xB := ae.mk (show p.length ≤ 1000000 by have := hpl p hf; have := HZ.out; omega)
    have EM := ae.mk hf
    obtain ⟨x, hx, _⟩ := (Dx id _).1 _ (Nat.le_refl _) p hf
    have HX := ae.mk hx
    cases hfr : Ha ax ⟨ck, ⟨cx, cy, cw, ch⟩, ay, l⟩ p with
    | some d => rw [hfr] at hn; exact absurd hn.symm hn0
    | none =>
     rw [hfr] at hn
     simp only [] at hn
     subst hn
     have HR := ae.mk (show ny (ui ax ⟨ck, ⟨cx, cy, cw, ch⟩, ay, l⟩ p) p.length = none from hfr)
     clear ht hn0 hpl hf hx hfr
     obtain ⟨hxa, hxb⟩ := lY (a := ax) (b := 1) (by omega)
     obtain ⟨hya, hyb⟩ := lY (a := 2) (b := ax) (by omega)
     all_goals
      clear h1
      go_enter Try.func116, Try.ntmps116
      go_wp2_with (first | (refine boxS 3 _ 26 S ?_; clear S; intro b3 di S) | (refine boxS 6 _ 110 S ?_; clear S; intro b6 dS S; obtain ⟨bf, bg, bu, bz, bM, bU, bC⟩ := St.dD S aY) | (refine bG (some 14) Try.func84 S (mf HT.out (xn ⟨ck, ⟨cx, cy, cw, ch⟩, ay, l⟩ EC.out _ _ _ _ _ (S.out.tree _ (.head _)))) ?_; clear S; intro gq S; clear bf bg bu bz bM bU bC; obtain ⟨bf, bg, bu, bz, bM, bU, bC⟩ := St.dD S aY) | (refine GI (some 28) Try.func90 S (JJ id ⟨ck, ⟨cx, cy, cw, ch⟩, ay, l⟩ p EM.out HZ.out (S.out.tree _ (.head _))) ?_; clear S; intro Ap cp op gz S iC; clear bf bg bu bz bM bU bC))
      go_loopg [9] (p.length + 1) (fun gg v9 wr => ∃ n : Nat, v9 = .int .i64 ((n : Int) - 1) ∧ ae (n ≤ p.length) ∧ n ≤ gg ∧ ae (ny (ui ax ⟨ck, ⟨cx, cy, cw, ch⟩, ay, l⟩ p) n = none) ∧ ae (St w P [((Value.slice Ap p.length cp).ownBlock, op), (some b6, .cells #[.slice none 0 0, .int .i64 0, .int .i64 0] 110 (0, 0)), (some b3, .cells #[.int .u8 ck, .int .i64 cx, .int .i64 cy, .int .i64 cw, .int .i64 ch, .int .i64 ay, .slice A l.length cc] 26 (0, 0))] [] [(.slice A l.length cc, l)] [] wr))
      case atStart => exact ⟨p.length, (by have := xB.out; congr 1; unfold wrap64; omega), ⟨Nat.le_refl _⟩, Nat.le_succ _, HR, S⟩
      case round =>
       clear S HR
       obtain ⟨n, rfl, HN, hgg, HR, S⟩ := hrel
       cases n with
       | zero =>
        go_wp2_with ((refine uk 110 6 70 #[.slice none 0 0, .int .i64 0, .int .i64 10] 0 3 S ?_; clear S; intro di S))
        refine bodyPost_ret (results_cell_row rfl _ _ b6 110 _ (0, 0) _ rfl (S.out.blk _ aY _ rfl) Try.underlying110 rfl (by kernel_rfl)) rfl ?_
        exact ⟨rfl, S.out.below⟩
       | succ n =>
        have e1 : (((n + 1 : Nat) : Int) - 1) = (n : Int) := by omega
        rw [e1]
        have nH := ae.mk (show n < p.length from HN.out)
        have fM := ae.mk hgg
        have hw : wrap64 ((n : Int) - 1) = (n : Int) - 1 := by have := HN.out; have := xB.out; unfold wrap64; omega
        have HW := ae.mk hw
        have h0 : decide ((n : Int) ≥ 0) = true := decide_eq_true (Int.natCast_nonneg _)
        have wP : (0 : Int) ≤ (n : Int) := Int.natCast_nonneg _
        obtain ⟨z, sQ, hi0, hi1⟩ := ES p ⟨ck, ⟨cx, cy, cw, ch⟩, ay, l⟩ _ HX.out n nH.out
        obtain ⟨pq, hpq⟩ : ∃ pq, pq = p.take n := ⟨_, rfl⟩
        have hal : ui ax ⟨ck, ⟨cx, cy, cw, ch⟩, ay, l⟩ p n = fK ax z.f0 := by unfold ui; rw [sQ]
        rw [← hpq] at sQ
        have HAT := ae.mk sQ
        have je := ae.mk (And.intro hpq (Nat.le_of_lt nH.out))
        have hcut : ∀ W : World, (Instr.slice 41 (.slice Ap p.length cp) none (some (.int .i64 (n : Int))) none).run Try.prog W = .ok (.slice Ap pq.length cp) W := by
         intro W
         obtain ⟨i0, hi0, _, hsz, _⟩ := info_parts info3
         have h := Jp (P := Try.prog) 41 3 .i64 Try.underlying41 hi0 Ap p.length cp (n : Int) (Int.natCast_nonneg _) (by have := nH.out; omega) (H_ iC.out S.out (.head _)).2 W
         rw [Int.toNat_natCast, show n = pq.length by rw [hpq, List.length_take]; have := nH.out; omega] at h
         rw [show n = pq.length by rw [hpq, List.length_take]; have := nH.out; omega]
         exact h
        have HI0 := ae.mk hi0
        have HI1 := ae.mk hi1
        have hr := HR.out
        rw [ny, hal] at hr
        clear hw hgg e1 hal hpq sQ hi0 hi1
        cases ha : fK ax z.f0 with
        | false =>
         rw [ha, if_neg (by simp)] at hr
         replace HR := ae.mk hr
         have HA := ae.mk ha
         clear hr ha
         go_wp2
         refine gX (n := 11) (S := fun w' => St w _ _ _ _ _ w') (ds := [9]) (bA 11 0) (by kernel_rfl) rfl rfl (S.out.call (a_ (Below.refl _ _))) (fun hHeld => ?_); refine dZ qH.xw qH.sF (fun aj dE => ?_)
         replace S := ae.mk (S.out.call (a_ (Below.refl _ _)))
         generalize wr.drew = EK at S hHeld ⊢
         refine b_ 0 42 (bA 11 1) aj dE hHeld ?_ (hv := by intro w' hs_; have bf := (hs_.at dL 0).trans rfl; have bg := (hs_.at dL 1).trans rfl; have bu := (hs_.at dL 2).trans rfl; have bz := (hs_.at dL 3).trans rfl; have bM := (hs_.at dL 4).trans rfl; have bU := (hs_.at dL 5).trans rfl; have bC := (hs_.at dL 6).trans rfl; go_simp; with_reducible rfl)
         refine ak 1 43 (bA 11 3) aj ?_
         refine ak 2 44 (bA 11 7) aj ?_
         refine ak 3 45 (bA 11 15) aj ?_
         refine Bc (σ := Option Addr × Nat × Nat) 2 (bA 11 511) (fun s_ => [(46, .tuple #[.agg #[.int .u8 z.f0, .int .i64 z.f1.f0, .int .i64 z.f1.f1, .int .i64 z.f1.f2, .int .i64 z.f1.f3, .int .i64 z.f2, .slice s_.1 z.f3.length s_.2.1], .bool true]), (41, .tuple #[.agg #[.int .u8 z.f0, .int .i64 z.f1.f0, .int .i64 z.f1.f1, .int .i64 z.f1.f2, .int .i64 z.f1.f3, .int .i64 z.f2, .slice s_.1 z.f3.length s_.2.1], .bool true]), (47, .agg #[.int .u8 z.f0, .int .i64 z.f1.f0, .int .i64 z.f1.f1, .int .i64 z.f1.f2, .int .i64 z.f1.f3, .int .i64 z.f2, .slice s_.1 z.f3.length s_.2.1]), (48, .bool true), (10, .pointer (some ⟨s_.2.2, 0, none⟩))]) (fun s_ w' => St w P [(some s_.2.2, .cells #[.int .u8 0, .int .i64 0, .int .i64 0, .int .i64 0, .int .i64 0, .int .i64 0, .slice none 0 0] 26 (0, 0)), ((Value.slice Ap p.length cp).ownBlock, op), (some b6, .cells #[.slice none 0 0, .int .i64 0, .int .i64 0] 110 (0, 0)), (some b3, .cells #[.int .u8 ck, .int .i64 cx, .int .i64 cy, .int .i64 cw, .int .i64 ch, .int .i64 ay, .slice A l.length cc] 26 (0, 0))] [] [(.slice s_.1 z.f3.length s_.2.1, z.f3), (.slice A l.length cc, l)] [] w') ?_ ?_
         rotate_left
         ·intro lF
          refine Eu (i := 4) (j := 8) (Ni := some 46) (Nj := some 10) (bA 11 31) (bA 11 271) rfl rfl rfl rfl (yB aj.out (by kernel_rfl)) (by decide) (by decide) (fun K hK => ?_) (fun K hK => ?_)
          ·skip
           refine ja Try.func92 (by kernel_rfl) rfl #[.agg #[.int .u8 ck, .int .i64 cx, .int .i64 cy, .int .i64 cw, .int .i64 ch, .int .i64 ay, .slice A l.length cc], .slice Ap pq.length cp] (by rfl) rfl rfl (by (try simp only [List.map_toArray, List.map_cons, List.map_nil]); rfl) ?_
           refine (zf ⟨ck, ⟨cx, cy, cw, ch⟩, ay, l⟩ pq z HAT.out (S.out.tree _ (.head _)) (dY iC.out S.out (.head _) je.out).1 (dY iC.out S.out (.head _) je.out).2).mono ?_
           rintro e dS ⟨Az, cz, rfl, h1, hb⟩
           refine ⟨_, rfl, ?_⟩
           replace S := ae.mk (S.out.res h1 hb)
           clear h1 hb
           refine hK.out _ _ S.out.bQ (fun hHeld => ?_)
           clear hK K
           refine dR 46 ?_
           refine ak 5 41 (bA 11 63) aj ?_
           refine ak 6 47 (bA 11 127) aj ?_
           refine ak 7 48 (bA 11 255) aj ?_
           refine iL 8 (some 10) (bA 11 511) aj (fun K hK => ?_)
           refine kH ?hg (N := 10) ?hd (cs := #[.int .u8 0, .int .i64 0, .int .i64 0, .int .i64 0, .int .i64 0, .int .i64 0, .slice none 0 0]) (t := 26) ?hr ?_; (case hd => rfl); (case hg => rfl); (case hr => (go_simp; done))
           intro b10 hg gq hbox hb
           replace S := ae.mk (S.out.box hg hbox hb)
           clear hg hbox hb
           refine hK.out _ _ S.out.dV.bQ (fun hHeld => ?_)
           clear hK K
           refine dR 10 ?_
           exact mP (by simp only [jo, Act.put, List.setIfInBounds_toArray, List.set_cons_zero, List.set_cons_succ] <;> rfl) (lF (Az, cz, b10) _ S.out)
          ·skip
           refine kH ?hg (N := 10) ?hd (cs := #[.int .u8 0, .int .i64 0, .int .i64 0, .int .i64 0, .int .i64 0, .int .i64 0, .slice none 0 0]) (t := 26) ?hr ?_; (case hd => rfl); (case hg => rfl); (case hr => (go_simp; done))
           intro b10 hg gz hbox hb
           replace S := ae.mk (S.out.box hg hbox hb)
           clear hg hbox hb
           refine hK.out _ _ S.out.dV (fun hHeld => ?_)
           clear hK K
           refine dR 10 ?_
           refine iL 4 (some 46) (bA 11 287) aj (fun K hK => ?_)
           refine ja Try.func92 (by kernel_rfl) rfl #[.agg #[.int .u8 ck, .int .i64 cx, .int .i64 cy, .int .i64 cw, .int .i64 ch, .int .i64 ay, .slice A l.length cc], .slice Ap pq.length cp] (by rfl) rfl rfl (by (try simp only [List.map_toArray, List.map_cons, List.map_nil]); rfl) ?_
           refine (zf ⟨ck, ⟨cx, cy, cw, ch⟩, ay, l⟩ pq z HAT.out (S.out.tree _ (.head _)) (dY iC.out S.out aY je.out).1 (dY iC.out S.out aY je.out).2).mono ?_
           rintro e kG ⟨Az, cz, rfl, h1, hb⟩
           refine ⟨_, rfl, ?_⟩
           replace S := ae.mk (S.out.res h1 hb)
           clear h1 hb
           refine hK.out _ _ S.out.dV.bQ (fun hHeld => ?_)
           clear hK K
           refine dR 46 ?_
           refine ak 5 41 (bA 11 319) aj ?_
           refine ak 6 47 (bA 11 383) aj ?_
           refine ak 7 48 (bA 11 511) aj ?_
           exact mP (by simp only [jo, Act.put, List.setIfInBounds_toArray, List.set_cons_zero, List.set_cons_succ] <;> rfl) (lF (Az, cz, b10) _ S.out)
         rintro ⟨Az, cz, b10⟩ Sm S1
         simp only [jo, Act.put, List.setIfInBounds_toArray, List.set_cons_zero, List.set_cons_succ]
         replace S := ae.mk S1
         clear S1 hHeld
         have hHeld := S.out.dV.bQ
         refine lV 9 none (bA 11 1023) aj (fun K hK => ?_)
         refine lg 0 rfl 26 (.tmp 10) (.tmp 47) rfl #[.int .u8 z.f0, .int .i64 z.f1.f0, .int .i64 z.f1.f1, .int .i64 z.f1.f2, .int .i64 z.f1.f3, .int .i64 z.f2, .slice Az z.f3.length cz] (j := 0) (u := .agg #[.int .u8 z.f0, .int .i64 z.f1.f0, .int .i64 z.f1.f1, .int .i64 z.f1.f2, .int .i64 z.f1.f3, .int .i64 z.f2, .slice Az z.f3.length cz]) (bK := [.int .u8 z.f0, .int .i64 z.f1.f0, .int .i64 z.f1.f1, .int .i64 z.f1.f2, .int .i64 z.f1.f3, .int .i64 z.f2, .slice Az z.f3.length cz]) S.out (by rfl) rfl rfl rfl rfl (by kernel_rfl) (by simp [Value.oneCell']) (by simp) rfl ?_
         intro vV S1
         simp only [List.set_cons_zero, List.set_cons_succ] at S1
         replace S := ae.mk S1
         clear S1
         refine hK.out _ _ ?_
         clear hK K
         refine ak 10 11 (bA 11 2047) aj ?_
         refine jf (fJ aj.out (by kernel_rfl)) ?_
         clear hHeld
         obtain ⟨BB, BC, BD, BF, BG, BH, uD⟩ := St.dD S (.head _)
         go_wp2_with ((refine bG (some 51) Try.func88 S (uY (c := z) HA.out (S.out.tree _ (.head _))) ?_; clear S; intro wV S; clear BB BC BD BF BG BH uD))
         have hw := HW.out
         go_wp2
         go_roundg n
         case measure => exact Nat.lt_of_lt_of_le (Nat.lt_succ_self _) fM.out
         case rel => exact ⟨n, (by rw [hw]), ⟨by have := HN.out; omega⟩, Nat.le_refl _, HR, ⟨S.out.bQ.dV.xJ.xJ.xJ⟩⟩
        | true =>
         rw [ha, if_pos rfl] at hr
         cases hr
 ·intro p d z q ht h1 hf hfr hF
  have xB := ae.mk (show p.length ≤ 1000000 by have := hpl p hf; have := HZ.out; omega)
  have EM := ae.mk hf
  obtain ⟨x, hx, _⟩ := (Dx id _).1 _ (Nat.le_refl _) p hf
  have HX := ae.mk hx
  have HT := ae.mk ht
  have zl := ae.mk hF
  have Dl := ae.mk (show z.f3.length ≤ 1000000 by have h2 := J3 _ _ _ hF.at'; have h3 := bV z; have h4 := ig z.f3; have := HZ.out; omega)
  have HR := ae.mk (show ny (ui ax ⟨ck, ⟨cx, cy, cw, ch⟩, ay, l⟩ p) p.length = some d from hfr)
  clear ht hpl hf hx hfr hF
  obtain ⟨hxa, hxb⟩ := lY (a := ax) (b := 1) (by omega)
  obtain ⟨hya, hyb⟩ := lY (a := 2) (b := ax) (by omega)
  all_goals
   clear h1
   go_enter Try.func116, Try.ntmps116
   go_wp2_with (first | (refine boxS 3 _ 26 S ?_; clear S; intro b3 di S) | (refine boxS 6 _ 110 S ?_; clear S; intro b6 dS S; obtain ⟨bf, bg, bu, bz, bM, bU, bC⟩ := St.dD S aY) | (refine bG (some 14) Try.func84 S (mf HT.out (xn ⟨ck, ⟨cx, cy, cw, ch⟩, ay, l⟩ EC.out _ _ _ _ _ (S.out.tree _ (.head _)))) ?_; clear S; intro gq S; clear bf bg bu bz bM bU bC; obtain ⟨bf, bg, bu, bz, bM, bU, bC⟩ := St.dD S aY) | (refine GI (some 28) Try.func90 S (JJ id ⟨ck, ⟨cx, cy, cw, ch⟩, ay, l⟩ p EM.out HZ.out (S.out.tree _ (.head _))) ?_; clear S; intro Ap cp op gz S iC; clear bf bg bu bz bM bU bC))
   go_loopg [9] (p.length + 1) (fun gg v9 wr => ∃ n : Nat, v9 = .int .i64 ((n : Int) - 1) ∧ ae (n ≤ p.length) ∧ n ≤ gg ∧ ae (ny (ui ax ⟨ck, ⟨cx, cy, cw, ch⟩, ay, l⟩ p) n = some d) ∧ ae (St w P [((Value.slice Ap p.length cp).ownBlock, op), (some b6, .cells #[.slice none 0 0, .int .i64 0, .int .i64 0] 110 (0, 0)), (some b3, .cells #[.int .u8 ck, .int .i64 cx, .int .i64 cy, .int .i64 cw, .int .i64 ch, .int .i64 ay, .slice A l.length cc] 26 (0, 0))] [] [(.slice A l.length cc, l)] [] wr))
   case atStart => exact ⟨p.length, (by have := xB.out; congr 1; unfold wrap64; omega), ⟨Nat.le_refl _⟩, Nat.le_succ _, HR, S⟩
   case round =>
    clear S HR
    obtain ⟨n, rfl, HN, hgg, HR, S⟩ := hrel
    cases n with
    | zero =>
     have h := HR.out
     cases h
    | succ n =>
     have e1 : (((n + 1 : Nat) : Int) - 1) = (n : Int) := by omega
     rw [e1]
     have nH := ae.mk (show n < p.length from HN.out)
     have fM := ae.mk hgg
     have hw : wrap64 ((n : Int) - 1) = (n : Int) - 1 := by have := HN.out; have := xB.out; unfold wrap64; omega
     have HW := ae.mk hw
     have h0 : decide ((n : Int) ≥ 0) = true := decide_eq_true (Int.natCast_nonneg _)
     have wP : (0 : Int) ≤ (n : Int) := Int.natCast_nonneg _
     obtain ⟨z, sQ, hi0, hi1⟩ := ES p ⟨ck, ⟨cx, cy, cw, ch⟩, ay, l⟩ _ HX.out n nH.out
     obtain ⟨pq, hpq⟩ : ∃ pq, pq = p.take n := ⟨_, rfl⟩
     have hal : ui ax ⟨ck, ⟨cx, cy, cw, ch⟩, ay, l⟩ p n = fK ax z.f0 := by unfold ui; rw [sQ]
     rw [← hpq] at sQ
     have HAT := ae.mk sQ
     have je := ae.mk (And.intro hpq (Nat.le_of_lt nH.out))
     have hcut : ∀ W : World, (Instr.slice 41 (.slice Ap p.length cp) none (some (.int .i64 (n : Int))) none).run Try.prog W = .ok (.slice Ap pq.length cp) W := by
      intro W
      obtain ⟨i0, hi0, _, hsz, _⟩ := info_parts info3
      have h := Jp (P := Try.prog) 41 3 .i64 Try.underlying41 hi0 Ap p.length cp (n : Int) (Int.natCast_nonneg _) (by have := nH.out; omega) (H_ iC.out S.out (.head _)).2 W
      rw [Int.toNat_natCast, show n = pq.length by rw [hpq, List.length_take]; have := nH.out; omega] at h
      rw [show n = pq.length by rw [hpq, List.length_take]; have := nH.out; omega]
      exact h
     have HI0 := ae.mk hi0
     have HI1 := ae.mk hi1
     have hr := HR.out
     rw [ny, hal] at hr
     clear hw hgg e1 hal hpq sQ hi0 hi1
     cases ha : fK ax z.f0 with
     | false =>
      rw [ha, if_neg (by simp)] at hr
      replace HR := ae.mk hr
      have HA := ae.mk ha
      clear hr ha
      go_wp2
      refine gX (n := 11) (S := fun w' => St w _ _ _ _ _ w') (ds := [9]) (bA 11 0) (by kernel_rfl) rfl rfl (S.out.call (a_ (Below.refl _ _))) (fun hHeld => ?_); refine dZ qH.xw qH.sF (fun aj dE => ?_)
      replace S := ae.mk (S.out.call (a_ (Below.refl _ _)))
      generalize wr.drew = EK at S hHeld ⊢
      refine b_ 0 42 (bA 11 1) aj dE hHeld ?_ (hv := by intro w' hs_; have bf := (hs_.at dL 0).trans rfl; have bg := (hs_.at dL 1).trans rfl; have bu := (hs_.at dL 2).trans rfl; have bz := (hs_.at dL 3).trans rfl; have bM := (hs_.at dL 4).trans rfl; have bU := (hs_.at dL 5).trans rfl; have bC := (hs_.at dL 6).trans rfl; go_simp; with_reducible rfl)
      refine ak 1 43 (bA 11 3) aj ?_
      refine ak 2 44 (bA 11 7) aj ?_
      refine ak 3 45 (bA 11 15) aj ?_
      refine Bc (σ := Option Addr × Nat × Nat) 2 (bA 11 511) (fun s_ => [(46, .tuple #[.agg #[.int .u8 z.f0, .int .i64 z.f1.f0, .int .i64 z.f1.f1, .int .i64 z.f1.f2, .int .i64 z.f1.f3, .int .i64 z.f2, .slice s_.1 z.f3.length s_.2.1], .bool true]), (41, .tuple #[.agg #[.int .u8 z.f0, .int .i64 z.f1.f0, .int .i64 z.f1.f1, .int .i64 z.f1.f2, .int .i64 z.f1.f3, .int .i64 z.f2, .slice s_.1 z.f3.length s_.2.1], .bool true]), (47, .agg #[.int .u8 z.f0, .int .i64 z.f1.f0, .int .i64 z.f1.f1, .int .i64 z.f1.f2, .int .i64 z.f1.f3, .int .i64 z.f2, .slice s_.1 z.f3.length s_.2.1]), (48, .bool true), (10, .pointer (some ⟨s_.2.2, 0, none⟩))]) (fun s_ w' => St w P [(some s_.2.2, .cells #[.int .u8 0, .int .i64 0, .int .i64 0, .int .i64 0, .int .i64 0, .int .i64 0, .slice none 0 0] 26 (0, 0)), ((Value.slice Ap p.length cp).ownBlock, op), (some b6, .cells #[.slice none 0 0, .int .i64 0, .int .i64 0] 110 (0, 0)), (some b3, .cells #[.int .u8 ck, .int .i64 cx, .int .i64 cy, .int .i64 cw, .int .i64 ch, .int .i64 ay, .slice A l.length cc] 26 (0, 0))] [] [(.slice s_.1 z.f3.length s_.2.1, z.f3), (.slice A l.length cc, l)] [] w') ?_ ?_
      rotate_left
      ·intro lF
       refine Eu (i := 4) (j := 8) (Ni := some 46) (Nj := some 10) (bA 11 31) (bA 11 271) rfl rfl rfl rfl (yB aj.out (by kernel_rfl)) (by decide) (by decide) (fun K hK => ?_) (fun K hK => ?_)
       ·skip
        refine ja Try.func92 (by kernel_rfl) rfl #[.agg #[.int .u8 ck, .int .i64 cx, .int .i64 cy, .int .i64 cw, .int .i64 ch, .int .i64 ay, .slice A l.length cc], .slice Ap pq.length cp] (by rfl) rfl rfl (by (try simp only [List.map_toArray, List.map_cons, List.map_nil]); rfl) ?_
        refine (zf ⟨ck, ⟨cx, cy, cw, ch⟩, ay, l⟩ pq z HAT.out (S.out.tree _ (.head _)) (dY iC.out S.out (.head _) je.out).1 (dY iC.out S.out (.head _) je.out).2).mono ?_
        rintro e dS ⟨Az, cz, rfl, h1, hb⟩
        refine ⟨_, rfl, ?_⟩
        replace S := ae.mk (S.out.res h1 hb)
        clear h1 hb
        refine hK.out _ _ S.out.bQ (fun hHeld => ?_)
        clear hK K
        refine dR 46 ?_
        refine ak 5 41 (bA 11 63) aj ?_
        refine ak 6 47 (bA 11 127) aj ?_
        refine ak 7 48 (bA 11 255) aj ?_
        refine iL 8 (some 10) (bA 11 511) aj (fun K hK => ?_)
        refine kH ?hg (N := 10) ?hd (cs := #[.int .u8 0, .int .i64 0, .int .i64 0, .int .i64 0, .int .i64 0, .int .i64 0, .slice none 0 0]) (t := 26) ?hr ?_; (case hd => rfl); (case hg => rfl); (case hr => (go_simp; done))
        intro b10 hg gq hbox hb
        replace S := ae.mk (S.out.box hg hbox hb)
        clear hg hbox hb
        refine hK.out _ _ S.out.dV.bQ (fun hHeld => ?_)
        clear hK K
        refine dR 10 ?_
        exact mP (by simp only [jo, Act.put, List.setIfInBounds_toArray, List.set_cons_zero, List.set_cons_succ] <;> rfl) (lF (Az, cz, b10) _ S.out)
       ·skip
        refine kH ?hg (N := 10) ?hd (cs := #[.int .u8 0, .int .i64 0, .int .i64 0, .int .i64 0, .int .i64 0, .int .i64 0, .slice none 0 0]) (t := 26) ?hr ?_; (case hd => rfl); (case hg => rfl); (case hr => (go_simp; done))
        intro b10 hg gz hbox hb
        replace S := ae.mk (S.out.box hg hbox hb)
        clear hg hbox hb
        refine hK.out _ _ S.out.dV (fun hHeld => ?_)
        clear hK K
        refine dR 10 ?_
        refine iL 4 (some 46) (bA 11 287) aj (fun K hK => ?_)
        refine ja Try.func92 (by kernel_rfl) rfl #[.agg #[.int .u8 ck, .int .i64 cx, .int .i64 cy, .int .i64 cw, .int .i64 ch, .int .i64 ay, .slice A l.length cc], .slice Ap pq.length cp] (by rfl) rfl rfl (by (try simp only [List.map_toArray, List.map_cons, List.map_nil]); rfl) ?_
        refine (zf ⟨ck, ⟨cx, cy, cw, ch⟩, ay, l⟩ pq z HAT.out (S.out.tree _ (.head _)) (dY iC.out S.out aY je.out).1 (dY iC.out S.out aY je.out).2).mono ?_
        rintro e kG ⟨Az, cz, rfl, h1, hb⟩
        refine ⟨_, rfl, ?_⟩
        replace S := ae.mk (S.out.res h1 hb)
        clear h1 hb
        refine hK.out _ _ S.out.dV.bQ (fun hHeld => ?_)
        clear hK K
        refine dR 46 ?_
        refine ak 5 41 (bA 11 319) aj ?_
        refine ak 6 47 (bA 11 383) aj ?_
        refine ak 7 48 (bA 11 511) aj ?_
        exact mP (by simp only [jo, Act.put, List.setIfInBounds_toArray, List.set_cons_zero, List.set_cons_succ] <;> rfl) (lF (Az, cz, b10) _ S.out)
      rintro ⟨Az, cz, b10⟩ Sm S1
      simp only [jo, Act.put, List.setIfInBounds_toArray, List.set_cons_zero, List.set_cons_succ]
      replace S := ae.mk S1
      clear S1 hHeld
      have hHeld := S.out.dV.bQ
      refine lV 9 none (bA 11 1023) aj (fun K hK => ?_)
      refine lg 0 rfl 26 (.tmp 10) (.tmp 47) rfl #[.int .u8 z.f0, .int .i64 z.f1.f0, .int .i64 z.f1.f1, .int .i64 z.f1.f2, .int .i64 z.f1.f3, .int .i64 z.f2, .slice Az z.f3.length cz] (j := 0) (u := .agg #[.int .u8 z.f0, .int .i64 z.f1.f0, .int .i64 z.f1.f1, .int .i64 z.f1.f2, .int .i64 z.f1.f3, .int .i64 z.f2, .slice Az z.f3.length cz]) (bK := [.int .u8 z.f0, .int .i64 z.f1.f0, .int .i64 z.f1.f1, .int .i64 z.f1.f2, .int .i64 z.f1.f3, .int .i64 z.f2, .slice Az z.f3.length cz]) S.out (by rfl) rfl rfl rfl rfl (by kernel_rfl) (by simp [Value.oneCell']) (by simp) rfl ?_
      intro vV S1
      simp only [List.set_cons_zero, List.set_cons_succ] at S1
      replace S := ae.mk S1
      clear S1
      refine hK.out _ _ ?_
      clear hK K
      refine ak 10 11 (bA 11 2047) aj ?_
      refine jf (fJ aj.out (by kernel_rfl)) ?_
      clear hHeld
      obtain ⟨BB, BC, BD, BF, BG, BH, uD⟩ := St.dD S (.head _)
      go_wp2_with ((refine bG (some 51) Try.func88 S (uY (c := z) HA.out (S.out.tree _ (.head _))) ?_; clear S; intro wV S; clear BB BC BD BF BG BH uD))
      have hw := HW.out
      go_wp2
      go_roundg n
      case measure => exact Nat.lt_of_lt_of_le (Nat.lt_succ_self _) fM.out
      case rel => exact ⟨n, (by rw [hw]), ⟨by have := HN.out; omega⟩, Nat.le_refl _, HR, ⟨S.out.bQ.dV.xJ.xJ.xJ⟩⟩
     | true =>
      rw [ha, if_pos rfl] at hr
      injection hr with hr
      subst hr
      have hzz := HAT.out
      rw [je.out.1, zl.out.at'] at hzz
      injection hzz with hzz
      subst hzz
      have HA := ae.mk ha
      clear ha
      obtain ⟨AL, ek, _⟩ := Kd.jl (H_ iC.out S.out (.head _)).1 (n : Int) (Int.natCast_nonneg _) (by have := nH.out; omega)
      subst ek
      have SN := ae.mk (show (n : Int) < (p.length : Int) by have := nH.out; omega)
      have hnn : n < p.length := nH.out
      have hw2 : wrap64 ((z.f3.length : Int) - 1) = (z.f3.length : Int) - 1 := by have := zl.out.len; have := Dl.out; unfold wrap64; omega
      have HW3 := ae.mk (show wrap64 (rd p (n : Int) - 1) = rd p (n : Int) - 1 by have := HI0.out; have := HI1.out; have := Dl.out; unfold wrap64; omega)
      by_cases hq : rd p (n : Int) = (z.f3.length : Int) - 1
      case pos =>
       obtain ⟨hqa, V4, hqd⟩ := rU (a := rd p (n : Int)) (b := (z.f3.length : Int) - 1) (by omega)
       have HQV := ae.mk (show rd p (n : Int) - 1 = (q : Int) by have h := zl.out.hq; have := HI1.out; have := zl.out.len; rw [h]; unfold mn; split <;> omega)
       clear hq
       go_wp2
       refine gX (n := 11) (S := fun w' => St w _ _ _ _ _ w') (ds := [9]) (bA 11 0) (by kernel_rfl) rfl rfl (S.out.call (a_ (Below.refl _ _))) (fun hHeld => ?_); refine dZ qH.xw qH.sF (fun aj dE => ?_)
       replace S := ae.mk (S.out.call (a_ (Below.refl _ _)))
       generalize wr.drew = EK at S hHeld ⊢
       refine b_ 0 42 (bA 11 1) aj dE hHeld ?_ (hv := by intro w' hs_; have bf := (hs_.at dL 0).trans rfl; have bg := (hs_.at dL 1).trans rfl; have bu := (hs_.at dL 2).trans rfl; have bz := (hs_.at dL 3).trans rfl; have bM := (hs_.at dL 4).trans rfl; have bU := (hs_.at dL 5).trans rfl; have bC := (hs_.at dL 6).trans rfl; go_simp; with_reducible rfl)
       refine ak 1 43 (bA 11 3) aj ?_
       refine ak 2 44 (bA 11 7) aj ?_
       refine ak 3 45 (bA 11 15) aj ?_
       refine Bc (σ := Option Addr × Nat × Nat) 2 (bA 11 511) (fun s_ => [(46, .tuple #[.agg #[.int .u8 z.f0, .int .i64 z.f1.f0, .int .i64 z.f1.f1, .int .i64 z.f1.f2, .int .i64 z.f1.f3, .int .i64 z.f2, .slice s_.1 z.f3.length s_.2.1], .bool true]), (41, .tuple #[.agg #[.int .u8 z.f0, .int .i64 z.f1.f0, .int .i64 z.f1.f1, .int .i64 z.f1.f2, .int .i64 z.f1.f3, .int .i64 z.f2, .slice s_.1 z.f3.length s_.2.1], .bool true]), (47, .agg #[.int .u8 z.f0, .int .i64 z.f1.f0, .int .i64 z.f1.f1, .int .i64 z.f1.f2, .int .i64 z.f1.f3, .int .i64 z.f2, .slice s_.1 z.f3.length s_.2.1]), (48, .bool true), (10, .pointer (some ⟨s_.2.2, 0, none⟩))]) (fun s_ w' => St w P [(some s_.2.2, .cells #[.int .u8 0, .int .i64 0, .int .i64 0, .int .i64 0, .int .i64 0, .int .i64 0, .slice none 0 0] 26 (0, 0)), ((Value.slice (some AL) p.length cp).ownBlock, op), (some b6, .cells #[.slice none 0 0, .int .i64 0, .int .i64 0] 110 (0, 0)), (some b3, .cells #[.int .u8 ck, .int .i64 cx, .int .i64 cy, .int .i64 cw, .int .i64 ch, .int .i64 ay, .slice A l.length cc] 26 (0, 0))] [] [(.slice s_.1 z.f3.length s_.2.1, z.f3), (.slice A l.length cc, l)] [] w') ?_ ?_
       rotate_left
       ·intro lF
        refine Eu (i := 4) (j := 8) (Ni := some 46) (Nj := some 10) (bA 11 31) (bA 11 271) rfl rfl rfl rfl (yB aj.out (by kernel_rfl)) (by decide) (by decide) (fun K hK => ?_) (fun K hK => ?_)
        ·skip
         refine ja Try.func92 (by kernel_rfl) rfl #[.agg #[.int .u8 ck, .int .i64 cx, .int .i64 cy, .int .i64 cw, .int .i64 ch, .int .i64 ay, .slice A l.length cc], .slice (some AL) pq.length cp] (by rfl) rfl rfl (by (try simp only [List.map_toArray, List.map_cons, List.map_nil]); rfl) ?_
         refine (zf ⟨ck, ⟨cx, cy, cw, ch⟩, ay, l⟩ pq z HAT.out (S.out.tree _ (.head _)) (dY iC.out S.out (.head _) je.out).1 (dY iC.out S.out (.head _) je.out).2).mono ?_
         rintro e dS ⟨Az, cz, rfl, h1, hb⟩
         refine ⟨_, rfl, ?_⟩
         replace S := ae.mk (S.out.res h1 hb)
         clear h1 hb
         refine hK.out _ _ S.out.bQ (fun hHeld => ?_)
         clear hK K
         refine dR 46 ?_
         refine ak 5 41 (bA 11 63) aj ?_
         refine ak 6 47 (bA 11 127) aj ?_
         refine ak 7 48 (bA 11 255) aj ?_
         refine iL 8 (some 10) (bA 11 511) aj (fun K hK => ?_)
         refine kH ?hg (N := 10) ?hd (cs := #[.int .u8 0, .int .i64 0, .int .i64 0, .int .i64 0, .int .i64 0, .int .i64 0, .slice none 0 0]) (t := 26) ?hr ?_; (case hd => rfl); (case hg => rfl); (case hr => (go_simp; done))
         intro b10 hg gq hbox hb
         replace S := ae.mk (S.out.box hg hbox hb)
         clear hg hbox hb
         refine hK.out _ _ S.out.dV.bQ (fun hHeld => ?_)
         clear hK K
         refine dR 10 ?_
         exact mP (by simp only [jo, Act.put, List.setIfInBounds_toArray, List.set_cons_zero, List.set_cons_succ] <;> rfl) (lF (Az, cz, b10) _ S.out)
        ·skip
         refine kH ?hg (N := 10) ?hd (cs := #[.int .u8 0, .int .i64 0, .int .i64 0, .int .i64 0, .int .i64 0, .int .i64 0, .slice none 0 0]) (t := 26) ?hr ?_; (case hd => rfl); (case hg => rfl); (case hr => (go_simp; done))
         intro b10 hg gz hbox hb
         replace S := ae.mk (S.out.box hg hbox hb)
         clear hg hbox hb
         refine hK.out _ _ S.out.dV (fun hHeld => ?_)
         clear hK K
         refine dR 10 ?_
         refine iL 4 (some 46) (bA 11 287) aj (fun K hK => ?_)
         refine ja Try.func92 (by kernel_rfl) rfl #[.agg #[.int .u8 ck, .int .i64 cx, .int .i64 cy, .int .i64 cw, .int .i64 ch, .int .i64 ay, .slice A l.length cc], .slice (some AL) pq.length cp] (by rfl) rfl rfl (by (try simp only [List.map_toArray, List.map_cons, List.map_nil]); rfl) ?_
         refine (zf ⟨ck, ⟨cx, cy, cw, ch⟩, ay, l⟩ pq z HAT.out (S.out.tree _ (.head _)) (dY iC.out S.out aY je.out).1 (dY iC.out S.out aY je.out).2).mono ?_
         rintro e kG ⟨Az, cz, rfl, h1, hb⟩
         refine ⟨_, rfl, ?_⟩
         replace S := ae.mk (S.out.res h1 hb)
         clear h1 hb
         refine hK.out _ _ S.out.dV.bQ (fun hHeld => ?_)
         clear hK K
         refine dR 46 ?_
         refine ak 5 41 (bA 11 319) aj ?_
         refine ak 6 47 (bA 11 383) aj ?_
         refine ak 7 48 (bA 11 511) aj ?_
         exact mP (by simp only [jo, Act.put, List.setIfInBounds_toArray, List.set_cons_zero, List.set_cons_succ] <;> rfl) (lF (Az, cz, b10) _ S.out)
       rintro ⟨Az, cz, b10⟩ Sm S1
       simp only [jo, Act.put, List.setIfInBounds_toArray, List.set_cons_zero, List.set_cons_succ]
       replace S := ae.mk S1
       clear S1 hHeld
       have hHeld := S.out.dV.bQ
       refine lV 9 none (bA 11 1023) aj (fun K hK => ?_)
       refine lg 0 rfl 26 (.tmp 10) (.tmp 47) rfl #[.int .u8 z.f0, .int .i64 z.f1.f0, .int .i64 z.f1.f1, .int .i64 z.f1.f2, .int .i64 z.f1.f3, .int .i64 z.f2, .slice Az z.f3.length cz] (j := 0) (u := .agg #[.int .u8 z.f0, .int .i64 z.f1.f0, .int .i64 z.f1.f1, .int .i64 z.f1.f2, .int .i64 z.f1.f3, .int .i64 z.f2, .slice Az z.f3.length cz]) (bK := [.int .u8 z.f0, .int .i64 z.f1.f0, .int .i64 z.f1.f1, .int .i64 z.f1.f2, .int .i64 z.f1.f3, .int .i64 z.f2, .slice Az z.f3.length cz]) S.out (by rfl) rfl rfl rfl rfl (by kernel_rfl) (by simp [Value.oneCell']) (by simp) rfl ?_
       intro vV S1
       simp only [List.set_cons_zero, List.set_cons_succ] at S1
       replace S := ae.mk S1
       clear S1
       refine hK.out _ _ ?_
       clear hK K
       refine ak 10 11 (bA 11 2047) aj ?_
       refine jf (fJ aj.out (by kernel_rfl)) ?_
       clear hHeld
       obtain ⟨BB, BC, BD, BF, BG, BH, uD⟩ := St.dD S (.head _)
       go_wp2_with (first | (refine bG (some 51) Try.func88 S (uY (c := z) HA.out (S.out.tree _ (.head _))) ?_; clear S; intro wV S; clear BB BC BD BF BG BH uD; have xp := Bv iC.out (S.out.blk _ aY) n SN.out; have uD := (S.out.at (.head _) 6).trans rfl) | (refine Qd 110 6 69 #[.slice (some AL) pq.length cp, .int .i64 (wrap64 ((rd p (n : Int)) - 1)), .int .i64 0] 0 3 S ?_; clear S; intro Gn S; clear xp uD))
       refine bodyPost_ret (results_cell_row rfl _ _ b6 110 _ (0, 0) _ rfl (S.out.blk _ dL _ rfl) Try.underlying110 rfl (by kernel_rfl)) rfl ?_
       exact ⟨_, _, _, (by rw [je.out.1, ← HQV.out]; (try rw [HW3.out])), iC.out, (fun g hg => ⟨(S.out.new g (mem_keys aY hg)).1, S.out.blk _ aY g hg⟩), S.out.below⟩
      case neg =>
       obtain ⟨hqa, V4, hqd⟩ := eqF (a := rd p (n : Int)) (b := (z.f3.length : Int) - 1) (by omega)
       have HQV := ae.mk (show rd p (n : Int) = (q : Int) by have h := zl.out.hq; have := HI1.out; have := zl.out.len; rw [h]; unfold mn; split <;> omega)
       clear hq
       go_wp2
       refine gX (n := 11) (S := fun w' => St w _ _ _ _ _ w') (ds := [9]) (bA 11 0) (by kernel_rfl) rfl rfl (S.out.call (a_ (Below.refl _ _))) (fun hHeld => ?_); refine dZ qH.xw qH.sF (fun aj dE => ?_)
       replace S := ae.mk (S.out.call (a_ (Below.refl _ _)))
       generalize wr.drew = EK at S hHeld ⊢
       refine b_ 0 42 (bA 11 1) aj dE hHeld ?_ (hv := by intro w' hs_; have bf := (hs_.at dL 0).trans rfl; have bg := (hs_.at dL 1).trans rfl; have bu := (hs_.at dL 2).trans rfl; have bz := (hs_.at dL 3).trans rfl; have bM := (hs_.at dL 4).trans rfl; have bU := (hs_.at dL 5).trans rfl; have bC := (hs_.at dL 6).trans rfl; go_simp; with_reducible rfl)
       refine ak 1 43 (bA 11 3) aj ?_
       refine ak 2 44 (bA 11 7) aj ?_
       refine ak 3 45 (bA 11 15) aj ?_
       refine Bc (σ := Option Addr × Nat × Nat) 2 (bA 11 511) (fun s_ => [(46, .tuple #[.agg #[.int .u8 z.f0, .int .i64 z.f1.f0, .int .i64 z.f1.f1, .int .i64 z.f1.f2, .int .i64 z.f1.f3, .int .i64 z.f2, .slice s_.1 z.f3.length s_.2.1], .bool true]), (41, .tuple #[.agg #[.int .u8 z.f0, .int .i64 z.f1.f0, .int .i64 z.f1.f1, .int .i64 z.f1.f2, .int .i64 z.f1.f3, .int .i64 z.f2, .slice s_.1 z.f3.length s_.2.1], .bool true]), (47, .agg #[.int .u8 z.f0, .int .i64 z.f1.f0, .int .i64 z.f1.f1, .int .i64 z.f1.f2, .int .i64 z.f1.f3, .int .i64 z.f2, .slice s_.1 z.f3.length s_.2.1]), (48, .bool true), (10, .pointer (some ⟨s_.2.2, 0, none⟩))]) (fun s_ w' => St w P [(some s_.2.2, .cells #[.int .u8 0, .int .i64 0, .int .i64 0, .int .i64 0, .int .i64 0, .int .i64 0, .slice none 0 0] 26 (0, 0)), ((Value.slice (some AL) p.length cp).ownBlock, op), (some b6, .cells #[.slice none 0 0, .int .i64 0, .int .i64 0] 110 (0, 0)), (some b3, .cells #[.int .u8 ck, .int .i64 cx, .int .i64 cy, .int .i64 cw, .int .i64 ch, .int .i64 ay, .slice A l.length cc] 26 (0, 0))] [] [(.slice s_.1 z.f3.length s_.2.1, z.f3), (.slice A l.length cc, l)] [] w') ?_ ?_
       rotate_left
       ·intro lF
        refine Eu (i := 4) (j := 8) (Ni := some 46) (Nj := some 10) (bA 11 31) (bA 11 271) rfl rfl rfl rfl (yB aj.out (by kernel_rfl)) (by decide) (by decide) (fun K hK => ?_) (fun K hK => ?_)
        ·skip
         refine ja Try.func92 (by kernel_rfl) rfl #[.agg #[.int .u8 ck, .int .i64 cx, .int .i64 cy, .int .i64 cw, .int .i64 ch, .int .i64 ay, .slice A l.length cc], .slice (some AL) pq.length cp] (by rfl) rfl rfl (by (try simp only [List.map_toArray, List.map_cons, List.map_nil]); rfl) ?_
         refine (zf ⟨ck, ⟨cx, cy, cw, ch⟩, ay, l⟩ pq z HAT.out (S.out.tree _ (.head _)) (dY iC.out S.out (.head _) je.out).1 (dY iC.out S.out (.head _) je.out).2).mono ?_
         rintro e dS ⟨Az, cz, rfl, h1, hb⟩
         refine ⟨_, rfl, ?_⟩
         replace S := ae.mk (S.out.res h1 hb)
         clear h1 hb
         refine hK.out _ _ S.out.bQ (fun hHeld => ?_)
         clear hK K
         refine dR 46 ?_
         refine ak 5 41 (bA 11 63) aj ?_
         refine ak 6 47 (bA 11 127) aj ?_
         refine ak 7 48 (bA 11 255) aj ?_
         refine iL 8 (some 10) (bA 11 511) aj (fun K hK => ?_)
         refine kH ?hg (N := 10) ?hd (cs := #[.int .u8 0, .int .i64 0, .int .i64 0, .int .i64 0, .int .i64 0, .int .i64 0, .slice none 0 0]) (t := 26) ?hr ?_; (case hd => rfl); (case hg => rfl); (case hr => (go_simp; done))
         intro b10 hg gq hbox hb
         replace S := ae.mk (S.out.box hg hbox hb)
         clear hg hbox hb
         refine hK.out _ _ S.out.dV.bQ (fun hHeld => ?_)
         clear hK K
         refine dR 10 ?_
         exact mP (by simp only [jo, Act.put, List.setIfInBounds_toArray, List.set_cons_zero, List.set_cons_succ] <;> rfl) (lF (Az, cz, b10) _ S.out)
        ·skip
         refine kH ?hg (N := 10) ?hd (cs := #[.int .u8 0, .int .i64 0, .int .i64 0, .int .i64 0, .int .i64 0, .int .i64 0, .slice none 0 0]) (t := 26) ?hr ?_; (case hd => rfl); (case hg => rfl); (case hr => (go_simp; done))
         intro b10 hg gz hbox hb
         replace S := ae.mk (S.out.box hg hbox hb)
         clear hg hbox hb
         refine hK.out _ _ S.out.dV (fun hHeld => ?_)
         clear hK K
         refine dR 10 ?_
         refine iL 4 (some 46) (bA 11 287) aj (fun K hK => ?_)
         refine ja Try.func92 (by kernel_rfl) rfl #[.agg #[.int .u8 ck, .int .i64 cx, .int .i64 cy, .int .i64 cw, .int .i64 ch, .int .i64 ay, .slice A l.length cc], .slice (some AL) pq.length cp] (by rfl) rfl rfl (by (try simp only [List.map_toArray, List.map_cons, List.map_nil]); rfl) ?_
         refine (zf ⟨ck, ⟨cx, cy, cw, ch⟩, ay, l⟩ pq z HAT.out (S.out.tree _ (.head _)) (dY iC.out S.out aY je.out).1 (dY iC.out S.out aY je.out).2).mono ?_
         rintro e kG ⟨Az, cz, rfl, h1, hb⟩
         refine ⟨_, rfl, ?_⟩
         replace S := ae.mk (S.out.res h1 hb)
         clear h1 hb
         refine hK.out _ _ S.out.dV.bQ (fun hHeld => ?_)
         clear hK K
         refine dR 46 ?_
         refine ak 5 41 (bA 11 319) aj ?_
         refine ak 6 47 (bA 11 383) aj ?_
         refine ak 7 48 (bA 11 511) aj ?_
         exact mP (by simp only [jo, Act.put, List.setIfInBounds_toArray, List.set_cons_zero, List.set_cons_succ] <;> rfl) (lF (Az, cz, b10) _ S.out)
       rintro ⟨Az, cz, b10⟩ Sm S1
       simp only [jo, Act.put, List.setIfInBounds_toArray, List.set_cons_zero, List.set_cons_succ]
       replace S := ae.mk S1
       clear S1 hHeld
       have hHeld := S.out.dV.bQ
       refine lV 9 none (bA 11 1023) aj (fun K hK => ?_)
       refine lg 0 rfl 26 (.tmp 10) (.tmp 47) rfl #[.int .u8 z.f0, .int .i64 z.f1.f0, .int .i64 z.f1.f1, .int .i64 z.f1.f2, .int .i64 z.f1.f3, .int .i64 z.f2, .slice Az z.f3.length cz] (j := 0) (u := .agg #[.int .u8 z.f0, .int .i64 z.f1.f0, .int .i64 z.f1.f1, .int .i64 z.f1.f2, .int .i64 z.f1.f3, .int .i64 z.f2, .slice Az z.f3.length cz]) (bK := [.int .u8 z.f0, .int .i64 z.f1.f0, .int .i64 z.f1.f1, .int .i64 z.f1.f2, .int .i64 z.f1.f3, .int .i64 z.f2, .slice Az z.f3.length cz]) S.out (by rfl) rfl rfl rfl rfl (by kernel_rfl) (by simp [Value.oneCell']) (by simp) rfl ?_
       intro vV S1
       simp only [List.set_cons_zero, List.set_cons_succ] at S1
       replace S := ae.mk S1
       clear S1
       refine hK.out _ _ ?_
       clear hK K
       refine ak 10 11 (bA 11 2047) aj ?_
       refine jf (fJ aj.out (by kernel_rfl)) ?_
       clear hHeld
       obtain ⟨BB, BC, BD, BF, BG, BH, uD⟩ := St.dD S (.head _)
       go_wp2_with (first | (refine bG (some 51) Try.func88 S (uY (c := z) HA.out (S.out.tree _ (.head _))) ?_; clear S; intro wV S; clear BB BC BD BF BG BH uD; have xp := Bv iC.out (S.out.blk _ aY) n SN.out; have uD := (S.out.at (.head _) 6).trans rfl) | (refine Qd 110 6 69 #[.slice (some AL) pq.length cp, .int .i64 (rd p (n : Int)), .int .i64 0] 0 3 S ?_; clear S; intro Gn S; clear xp uD))
       refine bodyPost_ret (results_cell_row rfl _ _ b6 110 _ (0, 0) _ rfl (S.out.blk _ dL _ rfl) Try.underlying110 rfl (by kernel_rfl)) rfl ?_
       exact ⟨_, _, _, (by rw [je.out.1, ← HQV.out]), iC.out, (fun g hg => ⟨(S.out.new g (mem_keys aY hg)).1, S.out.blk _ aY g hg⟩), S.out.below⟩
end Go.Proofs.Ytfdmfgaiblfbhaa.P
namespace Go.Proofs.Ytfdmfgaiblfbhaa.P
open Go.RowKit Go.Proofs.ag.aV Go.Proofs.ag.bP Go.Proofs.ag.cO
theorem ahp (k : ai) (x : Int) : xq 2 k x = wrap64 (wrap64 (x + k.f1.f2) + 1) := by
 unfold xq
 rw [if_pos rfl]
 unfold wrap64
 omega
theorem ahq (k : ai) (y : Int) : xu 3 k y = wrap64 (wrap64 (y + k.f1.f3) + 1) := by
 unfold xu
 rw [if_neg (by decide), if_pos rfl]
 unfold wrap64
 omega
theorem af2 : ∀ (N : Nat) (c : ai), sz c ≤ N → N ≤ 1000000 → ∀ (P : Nat → Prop) (A : Option Addr) (cc : Nat) (x y : Int) (w : World), Kd.V k26 26 w w.heap.size P (.slice A c.f3.length cc) c.f3 →
  Calls Try.prog 67 #[.agg #[.int .u8 c.f0, .int .i64 c.f1.f0, .int .i64 c.f1.f1, .int .i64 c.f1.f2, .int .i64 c.f1.f3, .int .i64 c.f2, .slice A c.f3.length cc], .int .i64 x, .int .i64 y] w (yX w P (bD c x y)) := by
 intro N
 induction N with
 | zero => intro c h; rw [bV] at h; omega
 | succ N ih =>
  intro c hc hN P A cc x y w hv
  have hsz := bV c
  have S := ae.mk (St.start (ts := [(.slice A c.f3.length cc, c.f3)]) (b0 := w.heap.size) (w := w) (P := P) (fun t ht => by rw [List.mem_singleton.1 ht]; exact hv))
  rw [l9]
  have hlen := ig c.f3
  have gY := ae.mk (show c.f3.length ≤ 1000000 by omega)
  have IH := ae.mk fun (k : ai) (hk : k ∈ c.f3) P A cc x y w h => ih k (by have := Bi hk; omega) (by omega) P A cc x y w h
  obtain ⟨ck, ⟨cx, cy, cw, ch⟩, ay, l⟩ := c
  simp only [] at S IH gY ⊢
  clear ih hc hN hv hsz hlen
  go_enter Try.func67, Try.ntmps67
  go_wp2_with (first
   | (refine boxS 3 _ 26 S ?_; clear S; intro b3 di S)
   | (refine boxS 6 _ 26 S ?_; clear S; intro b6 dS S)
   | (refine uk 3 11 9 #[.int .u8 ck, .int .i64 x, .int .i64 cy, .int .i64 cw, .int .i64 ch, .int .i64 ay, .slice A l.length cc] 1 1 S ?_; clear S; intro gq S)
   | (refine uk 3 14 12 #[.int .u8 ck, .int .i64 x, .int .i64 y, .int .i64 cw, .int .i64 ch, .int .i64 ay, .slice A l.length cc] 2 1 S ?_; clear S; intro gz S)
   | (refine iI 15 rfl ?_; refine Jz (N := 15) rfl rfl S.out ?hr ?_; (case hr => first | (go_simp; done) | (go_simp; rfl)); intro SC Tm kG S1; replace S := ae.mk S1; clear S1; have bC := (S.out.at aY 6).trans rfl)
   | fail)
  clear bC
  go_loopg [7, 19, 1, 2] l.length (fun gg v7 v19 v1 v2 wr => ∃ (pre rest : List ai) (Ap : Option Addr) (cp : Nat), v7 = .slice Ap pre.length cp ∧ v19 = .int .i64 (pre.length : Int) ∧ v1 = .int .i64 (oW ck pre x) ∧ v2 = .int .i64 (oZ ck pre y) ∧ ae (pre ++ rest = l) ∧ rest.length ≤ gg ∧ ae (St w P [(some b6, .cells #[.int .u8 0, .int .i64 0, .int .i64 0, .int .i64 0, .int .i64 0, .int .i64 0, .slice none 0 0] 26 (0, 0)), (some b3, .cells #[.int .u8 ck, .int .i64 x, .int .i64 y, .int .i64 cw, .int .i64 ch, .int .i64 ay, .slice A l.length cc] 26 (0, 0))] [(.slice Ap pre.length cp, (jZ ck pre x y))] [(.slice A l.length cc, l)] [] wr))
  case atStart => exact ⟨[], l, _, _, rfl, rfl, rfl, rfl, ⟨rfl⟩, Nat.le_refl _, ⟨by rw [mZ]; exact S.out⟩⟩
  case round =>
   clear S
   obtain ⟨pre, rest, Ap, cp, rfl, rfl, rfl, rfl, HE, hgg, S⟩ := hrel
   cases rest with
   | nil =>
    have hE := HE.out
    rw [List.append_nil] at hE
    have hE2 := hE.symm
    subst hE2
    clear hE HE hgg
    have hlt : ¬ ((l.length : Int) < (l.length : Int)) := by omega
    go_wp2_with (first
     | (refine uk 24 61 60 #[.int .u8 ck, .int .i64 x, .int .i64 y, .int .i64 cw, .int .i64 ch, .int .i64 ay, .slice Ap l.length cp] 6 1 S ?_; clear S; intro tJ S; obtain ⟨bf, bg, bu, bz, bM, bU, bC⟩ := St.dD S aY)
     | (refine gy 26 6 62 #[.int .u8 ck, .int .i64 x, .int .i64 y, .int .i64 cw, .int .i64 ch, .int .i64 ay, .slice Ap l.length cp] 0 7 S ?_; clear S; intro vV S; clear bf bg bu bz bM bU bC)
     | fail)
    refine bodyPost_ret (results_cell_row rfl _ _ b6 26 _ (0, 0) _ rfl (S.out.blk _ (.head _) _ rfl) Try.underlying26 rfl (by kernel_rfl)) rfl ?_
    have hN := S.out.oV
    simp only [yX, lZ]
    exact ⟨_, _, rfl, hN, S.out.below⟩
   | cons k rest =>
    have hk : k ∈ l := by rw [← HE.out]; simp
    have hlt : (pre.length : Int) < (l.length : Int) := by rw [← HE.out, List.length_append, List.length_cons]; omega
    have hw1 : wrap64 ((pre.length : Int) + 1) = ((pre ++ [k]).length : Int) := by have := gY.out; rw [List.length_append, List.length_singleton]; unfold wrap64; omega
    have HW1 := ae.mk hw1
    have fM := ae.mk hgg
    have HK := ae.mk hk
    have yD := ae.mk (show pre.length ≤ 1000000 by have := gY.out; omega)
    obtain ⟨gK, ua, uc, ek, S1⟩ := S.out.elem (.head _) (pre.length : Int) (Int.natCast_nonneg _) hlt
    subst ek
    have hrd : aA l (pre.length : Int) = k := by rw [← HE.out]; exact kE pre k rest
    rw [hrd] at S1
    simp only [Int.toNat_natCast] at S1
    replace S := ae.mk S1
    clear S1 hrd hk hgg hw1
    by_cases h2 : ck = 2
    ·subst h2
     obtain ⟨gQ, iD, jd, iP, iQ, jL, jM⟩ := St.AQ S
     have bC := (S.out.at aY 6).trans rfl
     go_wp2_with (first
      | (refine wZ (some 30) Try.func67 S (IH.out k HK.out _ ua uc _ _ _ (eY (S.out.tree _ (.head _)))) ?_; clear S; intro A30 aee wV S; clear gQ iD jd iP iQ jL jM bC)
      | (refine iI 32 rfl ?_; at_builtin; go_loud (refine Gu (.tmp 22) (.tmp 31) rfl rfl Try.underlying24 info26 S.out (bD k (oW 2 pre x) (oZ 2 pre y)) (.head _) rfl (by first | (go_simp; done) | (go_simp; rfl)) (by have := yD.out; rw [lZ]; omega) ?_); intro Aq cq Gn S1; rw [← CY 2 k pre x y] at S1 ⊢; rw [lZ] at S1 ⊢; replace S := ae.mk S1; clear S1; have bf := (S.out.at aY 0).trans rfl; have bC := (S.out.at aY 6).trans rfl; have iP := (S.out.cell _ jB).1)
      | fail)
     clear bf bC iP
     have hw1 := HW1.out
     go_wp2
     go_roundg rest.length
     case measure => exact Nat.lt_of_lt_of_le (Nat.lt_succ_self _) fM.out
     case rel => exact ⟨pre ++ [k], rest, Aq, cq, (by simp), (by rw [hw1]), (by rw [vI]; rw [ahp]), (by rw [vJ]; simp [xu]), ⟨by rw [List.append_assoc]; exact HE.out⟩, Nat.le_refl _, ⟨S.out.bQ.bQ.aX.aX.aX.aX.aX.aX.aX⟩⟩
    ·have h2b : (ck == 2) = false := beq_eq_false_iff_ne.mpr h2
     have h2d : decide (ck = 2) = false := decide_eq_false h2
     by_cases h3 : ck = 3
     ·subst h3
      obtain ⟨gQ, iD, jd, iP, iQ, jL, jM⟩ := St.AQ S
      have bC := (S.out.at aY 6).trans rfl
      go_wp2_with (first
       | (refine wZ (some 30) Try.func67 S (IH.out k HK.out _ ua uc _ _ _ (eY (S.out.tree _ (.head _)))) ?_; clear S; intro A30 aee Aj S; clear gQ iD jd iP iQ jL jM bC)
       | (refine iI 32 rfl ?_; at_builtin; go_loud (refine Gu (.tmp 22) (.tmp 31) rfl rfl Try.underlying24 info26 S.out (bD k (oW 3 pre x) (oZ 3 pre y)) (.head _) rfl (by first | (go_simp; done) | (go_simp; rfl)) (by have := yD.out; rw [lZ]; omega) ?_); intro Aq cq Gm S1; rw [← CY 3 k pre x y] at S1 ⊢; rw [lZ] at S1 ⊢; replace S := ae.mk S1; clear S1; have bf := (S.out.at aY 0).trans rfl; have bC := (S.out.at aY 6).trans rfl; have iQ := (S.out.cell _ lK).1)
       | fail)
      clear bf bC iQ
      have hw1 := HW1.out
      go_wp2
      go_roundg rest.length
      case measure => exact Nat.lt_of_lt_of_le (Nat.lt_succ_self _) fM.out
      case rel => exact ⟨pre ++ [k], rest, Aq, cq, (by simp), (by rw [hw1]), (by rw [vI]; simp [xq]), (by rw [vJ]; rw [ahq]), ⟨by rw [List.append_assoc]; exact HE.out⟩, Nat.le_refl _, ⟨S.out.bQ.bQ.aX.aX.aX.aX.aX.aX.aX⟩⟩
     ·have h3b : (ck == 3) = false := beq_eq_false_iff_ne.mpr h3
      have h3d : decide (ck = 3) = false := decide_eq_false h3
      have H2 := ae.mk h2
      have H3 := ae.mk h3
      clear h2 h3
      obtain ⟨gQ, iD, jd, iP, iQ, jL, jM⟩ := St.AQ S
      have bC := (S.out.at aY 6).trans rfl
      go_wp2_with (first
       | (refine wZ (some 30) Try.func67 S (IH.out k HK.out _ ua uc _ _ _ (eY (S.out.tree _ (.head _)))) ?_; clear S; intro A30 aee Um S; clear gQ iD jd iP iQ jL jM bC)
       | (refine iI 32 rfl ?_; at_builtin; go_loud (refine Gu (.tmp 22) (.tmp 31) rfl rfl Try.underlying24 info26 S.out (bD k (oW ck pre x) (oZ ck pre y)) (.head _) rfl (by first | (go_simp; done) | (go_simp; rfl)) (by have := yD.out; rw [lZ]; omega) ?_); intro Aq cq Lu S1; rw [← CY ck k pre x y] at S1 ⊢; rw [lZ] at S1 ⊢; replace S := ae.mk S1; clear S1; have bf := (S.out.at aY 0).trans rfl)
       | fail)
      clear bf
      have hw1 := HW1.out
      go_wp2
      go_roundg rest.length
      case measure => exact Nat.lt_of_lt_of_le (Nat.lt_succ_self _) fM.out
      case rel => exact ⟨pre ++ [k], rest, Aq, cq, (by simp), (by rw [hw1]), (by rw [vI]; unfold xq; rw [if_neg H2.out]), (by rw [vJ]; unfold xu; rw [if_neg H2.out, if_neg H3.out]), ⟨by rw [List.append_assoc]; exact HE.out⟩, Nat.le_refl _, ⟨S.out.bQ.bQ.aX.aX.aX.aX.aX.aX.aX⟩⟩
end Go.Proofs.Ytfdmfgaiblfbhaa.P
namespace Go.Proofs.Ytfdmfgaiblfbhaa.Pure
open Go.RowKit Go.Proofs.Ytfdmfgaiblfbhaa.P Go.Proofs.ag.aV Go.Proofs.ag.bP Go.Proofs.ag.cO
theorem Yp {b : Int} {gs : List Int} {r : List Int × Bool} (h : DT b gs r) : r.2 = false → r.1 = [] := by
 rcases h with ⟨rfl, _⟩ | ⟨rfl, _⟩ | ⟨qs, rfl, _⟩ <;> simp
theorem af0 (b : Int) (gs : List Int) (hl : gs.length ≤ 100000) (h0 : -100000 ≤ b) (h1 : b ≤ 100000) (r : List Int × Bool) (h : DT b gs r) : Ev (fun k => nS.f k b gs) r := by
 unfold nS.f
 refine Ev.rH ⟨h0, h1, hl⟩ ?_
 rcases h with ⟨rfl, h⟩ | ⟨rfl, hne, hg, hb⟩ | ⟨qs, rfl, hg, hb, hf, hq, he, ho, hr⟩
 ·rcases h with h | h | ⟨h, h2⟩
  ·exact Ev.rH h (Ev.now _)
  ·refine Ev.tK ?_ (Ev.tK h (Ev.now _))
   rintro rfl
   exact h fun g hg => by cases hg
  ·by_cases hne : gs = []
   ·exact Ev.rH hne (Ev.now _)
   ·refine Ev.tK hne (Ev.rH h ?_)
    have ht := Ce gs fun g hg => (h g hg).1
    have := WS (-b).toNat (-b) (gs.map fun g => (g, 0)) rfl (JU h) (by rw [Hw]; omega) (by omega)
    rw [Int.neg_neg] at this
    exact this
 ·exact Ev.tK hne (Ev.rH hg (YU b gs hb hne))
 ·refine Ev.tK ?_ (Ev.rH hg hr)
  rintro rfl
  have : qs = [] := List.map_eq_nil_iff.1 hf
  subst this
  simp [outs] at ho
  omega
end Go.Proofs.Ytfdmfgaiblfbhaa.Pure
namespace Go.Proofs.Ytfdmfgaiblfbhaa.P
open Go.RowKit Go.Proofs.ag.aV Go.Proofs.ag.bP Go.Proofs.ag.cO
section
variable {W : World} {b : Nat} {P : Nat → Prop} {A : Option Addr} {cc : Nat}
theorem Lc (r : dO) (ax : Int) : Calls Try.prog 87 #[.agg #[.int .i64 r.f0, .int .i64 r.f1, .int .i64 r.f2, .int .i64 r.f3], .int .u8 ax] W fun e w' => e = .returned (.int .i64 (aW ax r)) ∧ Below W.heap.size W w' :=
 rO.calls r.f0 r.f1 r.f2 r.f3 ax _ W (Uc r ax)
theorem NF (c : ai) (ax : Int) (hz : sz c ≤ 1048576) (ht : dB c = true) (hV : Kd.V k26 26 W b P (.slice A c.f3.length cc) c.f3) :
  Calls Try.prog 152 #[.agg #[.int .u8 c.f0, .int .i64 c.f1.f0, .int .i64 c.f1.f1, .int .i64 c.f1.f2, .int .i64 c.f1.f3, .int .i64 c.f2, .slice A c.f3.length cc], .int .u8 ax] W fun e w' => e = .returned (.int .i64 (bZ ax c)) ∧ Below W.heap.size W w' := by
 exact ahk ax _ c (Nat.le_refl _) hz (pK (lL ht)) b P A cc W hV
theorem YS (c : ai) (ax : Int) (hV : Kd.V k26 26 W b P (.slice A c.f3.length cc) c.f3) :
  Calls Try.prog 88 #[.agg #[.int .u8 c.f0, .int .i64 c.f1.f0, .int .i64 c.f1.f1, .int .i64 c.f1.f2, .int .i64 c.f1.f3, .int .i64 c.f2, .slice A c.f3.length cc], .int .u8 ax] W fun e w' => e = .returned (.bool (fK ax c.f0)) ∧ Below W.heap.size W w' := by
 have h := Kd.kQ hV
 exact qF.calls _ _ _ _ _ _ A cc c.f3 ax _ W h.2.2 h.2.1 (Ho c ax)
theorem zF (c : ai) (x y : Int) (hz : sz c ≤ 1000000) (hV : Kd.V k26 26 W b P (.slice A c.f3.length cc) c.f3) :
  Calls Try.prog 67 #[.agg #[.int .u8 c.f0, .int .i64 c.f1.f0, .int .i64 c.f1.f1, .int .i64 c.f1.f2, .int .i64 c.f1.f3, .int .i64 c.f2, .slice A c.f3.length cc], .int .i64 x, .int .i64 y] W (yX W P (bD c x y)) := by
 exact af2 1000000 c hz (Nat.le_refl _) P A cc x y W (eY hV)
theorem WX (b : Int) (gs : List Int) (hl : gs.length ≤ 100000) (h0 : -100000 ≤ b) (h1 : b ≤ 100000) (hC : Kd.C (Kd.int .i64) W A gs.length gs) (hc : gs.length ≤ cc) :
  Calls Try.prog 50 #[.int .i64 b, .slice A gs.length cc] W fun e w' => ∃ A' c', e = .returned (.tuple #[.slice A' (oz b gs).1.length c', .bool (oz b gs).2]) ∧ (Kd.int .i64).R 3 w' W.heap.size (fun _ => True) (.slice A' (oz b gs).1.length c') (oz b gs).1 ∧ Below W.heap.size W w' := by
 obtain ⟨k, hk⟩ := (Pure.af0 b gs hl h0 h1 _ (zH b gs hl (by omega) (by omega)).1).rounds
 exact (nS.calls k b A cc gs _ _ W hC hc hk).mono (fun e w' ⟨v, he, hR, hB⟩ => by
  obtain ⟨A', c', rfl⟩ := Kd.iG hR
  exact ⟨A', c', he, hR, hB⟩)
end
theorem af9 {b : Int} {gs : List Int} (hl : gs.length ≤ 100000) (h0 : -2147483647 ≤ b) (h1 : b ≤ 2147483647) (h : (oz b gs).2 = false) : (oz b gs).1 = [] := Pure.Yp (zH b gs hl h0 h1).1 h
theorem Xf {b : Int} {gs : List Int} (hl : gs.length ≤ 100000) (h0 : -100000 ≤ b) (h1 : b ≤ 100000) (hg : ∀ g, g ∈ gs → g ≤ 100000) : ∀ x, x ∈ (oz b gs).1 → -100000 ≤ x ∧ x ≤ 100000 := by
 intro x hx
 rcases (zH b gs hl (by omega) (by omega)).1 with ⟨e, _⟩ | ⟨e, hne, _, hb⟩ | ⟨qs, e, _, _, hq, hgd, _⟩
 ·rw [e] at hx; cases hx
 ·rw [e] at hx
  simp only [moreL, List.mem_map, List.mem_range] at hx
  obtain ⟨i, hi, rfl⟩ := hx
  have hn : (0 : Int) < (gs.length : Int) := by have := List.length_pos_iff.2 hne; omega
  unfold lq
  have hd : 0 ≤ b / (gs.length : Int) := Int.ediv_nonneg hb (by omega)
  have hm : 0 ≤ b % (gs.length : Int) := Int.emod_nonneg _ (by omega)
  have hdm := Int.mul_ediv_add_emod b (gs.length : Int)
  have hle : b / (gs.length : Int) ≤ (gs.length : Int) * (b / (gs.length : Int)) := by
   have := Int.mul_le_mul_of_nonneg_right (show (1 : Int) ≤ (gs.length : Int) by omega) hd
   omega
  split <;> omega
 ·rw [e] at hx
  simp only [List.mem_map] at hx
  obtain ⟨p, hp, rfl⟩ := hx
  have h2 := hgd p hp
  have h3 := hg p.1 (by rw [← hq]; exact List.mem_map_of_mem hp)
  omega
section
variable {Pr : Program} {ops : Array Oper} {rest : List Oper} {op : Oper} {a : Act} {Q : Exit → Act → World → Prop} {w W : World} {P : Nat → Prop} {bs : List (Option Nat × Obj)} {ow : List (Value × List ai)} {ts : List (Value × List ai)} {ro : List (Addr × Value)}
theorem RG {N : Tmp} (hd : op.dst = some N) (hgd : op.guard = none) (S : St w P bs ow ts ro W) (hrun : (execOp a.eval op).run Pr W = .ok (.value (.slice (some ⟨W.heap.size, 0, none⟩) 0 0)) (W.alloc (.cells #[] 3)))
  (h : ∀ A c o w1, St w P (((Value.slice A 0 c).ownBlock, o) :: bs) ow ts ro w1 → IR w.heap.size (.slice A 0 c) [] o → wpList Pr ops Q rest (a.put op.dst (.slice A 0 c)) w1) : wpList Pr ops Q (op :: rest) a W :=
 Kd.wW (Kd.int .i64) (w0 := W) W.heap.size 3 hgd hd (xs := ([] : List Int)) (inner := []) (ok := fun _ => True) (gU := fun _ => True) hrun (dm.none _ _) (fun _ hk => hk) trivial (Below.refl _ _) (Nat.le_refl _) (by simp) (fun v1 w1 hR hb hg _ => by
  obtain ⟨A, c, rfl⟩ := Kd.iG hR
  obtain ⟨o, S1, HI⟩ := S.Ql hR (rD hg)
  exact h A c o w1 S1 HI)
end
def zM.T1 : Bool × List (List Nat × List Nat) := (true, [([], []), ([0], [0]), ([], []), ([1, 2], [1, 2]), ([3], [3]), ([4], [4]), ([], []), ([5, 6], [5, 6]), ([], []), ([8], [8]), ([], []), ([9, 10], [9, 10]), ([11], [11]), ([], []), ([12, 13, 7], [12, 13]), ([7, 14], [7, 14]), ([15, 14, 0, 1, 2, 3, 4, 5, 6, 7, 8, 9, 10, 11, 12, 13, 14, 15], [15])])
def zM.B1 : List Nat := [0, 1, 0, 7, 15, 31, 0, 127, 0, 256, 0, 1792, 3840, 0, 16383, 32767, 65535]
theorem zM.Y6 : iM .any (opsOf Try.f160 1) = zM.T1 := by kernel_rfl
theorem zM.Td : gZ zM.T1.2 zM.B1 = true := by kernel_rfl
theorem o7 (c : ai) (hz : dU c.f3 ≤ 1000000) (i : Nat) (hi : i < c.f3.length) (ax : Int) (hax : ax = 1 ∨ ax = 2) (ht : dB (kd c.f3 i) = true) (b : Nat) (P : Nat → Prop) (A : Option Addr) (cc : Nat) (w : World) (hv : Kd.V k26 26 w b P (.slice A c.f3.length cc) c.f3) :
  Calls Try.prog 160 #[.agg #[.int .u8 c.f0, .int .i64 c.f1.f0, .int .i64 c.f1.f1, .int .i64 c.f1.f2, .int .i64 c.f1.f3, .int .i64 c.f2, .slice A c.f3.length cc], .int .i64 (i : Int), .int .u8 ax] w fun e w' => e = .returned (.int .i64 (aH ax (kd c.f3 i))) ∧ Below w.heap.size w w' := by
 have S := ae.mk (St.start (ts := [(.slice A c.f3.length cc, c.f3)]) (b0 := w.heap.size) (w := w) (P := P) (fun t ht => by rw [List.mem_singleton.1 ht]; exact eY hv))
 have hg : aH ax (kd c.f3 i) = wrap64 (aW ax (kd c.f3 i).f1 - bZ ax (kd c.f3 i)) := by unfold aH; rw [if_pos ⟨hax, ht⟩]
 rw [hg]
 have ik := ae.mk (show sz (kd c.f3 i) ≤ 1048576 by have := tC (jP hi); omega)
 have UD := ae.mk ht
 have hi0 : (0 : Int) ≤ (i : Int) := Int.natCast_nonneg _
 have hi1 : (i : Int) < (c.f3.length : Int) := by omega
 obtain ⟨gK, ua, uc, ek, S1⟩ := S.out.elem (.head _) (i : Int) hi0 hi1
 subst ek
 rw [Ju] at S1
 simp only [Int.toNat_natCast] at S1
 generalize kd c.f3 i = k at S1 ik UD ⊢
 replace S := ae.mk S1
 clear S1 hz hax ht hv hg
 obtain ⟨ck, ⟨cx, cy, cw, ch⟩, ay, l⟩ := c
 simp only [] at S hi hi1 ⊢
 go_enter Try.func160, Try.ntmps160
 go_wp2_with (first
  | (refine boxS 3 _ 26 S ?_; clear S; intro b3 di S)
  | fail)
 refine gX (n := 17) (S := fun w' => St w _ _ _ _ _ w') (ds := []) (bA 17 0) (by kernel_rfl) rfl rfl (S.out.call (a_ (Below.refl _ _))) (fun hHeld => ?_); refine dZ zM.Y6 zM.Td (fun aj dE => ?_)
 replace S := ae.mk (S.out.call (a_ (Below.refl _ _)))
 generalize di.drew = wd2 at S hHeld ⊢
 refine ak 0 7 (bA 17 1) aj ?_
 refine b_ 1 8 (bA 17 3) aj dE hHeld ?_ (hv := by intro w' hs_; have bC := (hs_.at (.head _) 6).trans rfl; go_simp; with_reducible rfl)
 refine ak 2 9 (bA 17 7) aj ?_
 refine ak 3 10 (bA 17 15) aj ?_
 refine ak 4 11 (bA 17 31) aj ?_
 refine b_ 5 12 (bA 17 63) aj dE hHeld ?_ (hv := by intro w' hs_; have iD := (hs_.cell _ aY).1; have jd := (hs_.cell _ dL).1; have iP := (hs_.cell _ jB).1; have iQ := (hs_.cell _ lK).1; go_simp; with_reducible rfl)
 refine ak 6 13 (bA 17 127) aj ?_
 refine ak 8 15 (bA 17 383) aj ?_
 refine b_ 9 16 (bA 17 895) aj dE hHeld ?_ (hv := by intro w' hs_; have bC := (hs_.at (.head _) 6).trans rfl; go_simp; with_reducible rfl)
 refine ak 10 17 (bA 17 1919) aj ?_
 refine ak 11 18 (bA 17 3967) aj ?_
 refine b_ 12 19 (bA 17 8063) aj dE hHeld ?_ (hv := by intro w' hs_; have gQ := (hs_.cell _ (.head _)).1; have iD := (hs_.cell _ aY).1; have jd := (hs_.cell _ dL).1; have iP := (hs_.cell _ jB).1; have iQ := (hs_.cell _ lK).1; have jL := (hs_.cell _ qB).1; have jM := (hs_.cell _ zy).1; go_simp; with_reducible rfl)
 refine ak 13 20 (bA 17 16255) aj ?_
 refine iL 7 (some 14) (bA 17 16383) aj (fun K hK => ?_)
 refine wY Try.func87 #[.agg #[.int .i64 k.f1.f0, .int .i64 k.f1.f1, .int .i64 k.f1.f2, .int .i64 k.f1.f3], .int .u8 ax] ?_
 refine (Lc k.f1 ax).mono ?_
 rintro e gq ⟨rfl, hb⟩
 refine ⟨_, rfl, ?_⟩
 replace S := ae.mk (S.out.call hb)
 clear hb
 refine hK.out _ _ S.out (fun hHeld => ?_)
 clear hK K
 refine dR 14 ?_
 refine iL 14 (some 21) (bA 17 32767) aj (fun K hK => ?_)
 refine wY Try.func152 #[.agg #[.int .u8 k.f0, .int .i64 k.f1.f0, .int .i64 k.f1.f1, .int .i64 k.f1.f2, .int .i64 k.f1.f3, .int .i64 k.f2, .slice ua k.f3.length uc], .int .u8 ax] ?_
 refine (NF k ax ik.out UD.out (S.out.tree _ (.head _))).mono ?_
 rintro e gz ⟨rfl, hb⟩
 refine ⟨_, rfl, ?_⟩
 replace S := ae.mk (S.out.call hb)
 clear hb
 refine hK.out _ _ S.out (fun hHeld => ?_)
 clear hK K
 refine dR 21 ?_
 refine ak 15 22 (bA 17 65535) aj ?_
 refine ak 16 6 (bA 17 131071) aj ?_
 refine jf (fJ aj.out (by kernel_rfl)) ?_
 clear hHeld
 go_wp2
 go_ret
 exact ⟨rfl, S.out.below⟩
theorem rW (c : ai) (hz : dU c.f3 ≤ 1000000) (q : Nat) (m : Bool) (hq : q + 1 < c.f3.length) (ax : Int) (hax : ax = 1 ∨ ax = 2) (ht : ∀ j, j < c.f3.length → dB (kd c.f3 j) = true) (b : Nat) (P : Nat → Prop) (A : Option Addr) (cc : Nat) (w : World) (hv : Kd.V k26 26 w b P (.slice A c.f3.length cc) c.f3) :
  Calls Try.prog 159 #[.agg #[.int .u8 c.f0, .int .i64 c.f1.f0, .int .i64 c.f1.f1, .int .i64 c.f1.f2, .int .i64 c.f1.f3, .int .i64 c.f2, .slice A c.f3.length cc], .int .i64 (q : Int), .int .u8 ax, .bool m] w fun e w' => e = .returned (.int .i64 (KU (jY ax q m c.f3))) ∧ Below w.heap.size w w' := by
 have S := ae.mk (St.start (ts := [(.slice A c.f3.length cc, c.f3)]) (b0 := w.heap.size) (w := w) (P := P) (fun t ht => by rw [List.mem_singleton.1 ht]; exact eY hv))
 obtain ⟨ck, ⟨cx, cy, cw, ch⟩, ay, l⟩ := c
 simp only [] at S hz hq ht ⊢
 have HZ := ae.mk hz
 have jh := ae.mk hax
 have QN := ae.mk ht
 have gY := ae.mk (show l.length ≤ 1000000 by have := ig l; omega)
 have HQ := ae.mk hq
 have Jc := ae.mk (show wrap64 ((q : Int) + 1) = ((q + 1 : Nat) : Int) by have := ig l; unfold wrap64; omega)
 have HQ2 := ae.mk (show wrap64 ((q : Int) - 1) = (q : Int) - 1 by have := ig l; unfold wrap64; omega)
 generalize hR : jY ax q m l = R
 unfold jY at hR
 clear hz hax ht hq hv
 cases m with
 | true =>
  simp only [if_true] at hR
  have HR := ae.mk hR
  clear hR
  go_enter Try.func159, Try.ntmps159
  go_wp2_with ((refine boxS 4 _ 26 S ?_; clear S; intro b4 di S))
  go_loopg [9] l.length (fun gg v9 wr => ∃ i : Nat, v9 = .int .i64 (i : Int) ∧ ae (i ≤ l.length) ∧ l.length - i ≤ gg ∧ ae ((match EZ (mQ ax l) (l.length - i) i with | some i => some i | none => ny (mQ ax l) q) = R) ∧ ae (St w P [(some b4, .cells #[.int .u8 ck, .int .i64 cx, .int .i64 cy, .int .i64 cw, .int .i64 ch, .int .i64 ay, .slice A l.length cc] 26 (0, 0))] [] [(.slice A l.length cc, l)] [] wr))
  case atStart => exact ⟨q + 1, (by rw [Jc.out]), ⟨by have := HQ.out; omega⟩, by omega, HR, S⟩
  case round =>
   clear S HR
   obtain ⟨i, rfl, HI, hgg, HR, S⟩ := hrel
   by_cases hlt : i < l.length
   case pos =>
    have g_ := ae.mk hlt
    have hlz : (i : Int) < (l.length : Int) := by omega
    have fM := ae.mk hgg
    have hw : wrap64 ((i : Int) + 1) = ((i + 1 : Nat) : Int) := by have := gY.out; unfold wrap64; omega
    have HW := ae.mk hw
    have hr := HR.out
    rw [show l.length - i = (l.length - (i + 1)) + 1 by omega, EZ] at hr
    clear hw hgg
    by_cases hp : 0 < aH ax (kd l i)
    case pos =>
     rw [if_pos (by unfold mQ; simp; omega)] at hr
     replace HR := ae.mk hr
     obtain ⟨hga, hgb⟩ := nz (a := 0) (b := aH ax (kd l i)) (by omega)
     clear hr hp
     obtain ⟨d_, dn, dA, ed, eF, eG, dM⟩ := St.dD S (.head _)
     go_wp2_with ((refine bG (some 24) Try.func160 S (o7 ⟨ck, ⟨cx, cy, cw, ch⟩, ay, l⟩ HZ.out i g_.out ax jh.out (QN.out _ g_.out) _ _ _ _ _ (S.out.tree _ (.head _))) ?_; clear S; intro di S; clear d_ dn dA ed eF eG dM))
     go_ret
     rw [← HR.out]
     exact ⟨rfl, S.out.below⟩
    case neg =>
     rw [if_neg (by unfold mQ; simp; omega)] at hr
     replace HR := ae.mk hr
     obtain ⟨hga, hgb⟩ := lY (a := 0) (b := aH ax (kd l i)) (by omega)
     clear hr hp
     obtain ⟨d_, dn, dA, ed, eF, eG, dM⟩ := St.dD S (.head _)
     go_wp2_with ((refine bG (some 24) Try.func160 S (o7 ⟨ck, ⟨cx, cy, cw, ch⟩, ay, l⟩ HZ.out i g_.out ax jh.out (QN.out _ g_.out) _ _ _ _ _ (S.out.tree _ (.head _))) ?_; clear S; intro di S; clear d_ dn dA ed eF eG dM))
     have hw := HW.out
     go_wp2
     go_roundg (l.length - (i + 1))
     case measure => have := fM.out; have := g_.out; omega
     case rel => exact ⟨i + 1, (by rw [hw]), ⟨by have := g_.out; omega⟩, Nat.le_refl _, HR, S⟩
   case neg =>
    have hlz : ¬ ((i : Int) < (l.length : Int)) := by omega
    have hr := HR.out
    rw [show l.length - i = 0 by omega, EZ] at hr
    simp only [] at hr
    replace HR := ae.mk hr
    clear hr hgg
    have dM := (S.out.at (.head _) 6).trans rfl
    go_wp2
    clear dM
    clear hlt hlz
    go_loopg [10] (q + 1) (fun gg v10 wr => ∃ n : Nat, v10 = .int .i64 ((n : Int) - 1) ∧ ae (n ≤ q + 1) ∧ n ≤ gg ∧ ae (ny (mQ ax l) n = R) ∧ ae (St w P [(some b4, .cells #[.int .u8 ck, .int .i64 cx, .int .i64 cy, .int .i64 cw, .int .i64 ch, .int .i64 ay, .slice A l.length cc] 26 (0, 0))] [] [(.slice A l.length cc, l)] [] wr))
    case atStart => exact ⟨q, (by rw [HQ2.out]), ⟨by omega⟩, by omega, HR, S⟩
    case round =>
     clear S HR
     obtain ⟨n, rfl, HN, hgg, HR, S⟩ := hrel
     cases n with
     | zero =>
      have hr := HR.out
      rw [ny] at hr
      replace HR := ae.mk hr
      clear hr
      go_wp2
      go_ret
      rw [← HR.out]
      exact ⟨rfl, S.out.below⟩
     | succ n =>
      have e1 : (((n + 1 : Nat) : Int) - 1) = (n : Int) := by omega
      rw [e1]
      have g_ := ae.mk (show n < l.length by have := HN.out; have := HQ.out; omega)
      have fM := ae.mk hgg
      have hw : wrap64 ((n : Int) - 1) = (n : Int) - 1 := by have := HN.out; have := HQ.out; have := gY.out; unfold wrap64; omega
      have HW := ae.mk hw
      have h0 : decide ((n : Int) ≥ 0) = true := decide_eq_true (Int.natCast_nonneg _)
      have wP : (0 : Int) ≤ (n : Int) := Int.natCast_nonneg _
      have hr := HR.out
      clear hw hgg e1
      by_cases hp : 0 < aH ax (kd l n)
      case pos =>
       rw [ny, if_pos (by unfold mQ; simp; omega)] at hr
       replace HR := ae.mk hr
       obtain ⟨hga, hgb⟩ := nz (a := 0) (b := aH ax (kd l n)) (by omega)
       clear hr hp
       obtain ⟨d_, dn, dA, ed, eF, eG, dM⟩ := St.dD S (.head _)
       go_wp2_with ((refine bG (some 37) Try.func160 S (o7 ⟨ck, ⟨cx, cy, cw, ch⟩, ay, l⟩ HZ.out n g_.out ax jh.out (QN.out _ g_.out) _ _ _ _ _ (S.out.tree _ (.head _))) ?_; clear S; intro di S; clear d_ dn dA ed eF eG dM))
       go_ret
       rw [← HR.out]
       exact ⟨rfl, S.out.below⟩
      case neg =>
       rw [ny, if_neg (by unfold mQ; simp; omega)] at hr
       replace HR := ae.mk hr
       obtain ⟨hga, hgb⟩ := lY (a := 0) (b := aH ax (kd l n)) (by omega)
       clear hr hp
       obtain ⟨d_, dn, dA, ed, eF, eG, dM⟩ := St.dD S (.head _)
       go_wp2_with ((refine bG (some 37) Try.func160 S (o7 ⟨ck, ⟨cx, cy, cw, ch⟩, ay, l⟩ HZ.out n g_.out ax jh.out (QN.out _ g_.out) _ _ _ _ _ (S.out.tree _ (.head _))) ?_; clear S; intro di S; clear d_ dn dA ed eF eG dM))
       have hw := HW.out
       go_wp2
       go_roundg n
       case measure => exact Nat.lt_of_lt_of_le (Nat.lt_succ_self _) fM.out
       case rel => exact ⟨n, (by rw [hw]), ⟨by have := HN.out; omega⟩, Nat.le_refl _, HR, S⟩
 | false =>
  simp only [Bool.false_eq_true, if_false] at hR
  have HR := ae.mk hR
  clear hR
  go_enter Try.func159, Try.ntmps159
  go_wp2_with ((refine boxS 4 _ 26 S ?_; clear S; intro b4 di S))
  go_loopg [10] (q + 1) (fun gg v10 wr => ∃ n : Nat, v10 = .int .i64 ((n : Int) - 1) ∧ ae (n ≤ q + 1) ∧ n ≤ gg ∧ ae (ny (mQ ax l) n = R) ∧ ae (St w P [(some b4, .cells #[.int .u8 ck, .int .i64 cx, .int .i64 cy, .int .i64 cw, .int .i64 ch, .int .i64 ay, .slice A l.length cc] 26 (0, 0))] [] [(.slice A l.length cc, l)] [] wr))
  case atStart => exact ⟨(q + 1), (by congr 1; omega), ⟨by omega⟩, by omega, HR, S⟩
  case round =>
   clear S HR
   obtain ⟨n, rfl, HN, hgg, HR, S⟩ := hrel
   cases n with
   | zero =>
    have hr := HR.out
    rw [ny] at hr
    replace HR := ae.mk hr
    clear hr
    go_wp2
    go_ret
    rw [← HR.out]
    exact ⟨rfl, S.out.below⟩
   | succ n =>
    have e1 : (((n + 1 : Nat) : Int) - 1) = (n : Int) := by omega
    rw [e1]
    have g_ := ae.mk (show n < l.length by have := HN.out; have := HQ.out; omega)
    have fM := ae.mk hgg
    have hw : wrap64 ((n : Int) - 1) = (n : Int) - 1 := by have := HN.out; have := HQ.out; have := gY.out; unfold wrap64; omega
    have HW := ae.mk hw
    have h0 : decide ((n : Int) ≥ 0) = true := decide_eq_true (Int.natCast_nonneg _)
    have wP : (0 : Int) ≤ (n : Int) := Int.natCast_nonneg _
    have hr := HR.out
    clear hw hgg e1
    by_cases hp : 0 < aH ax (kd l n)
    case pos =>
     rw [ny, if_pos (by unfold mQ; simp; omega)] at hr
     replace HR := ae.mk hr
     obtain ⟨hga, hgb⟩ := nz (a := 0) (b := aH ax (kd l n)) (by omega)
     clear hr hp
     obtain ⟨d_, dn, dA, ed, eF, eG, dM⟩ := St.dD S (.head _)
     go_wp2_with ((refine bG (some 37) Try.func160 S (o7 ⟨ck, ⟨cx, cy, cw, ch⟩, ay, l⟩ HZ.out n g_.out ax jh.out (QN.out _ g_.out) _ _ _ _ _ (S.out.tree _ (.head _))) ?_; clear S; intro di S; clear d_ dn dA ed eF eG dM))
     go_ret
     rw [← HR.out]
     exact ⟨rfl, S.out.below⟩
    case neg =>
     rw [ny, if_neg (by unfold mQ; simp; omega)] at hr
     replace HR := ae.mk hr
     obtain ⟨hga, hgb⟩ := lY (a := 0) (b := aH ax (kd l n)) (by omega)
     clear hr hp
     obtain ⟨d_, dn, dA, ed, eF, eG, dM⟩ := St.dD S (.head _)
     go_wp2_with ((refine bG (some 37) Try.func160 S (o7 ⟨ck, ⟨cx, cy, cw, ch⟩, ay, l⟩ HZ.out n g_.out ax jh.out (QN.out _ g_.out) _ _ _ _ _ (S.out.tree _ (.head _))) ?_; clear S; intro di S; clear d_ dn dA ed eF eG dM))
     have hw := HW.out
     go_wp2
     go_roundg n
     case measure => exact Nat.lt_of_lt_of_le (Nat.lt_succ_self _) fM.out
     case rel => exact ⟨n, (by rw [hw]), ⟨by have := HN.out; omega⟩, Nat.le_refl _, HR, S⟩
def zT.T8 : Bool × List (List Nat × List Nat) := (true, [([], []), ([], []), ([1], [1]), ([], []), ([2, 3], [2, 3]), ([4], [4]), ([5], [5]), ([], []), ([6, 7], [6, 7]), ([], []), ([9], [9]), ([], []), ([10, 11], [10, 11]), ([12], [12]), ([], []), ([13, 14, 8], [13, 14]), ([8, 15], [8, 15]), ([16], [16]), ([0, 17, 15], [0, 17]), ([18, 18, 0, 1, 2, 3, 4, 5, 6, 7, 8, 9, 10, 11, 12, 13, 14, 15, 16, 17, 18], [0, 18])])
def zT.B8 : List Nat := [0, 0, 2, 0, 14, 30, 62, 0, 254, 0, 512, 0, 3584, 7680, 0, 32766, 65534, 131070, 262143, 524287]
theorem zT.ai6 : iM .any (opsOf Try.f200 8) = zT.T8 := by kernel_rfl
theorem zT.agS : gZ zT.T8.2 zT.B8 = true := by kernel_rfl
theorem XB (ax : Int) (k : ai) (l : List ai) (ns : Nat → Int) : jW ax (l ++ [k]) ns 0 = jW ax l ns 0 ++ [dQ ax k (ns l.length)] := by rw [Mc, Nat.zero_add]
theorem acx (ax : Int) (hax : ax = 1 ∨ ax = 2) : ∀ (N : Nat) (c : ai), sz c ≤ N → N ≤ 100000 → dB c = true → ∀ (aC : Int), (-100000 ≤ aC ∧ aC ≤ 100000) → ∀ (P : Nat → Prop) (A : Option Addr) (cc : Nat) (w : World), Kd.V k26 26 w w.heap.size P (.slice A c.f3.length cc) c.f3 →
  Calls Try.prog 200 #[.agg #[.int .u8 c.f0, .int .i64 c.f1.f0, .int .i64 c.f1.f1, .int .i64 c.f1.f2, .int .i64 c.f1.f3, .int .i64 c.f2, .slice A c.f3.length cc], .int .u8 ax, .int .i64 aC] w (yX w P (dQ ax c aC)) := by
 intro N
 induction N with
 | zero => intro c h; rw [bV] at h; omega
 | succ N ih =>
  intro c hc hN ht aC hby P A cc w hv
  have hsz := bV c
  have hlen := ig c.f3
  have hl1 : c.f3.length ≤ 100000 := by omega
  have hkt := fun (k : ai) (hk : k ∈ c.f3) => Pure.xQ ht hk
  have IH := ae.mk fun (k : ai) (hk : k ∈ c.f3) (n : Int) (hn : -100000 ≤ n ∧ n ≤ 100000) P A cc w h => ih k (by have := Bi hk; omega) (by omega) (hkt k hk) n hn P A cc w h
  have Ez := ae.mk fun (k : ai) (hk : k ∈ c.f3) => (show sz k ≤ 1048576 by have := Bi hk; omega)
  have HTK := ae.mk hkt
  have fM := ae.mk fun (k : ai) (hk : k ∈ c.f3) => (show wrap64 (aW ax k.f1 - bZ ax k) = aH ax k by unfold aH; rw [if_pos ⟨hax, hkt k hk⟩])
  have hgb : ∀ g, g ∈ c.f3.map (aH ax) → g ≤ 100000 := fun g hg => by
   obtain ⟨k, hk, rfl⟩ := List.mem_map.1 hg
   have := Pure.jA hax (hkt k hk)
   omega
  have gY := ae.mk (show c.f3.length ≤ 1000000 by omega)
  have hsl := Si (b := aC) (gs := c.f3.map (aH ax)) (by simpa using hl1) (by omega) (by omega)
  have hno := af9 (b := aC) (gs := c.f3.map (aH ax)) (by simpa using hl1) (by omega) (by omega)
  have hsb := Xf (b := aC) (gs := c.f3.map (aH ax)) (by simpa using hl1) hby.1 hby.2 hgb
  have D9 := fun (Ag : Option Addr) (cg : Nat) (W : World) (hC : Kd.C (Kd.int .i64) W Ag (c.f3.map (aH ax)).length (c.f3.map (aH ax))) (h2 : (c.f3.map (aH ax)).length ≤ cg) => WX aC (c.f3.map (aH ax)) (by simpa using hl1) hby.1 hby.2 hC h2
  have DC : ∀ i, Hl ax c.f0 c.f3 aC i = if (oz aC (c.f3.map (aH ax))).2 = true ∧ fK ax c.f0 = true then rd (oz aC (c.f3.map (aH ax))).1 (i : Int) else aC := fun i => rfl
  rw [yI]
  have S := ae.mk (St.start (ts := [(.slice A c.f3.length cc, c.f3)]) (b0 := w.heap.size) (w := w) (P := P) (fun t ht => by rw [List.mem_singleton.1 ht]; exact hv))
  obtain ⟨ck, ⟨cx, cy, cw, ch⟩, ay, l⟩ := c
  simp only [] at S IH Ez HTK fM gY hsl hno hsb D9 DC hl1 ⊢
  obtain ⟨gw, hgw⟩ : ∃ gw, gw = if ax = 1 then wrap64 (cw + aC) else cw := ⟨_, rfl⟩
  obtain ⟨gh, hgh⟩ : ∃ gh, gh = if ax = 1 then ch else wrap64 (ch + aC) := ⟨_, rfl⟩
  simp only [grow]
  rw [← hgw, ← hgh]
  generalize Hl ax ck l aC = NS at DC ⊢
  obtain ⟨⟨sl, ok⟩, hsp⟩ : ∃ sp, sp = oz aC (l.map (aH ax)) := ⟨_, rfl⟩
  simp only [← hsp, List.length_map] at hsl hno hsb D9 DC
  have HNB := ae.mk (show ∀ i, i < l.length → -100000 ≤ NS i ∧ NS i ≤ 100000 from fun i hi => by
   rw [DC i]
   split
   ·rename_i h
    exact hsb _ (by unfold rd; rw [List.getD_eq_getElem?_getD, List.getElem?_eq_getElem (by rw [hsl h.1]; simpa using hi)]; exact List.getElem_mem _)
   ·exact hby)
  obtain ⟨SL, ZK⟩ : ∃ SL, SL = if fK ax ck = true then sl else [] := ⟨_, rfl⟩
  have UG := ae.mk (show ∀ i, i < l.length → NS i = if 0 < SL.length then rd SL (i : Int) else aC from fun i hi => by
   rw [DC i, ZK]
   cases ha : fK ax ck with
   | false => simp
   | true =>
    cases ok with
    | false => rw [hno rfl]; simp
    | true => rw [if_pos ⟨rfl, rfl⟩, if_pos rfl, if_pos (by rw [hsl rfl]; omega)])
  have aio := ae.mk (show 0 < SL.length → SL.length = l.length by
   intro h
   rw [ZK] at h ⊢
   cases ha : fK ax ck with
   | false => rw [ha] at h; simp at h
   | true =>
    rw [ha] at h
    cases ok with
    | false => rw [hno rfl] at h; simp at h
    | true => rw [if_pos rfl, hsl rfl])
  have EO := ae.mk ZK
  have UI := ae.mk D9
  have G5 := ae.mk hgw
  have NY := ae.mk hgh
  clear ih hc hN hby hv hsz hlen hsl hno hsb hgb hkt ht D9 DC hgw hgh hsp hl1 ZK
  go_enter Try.func200, Try.ntmps200
  go_upto_if 14 with (first
   | (refine boxS 3 _ 26 S ?_; clear S; intro b3 di S)
   | (refine boxS 6 _ 26 S ?_; clear S; intro b6 dS S)
   | fail)
  go_cut [] (fun wc => ae (St w P [(some b6, .cells #[.int .u8 0, .int .i64 0, .int .i64 0, .int .i64 0, .int .i64 0, .int .i64 0, .slice none 0 0] 26 (0, 0)), (some b3, .cells #[.int .u8 ck, .int .i64 cx, .int .i64 cy, .int .i64 gw, .int .i64 gh, .int .i64 ay, .slice A l.length cc] 26 (0, 0))] [] [(.slice A l.length cc, l)] [] wc))
  case first =>
   by_cases hx : ax = 1
   ·have hxb : (ax == 1) = true := beq_iff_eq.mpr hx
    have HX := ae.mk hx
    clear hx
    have bz := (S.out.at aY 3).trans rfl
    go_wp2_with (first
     | (refine uk 3 21 19 #[.int .u8 ck, .int .i64 cx, .int .i64 cy, .int .i64 (wrap64 (cw + aC)), .int .i64 ch, .int .i64 ay, .slice A l.length cc] 3 1 S ?_; clear S; intro gq S; clear bz)
     | fail)
    go_meet
    case rel => rw [G5.out, NY.out, if_pos HX.out, if_pos HX.out]; exact S
   ·have hxb : (ax == 1) = false := beq_eq_false_iff_ne.mpr hx
    have HX := ae.mk hx
    clear hx
    have bM := (S.out.at aY 4).trans rfl
    go_wp2_with (first
     | (refine uk 3 28 26 #[.int .u8 ck, .int .i64 cx, .int .i64 cy, .int .i64 cw, .int .i64 (wrap64 (ch + aC)), .int .i64 ay, .slice A l.length cc] 4 1 S ?_; clear S; intro gz S; clear bM)
     | fail)
    go_meet
    case rel => rw [G5.out, NY.out, if_neg HX.out, if_neg HX.out]; exact S
  case rest =>
   clear S G5 NY
   rename World => wx
   have S := hcut
   clear hcut
   go_wp2_with (first
    | ((with_reducible refine aG (N := 29) rfl ?_); refine RG (N := 29) rfl rfl S.out ?hr ?_; (case hr => first | (go_simp; done) | (go_simp; rfl)); intro al9 amh amz kG S1 h1; replace S := ae.mk S1; have Zd := ae.mk h1; clear S1 h1; have bC := (S.out.at dL 6).trans rfl)
    | fail)
   clear bC
   go_loopg [7, 33] l.length (fun gg v7 v33 wr => ∃ (pre rest : List ai) (Ag : Option Addr) (cg : Nat) (og : Obj), v7 = .slice Ag pre.length cg ∧ v33 = .int .i64 (pre.length : Int) ∧ ae (pre ++ rest = l) ∧ rest.length ≤ gg ∧ ae (IR w.heap.size (.slice Ag pre.length cg) (pre.map (aH ax)) og) ∧ ae (St w P [((Value.slice Ag pre.length cg).ownBlock, og), (some b6, .cells #[.int .u8 0, .int .i64 0, .int .i64 0, .int .i64 0, .int .i64 0, .int .i64 0, .slice none 0 0] 26 (0, 0)), (some b3, .cells #[.int .u8 ck, .int .i64 cx, .int .i64 cy, .int .i64 gw, .int .i64 gh, .int .i64 ay, .slice A l.length cc] 26 (0, 0))] [] [(.slice A l.length cc, l)] [] wr))
   case atStart => exact ⟨[], l, _, _, _, rfl, rfl, ⟨rfl⟩, Nat.le_refl _, ⟨Zd.out⟩, ⟨S.out⟩⟩
   case round =>
    clear S Zd
    obtain ⟨pre, rest, Ag, cg, og, rfl, rfl, HE, hgg, HI, S⟩ := hrel
    cases rest with
    | nil =>
     have hE := HE.out
     rw [List.append_nil] at hE
     have hE2 := hE.symm
     subst hE2
     clear hE HE hgg
     have hlt : ¬ ((l.length : Int) < (l.length : Int)) := by omega
     have MI := fun W hW => UI.out Ag cg W (by have h := (Kd.eQ (HI.out W hW)).2.2; rw [List.length_map] at h; exact h) (by have h := (Kd.eQ (HI.out W hW)).2.1; exact h)
     have Zi := ae.mk MI
     clear MI UI
     go_upto_if 59 with (first
      | ((with_reducible refine aG (N := 56) rfl ?_); refine RG (N := 56) rfl rfl S.out ?hr ?_; (case hr => first | (go_simp; done) | (go_simp; rfl)); intro al_ ami amA tJ S1 h1; replace S := ae.mk S1; have Ze := ae.mk h1; clear S1 h1; obtain ⟨bf, bg, bu, bz, bM, bU, bC⟩ := St.dD S jB)
      | (refine bG (some 59) Try.func88 S (YS ⟨ck, ⟨cx, cy, gw, gh⟩, ay, l⟩ ax (S.out.tree _ (.head _))) ?_; clear S; intro vV S; clear bf bg bu bz bM bU bC)
      | fail)
     (try simp only [Act.put, List.setIfInBounds_toArray, List.set_cons_zero, List.set_cons_succ])
     go_cut [9] (fun v9 wc => ∃ (A9 : Option Addr) (c9 : Nat) (o9 : Obj), v9 = .slice A9 SL.length c9 ∧ ae (IR w.heap.size (.slice A9 SL.length c9) SL o9) ∧ ae (St w P [((Value.slice A9 SL.length c9).ownBlock, o9), (some b6, .cells #[.int .u8 0, .int .i64 0, .int .i64 0, .int .i64 0, .int .i64 0, .int .i64 0, .slice none 0 0] 26 (0, 0)), (some b3, .cells #[.int .u8 ck, .int .i64 cx, .int .i64 cy, .int .i64 gw, .int .i64 gh, .int .i64 ay, .slice A l.length cc] 26 (0, 0))] [] [(.slice A l.length cc, l)] [] wc))
     case first =>
      cases ha : fK ax ck with
      | false =>
       have hs : SL = [] := by rw [EO.out, ha]; simp
       go_wp2
       go_meet
       case rel => rw [hs]; exact ⟨_, _, _, rfl, ⟨Ze.out⟩, ⟨S.out.JM.dV⟩⟩
      | true =>
       have hs : SL = sl := by rw [EO.out, ha]; simp
       go_wp2_with (first
        | (refine iT (some 63) Try.func50 (Zi.out _ (S.out.blk _ aY)) ?_; rintro e wV ⟨As, cs, rfl, h1, hb⟩; refine ⟨_, rfl, ?_⟩; obtain ⟨os, S1, HI1⟩ := S.out.Ql h1 hb; replace S := ae.mk S1; have HIS := ae.mk HI1; clear S1 HI1 h1 hb)
        | fail)
       go_meet
       case rel => rw [hs]; exact ⟨_, _, _, rfl, ⟨HIS.out⟩, ⟨S.out.JM.dV.JM.dV⟩⟩
     case rest =>
      clear S Zi EO Ze HI
      obtain ⟨A9, c9, o9, rfl, HI9, S⟩ := hcut
      rename World => wz
      go_wp2_with (first
       | ((with_reducible refine aG (N := 66) rfl ?_); refine Jz (N := 66) rfl rfl S.out ?hr ?_; (case hr => first | (go_simp; done) | (go_simp; rfl)); intro Ao co Gn S1; replace S := ae.mk S1; clear S1; have bC := (S.out.at dL 6).trans rfl)
       | fail)
      clear bC
      go_loopg [10, 70] l.length (fun gg v10 v70 wr => ∃ (pre rest : List ai) (Ap : Option Addr) (cp : Nat), v10 = .slice Ap (jW ax pre NS 0).length cp ∧ v70 = .int .i64 (pre.length : Int) ∧ ae (pre ++ rest = l) ∧ rest.length ≤ gg ∧ ae (St w P [((Value.slice A9 SL.length c9).ownBlock, o9), (some b6, .cells #[.int .u8 0, .int .i64 0, .int .i64 0, .int .i64 0, .int .i64 0, .int .i64 0, .slice none 0 0] 26 (0, 0)), (some b3, .cells #[.int .u8 ck, .int .i64 cx, .int .i64 cy, .int .i64 gw, .int .i64 gh, .int .i64 ay, .slice A l.length cc] 26 (0, 0))] [(.slice Ap ((jW ax pre NS 0).length) cp, (jW ax pre NS 0))] [(.slice A l.length cc, l)] [] wr))
      case atStart => exact ⟨[], l, Ao, co, (by rw [qJ]; rfl), rfl, ⟨rfl⟩, Nat.le_refl _, ⟨by rw [qJ]; exact S.out⟩⟩
      case round =>
       clear S
       obtain ⟨pre, rest, Ap, cp, rfl, rfl, HE, hgg, S⟩ := hrel
       cases rest with
       | nil =>
        have hE := HE.out
        rw [List.append_nil] at hE
        have hE2 := hE.symm
        subst hE2
        clear hE HE hgg
        have hlt : ¬ ((l.length : Int) < (l.length : Int)) := by omega
        go_wp2_with (first
         | (refine Qd 24 94 93 #[.int .u8 ck, .int .i64 cx, .int .i64 cy, .int .i64 gw, .int .i64 gh, .int .i64 ay, .slice Ap ((jW ax l NS 0).length) cp] 6 1 S ?_; clear S; intro Aj S; obtain ⟨bf, bg, bu, bz, bM, bU, bC⟩ := St.dD S dL)
         | (refine uk 26 6 95 #[.int .u8 ck, .int .i64 cx, .int .i64 cy, .int .i64 gw, .int .i64 gh, .int .i64 ay, .slice Ap ((jW ax l NS 0).length) cp] 0 7 S ?_; clear S; intro Gm S; clear bf bg bu bz bM bU bC)
         | fail)
        refine bodyPost_ret (results_cell_row rfl _ _ b6 26 _ (0, 0) _ rfl (S.out.blk _ aY _ rfl) Try.underlying26 rfl (by kernel_rfl)) rfl ?_
        exact ⟨_, _, rfl, S.out.oV, S.out.below⟩
       | cons k rest =>
        have hk : k ∈ l := by rw [← HE.out]; simp
        have hlt : (pre.length : Int) < (l.length : Int) := by rw [← HE.out, List.length_append, List.length_cons]; omega
        have hw1 : wrap64 ((pre.length : Int) + 1) = ((pre ++ [k]).length : Int) := by have := gY.out; rw [List.length_append, List.length_singleton]; unfold wrap64; omega
        have HW1 := ae.mk hw1
        have Xu := ae.mk hgg
        have HK := ae.mk hk
        have ik := ae.mk (Ez.out k hk)
        have UD := ae.mk (HTK.out k hk)
        have Ey := ae.mk (fM.out k hk)
        have yD := ae.mk (show pre.length ≤ 1000000 by have := gY.out; omega)
        have HJ := ae.mk (show pre.length < l.length by omega)
        obtain ⟨gK, ua, uc, ek, S1⟩ := S.out.elem (.head _) (pre.length : Int) (Int.natCast_nonneg _) hlt
        subst ek
        have hrd : aA l (pre.length : Int) = k := by rw [← HE.out]; exact kE pre k rest
        rw [hrd] at S1
        simp only [Int.toNat_natCast] at S1
        replace S := ae.mk S1
        clear S1 hrd hk hgg hw1
        go_upto_if 76 with fail
        (try simp only [Act.put, List.setIfInBounds_toArray, List.set_cons_zero, List.set_cons_succ])
        go_cut [12] (fun v12 wc => v12 = .int .i64 (NS pre.length) ∧ ae (St w P [((Value.slice A9 SL.length c9).ownBlock, o9), (some b6, .cells #[.int .u8 0, .int .i64 0, .int .i64 0, .int .i64 0, .int .i64 0, .int .i64 0, .slice none 0 0] 26 (0, 0)), (some b3, .cells #[.int .u8 ck, .int .i64 cx, .int .i64 cy, .int .i64 gw, .int .i64 gh, .int .i64 ay, .slice (some gK) l.length cc] 26 (0, 0))] [(.slice Ap ((jW ax pre NS 0).length) cp, (jW ax pre NS 0))] [(.slice ua k.f3.length uc, k.f3), (.slice (some gK) l.length cc, l)] [((gK.add (pre.length * 7)), .int .u8 k.f0), (⟨(gK.add (pre.length * 7)).block, (gK.add (pre.length * 7)).off + 1, none⟩, .int .i64 k.f1.f0), (⟨(gK.add (pre.length * 7)).block, (gK.add (pre.length * 7)).off + 2, none⟩, .int .i64 k.f1.f1), (⟨(gK.add (pre.length * 7)).block, (gK.add (pre.length * 7)).off + 3, none⟩, .int .i64 k.f1.f2), (⟨(gK.add (pre.length * 7)).block, (gK.add (pre.length * 7)).off + 4, none⟩, .int .i64 k.f1.f3), (⟨(gK.add (pre.length * 7)).block, (gK.add (pre.length * 7)).off + 5, none⟩, .int .i64 k.f2), (⟨(gK.add (pre.length * 7)).block, (gK.add (pre.length * 7)).off + 6, none⟩, .slice ua k.f3.length uc)] wc))
        case first =>
         by_cases hp : (SL.length : Int) > 0
         ·have hpd : decide ((SL.length : Int) > 0) = true := decide_eq_true hp
          have hpe : decide (0 < (SL.length : Int)) = true := decide_eq_true hp
          have V3 : decide (0 < SL.length) = true := decide_eq_true (by omega)
          have hlt2 : (pre.length : Int) < (SL.length : Int) := by rw [aio.out (by omega)]; exact hlt
          obtain ⟨ads, ea, _⟩ := Kd.jl (Kd.eQ (HI9.out _ (S.out.blk _ (.head _)))).2.2 (pre.length : Int) (Int.natCast_nonneg _) hlt2
          subst ea
          have HP := ae.mk hp
          rw [V3]
          clear hp hpd hpe V3
          have xs := Bv HI9.out (S.out.blk _ (.head _)) pre.length hlt2
          go_wp2
          clear xs
          go_meet
          case rel => exact ⟨by rw [UG.out _ HJ.out, if_pos (by have := HP.out; omega)], S⟩
         ·have hpd : decide ((SL.length : Int) > 0) = false := decide_eq_false hp
          have hpe : decide (0 < (SL.length : Int)) = false := decide_eq_false hp
          have V3 : decide (0 < SL.length) = false := decide_eq_false (by omega)
          have HP := ae.mk hp
          rw [V3]
          clear hp hpd hpe V3
          go_wp2
          go_meet
          case rel => exact ⟨by rw [UG.out _ HJ.out, if_neg (by have := HP.out; omega)], S⟩
        case rest =>
         clear S
         obtain ⟨rfl, S⟩ := hcut
         rename World => wy
         obtain ⟨gQ, iD, jd, iP, iQ, jL, jM⟩ := St.AQ S
         have bC := (S.out.at dL 6).trans rfl
         go_wp2_with (first
          | (refine wZ (some 89) Try.func200 S (IH.out k HK.out (NS pre.length) (HNB.out _ HJ.out) _ ua uc _ (eY (S.out.tree _ (.head _)))) ?_; clear S; intro Av cv Um S; clear gQ iD jd iP iQ jL jM bC)
          | ((with_reducible refine aG (N := 91) rfl ?_); at_builtin; go_loud (refine Gu (.tmp 81) (.tmp 90) rfl rfl Try.underlying24 info26 S.out (dQ ax k (NS pre.length)) (.head _) rfl (by first | (go_simp; done) | (go_simp; rfl)) (by have := yD.out; rw [yK]; omega) ?_); intro Aq cq Lu S1; rw [← XB] at S1 ⊢; replace S := ae.mk S1; clear S1)
          | fail)
         have hw1 := HW1.out
         go_wp2
         go_roundg rest.length
         case measure => exact Nat.lt_of_lt_of_le (Nat.lt_succ_self _) Xu.out
         case rel => exact ⟨pre ++ [k], rest, Aq, cq, (by simp), (by rw [hw1]), ⟨by rw [List.append_assoc]; exact HE.out⟩, Nat.le_refl _, ⟨S.out.bQ.bQ.aX.aX.aX.aX.aX.aX.aX⟩⟩
    | cons k rest =>
     have hk : k ∈ l := by rw [← HE.out]; simp
     have hlt : (pre.length : Int) < (l.length : Int) := by rw [← HE.out, List.length_append, List.length_cons]; omega
     have hw1 : wrap64 ((pre.length : Int) + 1) = ((pre ++ [k]).length : Int) := by have := gY.out; rw [List.length_append, List.length_singleton]; unfold wrap64; omega
     have HW1 := ae.mk hw1
     have Xu := ae.mk hgg
     have HK := ae.mk hk
     have ik := ae.mk (Ez.out k hk)
     have UD := ae.mk (HTK.out k hk)
     have Ey := ae.mk (fM.out k hk)
     have yD := ae.mk (show pre.length ≤ 1000000 by have := gY.out; omega)
     have HJ := ae.mk (show pre.length < l.length by omega)
     obtain ⟨gK, ua, uc, ek, S1⟩ := S.out.elem (.head _) (pre.length : Int) (Int.natCast_nonneg _) hlt
     subst ek
     have hrd : aA l (pre.length : Int) = k := by rw [← HE.out]; exact kE pre k rest
     rw [hrd] at S1
     simp only [Int.toNat_natCast] at S1
     replace S := ae.mk S1
     clear S1 hrd hk hgg hw1
     go_wp2
     refine gX (n := 20) (S := fun w' => St w _ _ _ _ _ w') (ds := [18]) (bA 20 0) (by kernel_rfl) rfl rfl (S.out.dV.call (a_ (Below.refl _ _))) (fun hHeld => ?_); refine dZ zT.ai6 zT.agS (fun aj dE => ?_)
     replace S := ae.mk (S.out.call (a_ (Below.refl _ _)))
     generalize wr.drew = ai_ at S hHeld ⊢
     refine ak 0 36 (bA 20 1) aj ?_
     refine ak 1 37 (bA 20 3) aj ?_
     refine b_ 2 38 (bA 20 7) aj dE hHeld ?_ (hv := by intro w' hs_; have bC := (hs_.at aY 6).trans rfl; go_simp; with_reducible rfl)
     refine ak 3 39 (bA 20 15) aj ?_
     refine ak 4 40 (bA 20 31) aj ?_
     refine ak 5 41 (bA 20 63) aj ?_
     refine b_ 6 42 (bA 20 127) aj dE hHeld ?_ (hv := by intro w' hs_; have iD := (hs_.cell _ aY).1; have jd := (hs_.cell _ dL).1; have iP := (hs_.cell _ jB).1; have iQ := (hs_.cell _ lK).1; go_simp; with_reducible rfl)
     refine ak 7 43 (bA 20 255) aj ?_
     refine ak 9 45 (bA 20 767) aj ?_
     refine b_ 10 46 (bA 20 1791) aj dE hHeld ?_ (hv := by intro w' hs_; have bC := (hs_.at aY 6).trans rfl; go_simp; with_reducible rfl)
     refine ak 11 47 (bA 20 3839) aj ?_
     refine ak 12 48 (bA 20 7935) aj ?_
     refine b_ 13 49 (bA 20 16127) aj dE hHeld ?_ (hv := by intro w' hs_; have gQ := (hs_.cell _ (.head _)).1; have iD := (hs_.cell _ aY).1; have jd := (hs_.cell _ dL).1; have iP := (hs_.cell _ jB).1; have iQ := (hs_.cell _ lK).1; have jL := (hs_.cell _ qB).1; have jM := (hs_.cell _ zy).1; go_simp; with_reducible rfl)
     refine ak 14 50 (bA 20 32511) aj ?_
     refine iL 8 (some 44) (bA 20 32767) aj (fun K hK => ?_)
     refine wY Try.func87 #[.agg #[.int .i64 k.f1.f0, .int .i64 k.f1.f1, .int .i64 k.f1.f2, .int .i64 k.f1.f3], .int .u8 ax] ?_
     refine (Lc k.f1 ax).mono ?_
     rintro e Y8 ⟨rfl, hb⟩
     refine ⟨_, rfl, ?_⟩
     replace S := ae.mk (S.out.call hb)
     clear hb
     refine hK.out _ _ S.out.dV (fun hHeld => ?_)
     clear hK K
     refine dR 44 ?_
     refine iL 15 (some 51) (bA 20 65535) aj (fun K hK => ?_)
     refine wY Try.func152 #[.agg #[.int .u8 k.f0, .int .i64 k.f1.f0, .int .i64 k.f1.f1, .int .i64 k.f1.f2, .int .i64 k.f1.f3, .int .i64 k.f2, .slice ua k.f3.length uc], .int .u8 ax] ?_
     refine (NF k ax ik.out UD.out (S.out.tree _ (.head _))).mono ?_
     rintro e age ⟨rfl, hb⟩
     refine ⟨_, rfl, ?_⟩
     replace S := ae.mk (S.out.call hb)
     clear hb
     refine hK.out _ _ S.out.dV (fun hHeld => ?_)
     clear hK K
     refine dR 51 ?_
     refine ak 16 52 (bA 20 131071) aj ?_
     refine iL 17 (some 53) (bA 20 262143) aj (fun K hK => ?_)
     refine Qv (w1 := ?_) (v := ?_) (by rfl) rfl ?_ ?_
     rotate_left 2
     ·go_simp
      constructor
      ·rfl
      ·rfl
     refine hK.out _ _ (S.out.dV.call (gV (Below.refl _ _) _)) (fun hHeld => ?_)
     clear hK K
     refine dR 53 ?_
     refine lV 18 (some 54) (bA 20 524287) aj (fun K hK => ?_)
     go_loud (refine XH (.tmp 36) (.tmp 53) (by rfl) rfl Try.underlying41 info3 S.out HI.out (wrap64 (aW ax k.f1 - bZ ax k)) rfl rfl (by have := yD.out; simp only [List.length_map]; omega) ?_)
     intro Ag2 cg2 og2 ai9 S1 I1
     rw [show pre.map (aH ax) ++ [wrap64 (aW ax k.f1 - bZ ax k)] = (pre ++ [k]).map (aH ax) by rw [Ey.out]; simp] at S1 I1 ⊢
     rw [show ((pre ++ [k]).map (aH ax)).length = (pre ++ [k]).length by simp] at S1 I1 ⊢
     replace S := ae.mk S1
     have HI2 := ae.mk I1
     clear S1 I1 HI
     refine hK.out _ _ ?_
     clear hK K
     refine dR 54 ?_
     refine ak 19 7 (bA 20 1048575) aj ?_
     refine jf (fJ aj.out (by kernel_rfl)) ?_
     clear hHeld
     go_wp2
     have hw1 := HW1.out
     go_wp2
     go_roundg rest.length
     case measure => exact Nat.lt_of_lt_of_le (Nat.lt_succ_self _) Xu.out
     case rel => exact ⟨pre ++ [k], rest, Ag2, cg2, og2, (by simp), (by rw [hw1]), ⟨by rw [List.append_assoc]; exact HE.out⟩, Nat.le_refl _, ⟨HI2.out⟩, ⟨S.out.bQ.aX.aX.aX.aX.aX.aX.aX⟩⟩
def zQ.T9 : Bool × List (List Nat × List Nat) := (true, [([], []), ([], []), ([], []), ([0, 1, 2], [0, 1, 2]), ([], []), ([4], [4]), ([5], [5]), ([], []), ([7], [7]), ([8], [8]), ([3, 6, 9, 3], [3, 6, 9]), ([10, 10, 0, 1, 2, 3, 4, 5, 6, 7, 8, 9, 10], [10]), ([11, 0, 1, 2, 3, 4, 5, 6, 7, 8, 9, 10, 11], [])])
def zQ.B9 : List Nat := [0, 0, 0, 7, 0, 16, 48, 0, 128, 384, 1023, 2047, 4095]
theorem zQ.xw : iM .any (opsOf Try.f184 9) = zQ.T9 := by kernel_rfl
theorem zQ.sF : gZ zQ.T9.2 zQ.B9 = true := by kernel_rfl
def atR (ax : Int) (r : dO) : Int := if ax = 1 then r.f0 else r.f1
theorem ahn {ax : Int} {c : ai} {b : Int} (ht : dB c = true) (hax : ax = 1 ∨ ax = 2) :
  yc ax c b = (decide (b > 10000) || (decide (b < -10000) || (decide (wrap64 (wrap64 (atR ax c.f1 + aW ax c.f1) + b) > 10000) || decide (wrap64 (aW ax c.f1 + b) < bZ ax c)))) := by
 have hm := lL ht
 have hr := tY (oG (pK hm))
 have r := ou hr hax
 have hg := Pure.jA hax ht
 have hw1 : wrap64 (-(aH ax c)) = -(aH ax c) := by rw [hg.1]; unfold wrap64; omega
 have hq : 0 ≤ c.f1.f0 ∧ 0 ≤ c.f1.f1 ∧ c.f1.f0 + c.f1.f2 ≤ 10000 ∧ c.f1.f1 + c.f1.f3 ≤ 10000 ∧ 1 ≤ c.f1.f2 ∧ 1 ≤ c.f1.f3 := by
  unfold lu qc at hr
  simp only [Bool.and_eq_true, decide_eq_true_eq] at hr
  omega
 have he : aW ax ⟨0, 0, wrap64 (c.f1.f0 + c.f1.f2), wrap64 (c.f1.f1 + c.f1.f3)⟩ = atR ax c.f1 + aW ax c.f1 := by
  unfold aW atR
  rcases hax with rfl | rfl
  ·simp only [if_true]; unfold wrap64; omega
  ·simp only [show ¬ ((2 : Int) = 1) by decide, if_false, if_true]; unfold wrap64; omega
 have ha : 0 ≤ atR ax c.f1 ∧ atR ax c.f1 + aW ax c.f1 ≤ 10000 := by
  unfold aW atR
  rcases hax with rfl | rfl
  ·simp only [if_true]; omega
  ·simp only [show ¬ ((2 : Int) = 1) by decide, if_false, if_true]; omega
 generalize atR ax c.f1 = at_ at *
 generalize aW ax c.f1 = s at *
 generalize bZ ax c = l at *
 unfold yc
 rw [hw1, he, hg.1, show wrap64 (10000 - (at_ + s)) = 10000 - (at_ + s) by unfold wrap64; omega]
 by_cases h1 : b > 10000
 ·rw [decide_eq_true h1, decide_eq_true (show b > 10000 - (at_ + s) by omega)]; simp
 ·by_cases h2 : b < -10000
  ·rw [decide_eq_true h2, decide_eq_true (show b < -(s - l) by omega)]; simp
  ·rw [decide_eq_false h1, decide_eq_false h2, show wrap64 (wrap64 (at_ + s) + b) = at_ + s + b by unfold wrap64; omega, show wrap64 (s + b) = s + b by unfold wrap64; omega]
   simp only [Bool.false_or]
   rw [Bool.or_comm]
   congr 1
   ·exact decide_eq_decide.2 (by omega)
   ·exact decide_eq_decide.2 (by omega)
theorem TZ (ax : Int) (c : ai) (hz : sz c ≤ 1048576) (aC : Int) (P : Nat → Prop) (A : Option Addr) (cc : Nat) (w : World) (hv : Kd.V k26 26 w w.heap.size P (.slice A c.f3.length cc) c.f3) :
  Calls Try.prog 184 #[.agg #[.int .u8 c.f0, .int .i64 c.f1.f0, .int .i64 c.f1.f1, .int .i64 c.f1.f2, .int .i64 c.f1.f3, .int .i64 c.f2, .slice A c.f3.length cc], .int .u8 ax, .int .i64 aC] w (Zl w P (aZ ax c aC) (aN ax c aC)) := by
 have S := ae.mk (St.start (ts := [(.slice A c.f3.length cc, c.f3)]) (b0 := w.heap.size) (w := w) (P := P) (fun t ht => by rw [List.mem_singleton.1 ht]; exact hv))
 have HZ := ae.mk hz
 have hO := fun h1 h2 => @ahn ax c aC h1 h2
 obtain ⟨ck, ⟨cx, cy, cw, ch⟩, ay, l⟩ := c
 simp only [] at S hO
 clear hv hz
 cases ht : dB ⟨ck, ⟨cx, cy, cw, ch⟩, ay, l⟩ with
 | false =>
  have HT := ae.mk ht
  have HB := ae.mk (show rq ax ⟨ck, ⟨cx, cy, cw, ch⟩, ay, l⟩ = true by unfold rq; rw [ht]; rfl)
  clear ht hO
  go_enter Try.func184, Try.ntmps184
  go_wp2_with (first | (refine boxS 3 _ 26 S ?_; clear S; intro b3 di S) | (refine boxS 6 _ 26 S ?_; clear S; intro b6 dS S; obtain ⟨bf, bg, bu, bz, bM, bU, bC⟩ := St.dD S aY) | (refine bG (some 11) Try.func84 S (mf HT.out (Ep ⟨ck, ⟨cx, cy, cw, ch⟩, ay, l⟩ HZ.out (S.out.tree _ (.head _)))) ?_; clear S; intro gq S; clear bf bg bu bz bM bU bC) | (refine gy 26 6 21 #[.int .u8 0, .int .i64 0, .int .i64 0, .int .i64 0, .int .i64 0, .int .i64 0, .slice none 0 0] 0 7 S ?_; clear S; intro gz S))
  refine bodyPost_ret (eH rfl _ _ b6 26 _ (0, 0) _ rfl (S.out.blk _ (.head _) _ rfl) Try.underlying26 rfl (by kernel_rfl)) rfl ?_
  rw [show aN ax ⟨ck, ⟨cx, cy, cw, ch⟩, ay, l⟩ aC = 1 by unfold aN; rw [if_pos HB.out], show aZ ax ⟨ck, ⟨cx, cy, cw, ch⟩, ay, l⟩ aC = z26 by unfold aZ; rw [if_pos HB.out]]
  exact ⟨_, _, rfl, Kd.oO _ _ _ _ _, S.out.below⟩
 | true =>
  have HT := ae.mk ht
  by_cases h1 : ax < 1
  ·have h1b : decide (ax < 1) = true := decide_eq_true h1
   have HB := ae.mk (show rq ax ⟨ck, ⟨cx, cy, cw, ch⟩, ay, l⟩ = true by unfold rq; rw [ht, show (ax != 1) = true from bne_iff_ne.mpr (by omega), show (ax != 2) = true from bne_iff_ne.mpr (by omega)]; rfl)
   clear ht hO h1
   go_enter Try.func184, Try.ntmps184
   go_wp2_with (first | (refine boxS 3 _ 26 S ?_; clear S; intro b3 di S) | (refine boxS 6 _ 26 S ?_; clear S; intro b6 dS S; obtain ⟨bf, bg, bu, bz, bM, bU, bC⟩ := St.dD S aY) | (refine bG (some 11) Try.func84 S (mf HT.out (Ep ⟨ck, ⟨cx, cy, cw, ch⟩, ay, l⟩ HZ.out (S.out.tree _ (.head _)))) ?_; clear S; intro gq S; clear bf bg bu bz bM bU bC) | (refine gy 26 6 21 #[.int .u8 0, .int .i64 0, .int .i64 0, .int .i64 0, .int .i64 0, .int .i64 0, .slice none 0 0] 0 7 S ?_; clear S; intro gz S))
   refine bodyPost_ret (eH rfl _ _ b6 26 _ (0, 0) _ rfl (S.out.blk _ (.head _) _ rfl) Try.underlying26 rfl (by kernel_rfl)) rfl ?_
   rw [show aN ax ⟨ck, ⟨cx, cy, cw, ch⟩, ay, l⟩ aC = 1 by unfold aN; rw [if_pos HB.out], show aZ ax ⟨ck, ⟨cx, cy, cw, ch⟩, ay, l⟩ aC = z26 by unfold aZ; rw [if_pos HB.out]]
   exact ⟨_, _, rfl, Kd.oO _ _ _ _ _, S.out.below⟩
  ·by_cases h2 : ax > 2
   ·have h1b : decide (ax < 1) = false := decide_eq_false h1
    have h2b : decide (ax > 2) = true := decide_eq_true h2
    have h2c : decide (2 < ax) = true := decide_eq_true h2
    have HB := ae.mk (show rq ax ⟨ck, ⟨cx, cy, cw, ch⟩, ay, l⟩ = true by unfold rq; rw [ht, show (ax != 1) = true from bne_iff_ne.mpr (by omega), show (ax != 2) = true from bne_iff_ne.mpr (by omega)]; rfl)
    clear ht hO h1 h2
    go_enter Try.func184, Try.ntmps184
    go_wp2_with (first | (refine boxS 3 _ 26 S ?_; clear S; intro b3 di S) | (refine boxS 6 _ 26 S ?_; clear S; intro b6 dS S; obtain ⟨bf, bg, bu, bz, bM, bU, bC⟩ := St.dD S aY) | (refine bG (some 11) Try.func84 S (mf HT.out (Ep ⟨ck, ⟨cx, cy, cw, ch⟩, ay, l⟩ HZ.out (S.out.tree _ (.head _)))) ?_; clear S; intro gq S; clear bf bg bu bz bM bU bC) | (refine gy 26 6 21 #[.int .u8 0, .int .i64 0, .int .i64 0, .int .i64 0, .int .i64 0, .int .i64 0, .slice none 0 0] 0 7 S ?_; clear S; intro gz S))
    refine bodyPost_ret (eH rfl _ _ b6 26 _ (0, 0) _ rfl (S.out.blk _ (.head _) _ rfl) Try.underlying26 rfl (by kernel_rfl)) rfl ?_
    rw [show aN ax ⟨ck, ⟨cx, cy, cw, ch⟩, ay, l⟩ aC = 1 by unfold aN; rw [if_pos HB.out], show aZ ax ⟨ck, ⟨cx, cy, cw, ch⟩, ay, l⟩ aC = z26 by unfold aZ; rw [if_pos HB.out]]
    exact ⟨_, _, rfl, Kd.oO _ _ _ _ _, S.out.below⟩
   ·have hax : ax = 1 ∨ ax = 2 := by omega
    have jh := ae.mk hax
    have hO2 := hO ht hax
    have HB := ae.mk (show rq ax ⟨ck, ⟨cx, cy, cw, ch⟩, ay, l⟩ = false by unfold rq; rw [ht]; rcases hax with rfl | rfl <;> rfl)
    have h1b : decide (ax < 1) = false := decide_eq_false h1
    have h2b : decide (ax > 2) = false := decide_eq_false h2
    have h2c : decide (2 < ax) = false := decide_eq_false h2
    have hfit := fun h => @adZ ax ⟨ck, ⟨cx, cy, cw, ch⟩, ay, l⟩ aC HB.out h
    have qX := ae.mk hO2
    have adC := ae.mk hfit
    clear ht hax h1 h2 hO hO2 hfit
    go_enter Try.func184, Try.ntmps184
    go_upto_if 30 with (first | (refine boxS 3 _ 26 S ?_; clear S; intro b3 di S) | (refine boxS 6 _ 26 S ?_; clear S; intro b6 dS S; obtain ⟨bf, bg, bu, bz, bM, bU, bC⟩ := St.dD S aY) | (refine bG (some 11) Try.func84 S (mf HT.out (Ep ⟨ck, ⟨cx, cy, cw, ch⟩, ay, l⟩ HZ.out (S.out.tree _ (.head _)))) ?_; clear S; intro gq S; clear bf bg bu bz bM bU bC; have bg := (S.out.at aY 1).trans rfl; have bu := (S.out.at aY 2).trans rfl; have bz := (S.out.at aY 3).trans rfl; have bM := (S.out.at aY 4).trans rfl) | (refine bG (some 25) Try.func87 S (Lc ⟨cx, cy, cw, ch⟩ ax) ?_; clear S; intro gz S; clear bg bu bz bM; have bg := (S.out.at aY 1).trans rfl))
    clear bg
    (skip)
    go_cut [9] (fun v9 wc => v9 = .int .i64 (atR ax ⟨cx, cy, cw, ch⟩) ∧ ae (St w P [(some b6, .cells #[.int .u8 0, .int .i64 0, .int .i64 0, .int .i64 0, .int .i64 0, .int .i64 0, .slice none 0 0] 26 (0, 0)), (some b3, .cells #[.int .u8 ck, .int .i64 cx, .int .i64 cy, .int .i64 cw, .int .i64 ch, .int .i64 ay, .slice A l.length cc] 26 (0, 0))] [] [(.slice A l.length cc, l)] [] wc))
    case first =>
     by_cases hx : ax = 1
     ·have hxb : (ax == 2) = false := by rw [hx]; rfl
      have HX := ae.mk hx
      clear hx
      go_wp2
      go_meet
      case rel => exact ⟨by unfold atR; rw [if_pos HX.out], S⟩
     ·have hxb : (ax == 2) = true := by rw [show ax = 2 from jh.out.resolve_left hx]; rfl
      have HX := ae.mk hx
      clear hx
      have bu := (S.out.at aY 2).trans rfl
      go_wp2
      clear bu
      go_meet
      case rel => exact ⟨by unfold atR; rw [if_neg HX.out], S⟩
    case rest =>
     clear S
     obtain ⟨rfl, S⟩ := hcut
     rename World => wx
     have hO2 := qX.out
     have hfit := adC.out
     clear qX adC
     by_cases h4 : aC > 10000
     ·have hO3 := hO2
      rw [decide_eq_true h4, Bool.true_or] at hO3
      have E8 : decide (aC > 10000) = true := decide_eq_true h4
      have h4c : decide (10000 < aC) = true := decide_eq_true h4
      clear h4 hO2
      have HO := ae.mk hO3
      clear hO3 hfit
      go_wp2_with ((refine gy 26 6 57 #[.int .u8 0, .int .i64 0, .int .i64 0, .int .i64 0, .int .i64 0, .int .i64 0, .slice none 0 0] 0 7 S ?_; clear S; intro di S))
      refine bodyPost_ret (eH rfl _ _ b6 26 _ (0, 0) _ rfl (S.out.blk _ (.head _) _ rfl) Try.underlying26 rfl (by kernel_rfl)) rfl ?_
      rw [show aN ax ⟨ck, ⟨cx, cy, cw, ch⟩, ay, l⟩ aC = 7 by unfold aN; rw [if_neg (by rw [HB.out]; simp), if_pos HO.out], show aZ ax ⟨ck, ⟨cx, cy, cw, ch⟩, ay, l⟩ aC = z26 by unfold aZ; rw [if_neg (by rw [HB.out]; simp), if_pos HO.out]]
      exact ⟨_, _, rfl, Kd.oO _ _ _ _ _, S.out.below⟩
     ·rw [decide_eq_false h4, Bool.false_or] at hO2
      have E8 : decide (aC > 10000) = false := decide_eq_false h4
      have h4c : decide (10000 < aC) = false := decide_eq_false h4
      by_cases h5 : aC < -10000
      ·have hO3 := hO2
       rw [decide_eq_true h5, Bool.true_or] at hO3
       have Js : decide (aC < -10000) = true := decide_eq_true h5
       clear h4 h5 hO2
       have HO := ae.mk hO3
       clear hO3 hfit
       go_wp2_with ((refine gy 26 6 57 #[.int .u8 0, .int .i64 0, .int .i64 0, .int .i64 0, .int .i64 0, .int .i64 0, .slice none 0 0] 0 7 S ?_; clear S; intro di S))
       refine bodyPost_ret (eH rfl _ _ b6 26 _ (0, 0) _ rfl (S.out.blk _ (.head _) _ rfl) Try.underlying26 rfl (by kernel_rfl)) rfl ?_
       rw [show aN ax ⟨ck, ⟨cx, cy, cw, ch⟩, ay, l⟩ aC = 7 by unfold aN; rw [if_neg (by rw [HB.out]; simp), if_pos HO.out], show aZ ax ⟨ck, ⟨cx, cy, cw, ch⟩, ay, l⟩ aC = z26 by unfold aZ; rw [if_neg (by rw [HB.out]; simp), if_pos HO.out]]
       exact ⟨_, _, rfl, Kd.oO _ _ _ _ _, S.out.below⟩
      ·rw [decide_eq_false h5, Bool.false_or] at hO2
       have Js : decide (aC < -10000) = false := decide_eq_false h5
       by_cases h6 : wrap64 (wrap64 ((atR ax ⟨cx, cy, cw, ch⟩) + aW ax ⟨cx, cy, cw, ch⟩) + aC) > 10000
       ·have hO3 := hO2
        rw [decide_eq_true h6, Bool.true_or] at hO3
        have Vo : decide (wrap64 (wrap64 ((atR ax ⟨cx, cy, cw, ch⟩) + aW ax ⟨cx, cy, cw, ch⟩) + aC) > 10000) = true := decide_eq_true h6
        have h6c : decide (10000 < wrap64 (wrap64 ((atR ax ⟨cx, cy, cw, ch⟩) + aW ax ⟨cx, cy, cw, ch⟩) + aC)) = true := decide_eq_true h6
        clear h4 h5 h6 hO2
        have HO := ae.mk hO3
        clear hO3 hfit
        go_wp2_with ((refine gy 26 6 57 #[.int .u8 0, .int .i64 0, .int .i64 0, .int .i64 0, .int .i64 0, .int .i64 0, .slice none 0 0] 0 7 S ?_; clear S; intro di S))
        refine bodyPost_ret (eH rfl _ _ b6 26 _ (0, 0) _ rfl (S.out.blk _ (.head _) _ rfl) Try.underlying26 rfl (by kernel_rfl)) rfl ?_
        rw [show aN ax ⟨ck, ⟨cx, cy, cw, ch⟩, ay, l⟩ aC = 7 by unfold aN; rw [if_neg (by rw [HB.out]; simp), if_pos HO.out], show aZ ax ⟨ck, ⟨cx, cy, cw, ch⟩, ay, l⟩ aC = z26 by unfold aZ; rw [if_neg (by rw [HB.out]; simp), if_pos HO.out]]
        exact ⟨_, _, rfl, Kd.oO _ _ _ _ _, S.out.below⟩
       ·rw [decide_eq_false h6, Bool.false_or] at hO2
        have Vo : decide (wrap64 (wrap64 ((atR ax ⟨cx, cy, cw, ch⟩) + aW ax ⟨cx, cy, cw, ch⟩) + aC) > 10000) = false := decide_eq_false h6
        have h6c : decide (10000 < wrap64 (wrap64 ((atR ax ⟨cx, cy, cw, ch⟩) + aW ax ⟨cx, cy, cw, ch⟩) + aC)) = false := decide_eq_false h6
        by_cases h7 : wrap64 (aW ax ⟨cx, cy, cw, ch⟩ + aC) < bZ ax ⟨ck, ⟨cx, cy, cw, ch⟩, ay, l⟩
        ·have hO3 := hO2
         rw [decide_eq_true h7] at hO3
         have h7b : decide (wrap64 (aW ax ⟨cx, cy, cw, ch⟩ + aC) < bZ ax ⟨ck, ⟨cx, cy, cw, ch⟩, ay, l⟩) = true := decide_eq_true h7
         clear h4 h5 h6 h7 hO2
         have HO := ae.mk hO3
         clear hO3 hfit
         obtain ⟨bf, bg, bu, bz, bM, bU, bC⟩ := St.dD S aY
         go_wp2_with (first | (refine iI 54 rfl ?_; (refine iV (by rfl) ?_; dsimp only); refine bG (some 54) Try.func152 S (NF ⟨ck, ⟨cx, cy, cw, ch⟩, ay, l⟩ ax HZ.out HT.out (S.out.tree _ (.head _))) ?_; clear S; intro di S; clear bf bg bu bz bM bU bC) | (refine gy 26 6 57 #[.int .u8 0, .int .i64 0, .int .i64 0, .int .i64 0, .int .i64 0, .int .i64 0, .slice none 0 0] 0 7 S ?_; clear S; intro dS S))
         refine bodyPost_ret (eH rfl _ _ b6 26 _ (0, 0) _ rfl (S.out.blk _ (.head _) _ rfl) Try.underlying26 rfl (by kernel_rfl)) rfl ?_
         rw [show aN ax ⟨ck, ⟨cx, cy, cw, ch⟩, ay, l⟩ aC = 7 by unfold aN; rw [if_neg (by rw [HB.out]; simp), if_pos HO.out], show aZ ax ⟨ck, ⟨cx, cy, cw, ch⟩, ay, l⟩ aC = z26 by unfold aZ; rw [if_neg (by rw [HB.out]; simp), if_pos HO.out]]
         exact ⟨_, _, rfl, Kd.oO _ _ _ _ _, S.out.below⟩
        ·rw [decide_eq_false h7] at hO2
         have h7b : decide (wrap64 (aW ax ⟨cx, cy, cw, ch⟩ + aC) < bZ ax ⟨ck, ⟨cx, cy, cw, ch⟩, ay, l⟩) = false := decide_eq_false h7
         have HO := ae.mk hO2
         have hf := hfit hO2
         have HZ2 := ae.mk (show sz ⟨ck, ⟨cx, cy, cw, ch⟩, ay, l⟩ ≤ 100000 by omega)
         have HZ3 := ae.mk (show sz (dQ ax ⟨ck, ⟨cx, cy, cw, ch⟩, ay, l⟩ aC) ≤ 1000000 by rw [(UY ax _).1 _ (Nat.le_refl _)]; omega)
         have HBY := ae.mk (show -100000 ≤ aC ∧ aC ≤ 100000 by omega)
         clear hf hfit h4 h5 h6 h7 hO2
         obtain ⟨bf, bg, bu, bz, bM, bU, bC⟩ := St.dD S aY
         go_wp2_with ((refine iI 54 rfl ?_; (refine iV (by rfl) ?_; dsimp only); refine bG (some 54) Try.func152 S (NF ⟨ck, ⟨cx, cy, cw, ch⟩, ay, l⟩ ax HZ.out HT.out (S.out.tree _ (.head _))) ?_; clear S; intro di S; clear bf bg bu bz bM bU bC))
         refine gX (n := 13) (S := fun w' => St w _ _ _ _ _ w') (ds := [11]) (bA 13 0) (by kernel_rfl) rfl rfl (S.out.call (a_ (Below.refl _ _))) (fun hHeld => ?_); refine dZ zQ.xw zQ.sF (fun aj dE => ?_)
         replace S := ae.mk (S.out.call (a_ (Below.refl _ _)))
         generalize di.drew = wd2 at S hHeld ⊢
         refine b_ 0 58 (bA 13 1) aj dE hHeld ?_ (hv := by intro w' hs_; have bf := (hs_.at aY 0).trans rfl; have bg := (hs_.at aY 1).trans rfl; have bu := (hs_.at aY 2).trans rfl; have bz := (hs_.at aY 3).trans rfl; have bM := (hs_.at aY 4).trans rfl; have bU := (hs_.at aY 5).trans rfl; have bC := (hs_.at aY 6).trans rfl; go_simp; with_reducible rfl)
         refine ak 1 59 (bA 13 3) aj ?_
         refine ak 2 60 (bA 13 7) aj ?_
         refine ak 4 62 (bA 13 23) aj ?_
         refine ak 5 63 (bA 13 55) aj ?_
         refine b_ 6 64 (bA 13 119) aj dE hHeld ?_ (hv := by intro w' hs_; have bg := (hs_.at aY 1).trans rfl; go_simp; with_reducible rfl)
         refine ak 7 65 (bA 13 247) aj ?_
         refine ak 8 66 (bA 13 503) aj ?_
         refine b_ 9 67 (bA 13 1015) aj dE hHeld ?_ (hv := by intro w' hs_; have bu := (hs_.at aY 2).trans rfl; go_simp; with_reducible rfl)
         refine iL 3 (some 61) (bA 13 1023) aj (fun K hK => ?_)
         refine ja Try.func200 (by kernel_rfl) rfl #[.agg #[.int .u8 ck, .int .i64 cx, .int .i64 cy, .int .i64 cw, .int .i64 ch, .int .i64 ay, .slice A l.length cc], .int .u8 ax, .int .i64 aC] (by rfl) rfl rfl (by (try simp only [List.map_toArray, List.map_cons, List.map_nil]); rfl) ?_
         refine (acx ax jh.out 100000 ⟨ck, ⟨cx, cy, cw, ch⟩, ay, l⟩ HZ2.out (Nat.le_refl _) HT.out aC HBY.out _ A cc _ (eY (S.out.tree _ (.head _)))).mono ?_
         rintro e gq ⟨A61, aiw, rfl, h1, hb⟩
         refine ⟨_, rfl, ?_⟩
         replace S := ae.mk (S.out.res (Kd.oD (base' := 0) h1) hb)
         clear h1 hb
         refine hK.out _ _ S.out.bQ (fun hHeld => ?_)
         clear hK K
         refine dR 61 ?_
         refine iL 10 (some 68) (bA 13 2047) aj (fun K hK => ?_)
         refine ja Try.func67 (by kernel_rfl) rfl #[.agg #[.int .u8 ((dQ ax ⟨ck, ⟨cx, cy, cw, ch⟩, ay, l⟩ aC).f0), .int .i64 ((dQ ax ⟨ck, ⟨cx, cy, cw, ch⟩, ay, l⟩ aC).f1.f0), .int .i64 ((dQ ax ⟨ck, ⟨cx, cy, cw, ch⟩, ay, l⟩ aC).f1.f1), .int .i64 ((dQ ax ⟨ck, ⟨cx, cy, cw, ch⟩, ay, l⟩ aC).f1.f2), .int .i64 ((dQ ax ⟨ck, ⟨cx, cy, cw, ch⟩, ay, l⟩ aC).f1.f3), .int .i64 ((dQ ax ⟨ck, ⟨cx, cy, cw, ch⟩, ay, l⟩ aC).f2), .slice A61 ((dQ ax ⟨ck, ⟨cx, cy, cw, ch⟩, ay, l⟩ aC).f3.length) aiw], .int .i64 cx, .int .i64 cy] (by rfl) rfl rfl (by (try simp only [List.map_toArray, List.map_cons, List.map_nil]); rfl) ?_
         refine (zF (dQ ax ⟨ck, ⟨cx, cy, cw, ch⟩, ay, l⟩ aC) cx cy HZ3.out (S.out.tree _ (.head _))).mono ?_
         rintro e gz ⟨A68, XR, rfl, h1, hb⟩
         refine ⟨_, rfl, ?_⟩
         replace S := ae.mk (S.out.yx h1 hb)
         clear h1 hb
         refine hK.out _ _ S.out.free.bQ.bQ (fun hHeld => ?_)
         clear hK K
         refine dR 68 ?_
         refine lV 11 none (bA 13 4095) aj (fun K hK => ?_)
         refine lg 0 rfl 26 (.tmp 6) (.tmp 68) rfl #[.int .u8 ((bD (dQ ax ⟨ck, ⟨cx, cy, cw, ch⟩, ay, l⟩ aC) cx cy).f0), .int .i64 ((bD (dQ ax ⟨ck, ⟨cx, cy, cw, ch⟩, ay, l⟩ aC) cx cy).f1.f0), .int .i64 ((bD (dQ ax ⟨ck, ⟨cx, cy, cw, ch⟩, ay, l⟩ aC) cx cy).f1.f1), .int .i64 ((bD (dQ ax ⟨ck, ⟨cx, cy, cw, ch⟩, ay, l⟩ aC) cx cy).f1.f2), .int .i64 ((bD (dQ ax ⟨ck, ⟨cx, cy, cw, ch⟩, ay, l⟩ aC) cx cy).f1.f3), .int .i64 ((bD (dQ ax ⟨ck, ⟨cx, cy, cw, ch⟩, ay, l⟩ aC) cx cy).f2), .slice A68 ((bD (dQ ax ⟨ck, ⟨cx, cy, cw, ch⟩, ay, l⟩ aC) cx cy).f3.length) XR] (j := 0) (u := .agg #[.int .u8 ((bD (dQ ax ⟨ck, ⟨cx, cy, cw, ch⟩, ay, l⟩ aC) cx cy).f0), .int .i64 ((bD (dQ ax ⟨ck, ⟨cx, cy, cw, ch⟩, ay, l⟩ aC) cx cy).f1.f0), .int .i64 ((bD (dQ ax ⟨ck, ⟨cx, cy, cw, ch⟩, ay, l⟩ aC) cx cy).f1.f1), .int .i64 ((bD (dQ ax ⟨ck, ⟨cx, cy, cw, ch⟩, ay, l⟩ aC) cx cy).f1.f2), .int .i64 ((bD (dQ ax ⟨ck, ⟨cx, cy, cw, ch⟩, ay, l⟩ aC) cx cy).f1.f3), .int .i64 ((bD (dQ ax ⟨ck, ⟨cx, cy, cw, ch⟩, ay, l⟩ aC) cx cy).f2), .slice A68 ((bD (dQ ax ⟨ck, ⟨cx, cy, cw, ch⟩, ay, l⟩ aC) cx cy).f3.length) XR]) (bK := [.int .u8 ((bD (dQ ax ⟨ck, ⟨cx, cy, cw, ch⟩, ay, l⟩ aC) cx cy).f0), .int .i64 ((bD (dQ ax ⟨ck, ⟨cx, cy, cw, ch⟩, ay, l⟩ aC) cx cy).f1.f0), .int .i64 ((bD (dQ ax ⟨ck, ⟨cx, cy, cw, ch⟩, ay, l⟩ aC) cx cy).f1.f1), .int .i64 ((bD (dQ ax ⟨ck, ⟨cx, cy, cw, ch⟩, ay, l⟩ aC) cx cy).f1.f2), .int .i64 ((bD (dQ ax ⟨ck, ⟨cx, cy, cw, ch⟩, ay, l⟩ aC) cx cy).f1.f3), .int .i64 ((bD (dQ ax ⟨ck, ⟨cx, cy, cw, ch⟩, ay, l⟩ aC) cx cy).f2), .slice A68 ((bD (dQ ax ⟨ck, ⟨cx, cy, cw, ch⟩, ay, l⟩ aC) cx cy).f3.length) XR]) S.out (by rfl) rfl rfl rfl rfl (by kernel_rfl) (by simp [Value.oneCell']) (by simp) rfl ?_
         intro kG S1
         simp only [List.set_cons_zero, List.set_cons_succ] at S1
         replace S := ae.mk S1
         clear S1
         refine hK.out _ _ ?_
         clear hK K
         refine ak 12 7 (bA 13 8191) aj ?_
         refine jf (fJ aj.out (by kernel_rfl)) ?_
         clear hHeld
         go_wp2
         refine bodyPost_ret (eH rfl _ _ b6 26 _ (0, 0) _ rfl (S.out.blk _ (.head _) _ rfl) Try.underlying26 rfl (by kernel_rfl)) rfl ?_
         rw [show aN ax ⟨ck, ⟨cx, cy, cw, ch⟩, ay, l⟩ aC = 0 by unfold aN; rw [if_neg (by rw [HB.out]; simp), if_neg (by rw [HO.out]; simp)], show aZ ax ⟨ck, ⟨cx, cy, cw, ch⟩, ay, l⟩ aC = bD (dQ ax ⟨ck, ⟨cx, cy, cw, ch⟩, ay, l⟩ aC) cx cy by unfold aZ; rw [if_neg (by rw [HB.out]; simp), if_neg (by rw [HO.out]; simp)]]
         exact ⟨_, _, rfl, S.out.oV, S.out.below⟩
theorem acN (c : ai) (hz : dU c.f3 ≤ 1000000) (i : Nat) (hi : i < c.f3.length) (ax n : Int) (P : Nat → Prop) (A : Option Addr) (cc : Nat) (w : World) (hv : Kd.V k26 26 w w.heap.size P (.slice A c.f3.length cc) c.f3) :
  Calls Try.prog 161 #[.agg #[.int .u8 c.f0, .int .i64 c.f1.f0, .int .i64 c.f1.f1, .int .i64 c.f1.f2, .int .i64 c.f1.f3, .int .i64 c.f2, .slice A c.f3.length cc], .int .i64 (i : Int), .int .u8 ax, .int .i64 n] w (yX w P ⟨c.f0, c.f1, c.f2, cZ ax i n c.f3⟩) := by
 have S := ae.mk (St.start (ts := [(.slice A c.f3.length cc, c.f3)]) (b0 := w.heap.size) (w := w) (P := P) (fun t ht => by rw [List.mem_singleton.1 ht]; exact hv))
 obtain ⟨ck, ⟨cx, cy, cw, ch⟩, ay, l⟩ := c
 simp only [] at S hi hz ⊢
 have gY := ae.mk (show l.length ≤ 1000000 by have := ig l; omega)
 have g_ := ae.mk hi
 have HI1 := ae.mk (show (i : Int) < (l.length : Int) by omega)
 have Dl := ae.mk hz
 clear hv hz hi
 unfold cZ
 obtain ⟨k, hk⟩ : ∃ k, k = kd l i := ⟨_, rfl⟩
 rw [← hk]
 have HKD := ae.mk hk
 have ik := ae.mk (show sz k ≤ 1000000 by have := tC (jP g_.out); rw [hk]; have := Dl.out; omega)
 have Ez := ae.mk (show sz (bD k 0 0) ≤ 1048576 by rw [(Qp (sz k)).1 _ (Nat.le_refl _)]; have := ik.out; omega)
 have hlz : (i : Int) < (l.length : Int) := HI1.out
 have hln : i < l.length := g_.out
 have hi0 : (0 : Int) ≤ (i : Int) := Int.natCast_nonneg _
 clear hk
 go_enter Try.func161, Try.ntmps161
 go_wp2_with (first | (refine boxS 4 _ 26 S ?_; clear S; intro b4 di S) | (refine boxS 8 _ 26 S ?_; clear S; intro b8 dS S) | ((with_reducible refine aG (N := 10) rfl ?_); refine Jz (N := 10) rfl rfl S.out ?hr ?_; (case hr => (go_simp; done)); intro Ae ce gq S1; replace S := ae.mk S1; clear S1; have dM := (S.out.at aY 6).trans rfl) | ((with_reducible refine aG (N := 13) rfl ?_); at_builtin; refine Du 24 (.tmp 10) (.tmp 12) rfl rfl Try.underlying24 info26 S.out (.head _) rfl rfl (by have := gY.out; simp only [List.length_nil]; omega) ?_; intro Ag cg gz S1; simp only [List.nil_append] at S1; obtain ⟨gk, aix, ev, _⟩ := Kd.wE S1.oV (by have := g_.out; omega); injection ev with e1 e2 e3; subst e1; subst e3; clear e2; simp only [List.nil_append]; obtain ⟨ua, uc, S2, hcell⟩ := S1.Gy (i : Int) (Int.natCast_nonneg _) HI1.out; rw [Ju, ← HKD.out] at S2 hcell; simp only [Int.toNat_natCast] at hcell; have xe0 := (show gz.cell? ⟨gk, i * 7, none⟩ = some (.int .u8 k.f0) from hcell 0 _ rfl); have xe1 := (show gz.cell? ⟨gk, i * 7 + 1, none⟩ = some (.int .i64 k.f1.f0) from hcell 1 _ rfl); have xe2 := (show gz.cell? ⟨gk, i * 7 + 2, none⟩ = some (.int .i64 k.f1.f1) from hcell 2 _ rfl); have xe3 := (show gz.cell? ⟨gk, i * 7 + 3, none⟩ = some (.int .i64 k.f1.f2) from hcell 3 _ rfl); have xe4 := (show gz.cell? ⟨gk, i * 7 + 4, none⟩ = some (.int .i64 k.f1.f3) from hcell 4 _ rfl); have xe5 := (show gz.cell? ⟨gk, i * 7 + 5, none⟩ = some (.int .i64 k.f2) from hcell 5 _ rfl); have xe6 := (show gz.cell? ⟨gk, i * 7 + 6, none⟩ = some (.slice ua k.f3.length uc) from hcell 6 _ rfl); replace S := ae.mk S2; clear S1 S2 hcell; clear dM) | (refine wZ (some 21) Try.func67 S (zF k 0 0 ik.out (S.out.tree _ (.head _))) ?_; clear S; intro A1 c1 kG S; clear xe0 xe1 xe2 xe3 xe4 xe5 xe6) | (refine wZ (some 24) Try.func184 S (TZ ax (bD k 0 0) Ez.out n _ _ _ _ (eY (S.out.tree _ (.head _)))) ?_; clear S; intro A2 c2 tJ S) | ((with_reducible refine mG (.store 26 (.tmp 27) (.tmp 25)) rfl ?_); go_loud (refine W_ (i : Int) (yJ ax n k) (.tmp 27) (.tmp 25) rfl S.out (Int.natCast_nonneg _) HI1.out ?sA ?sX (by kernel_rfl) (.head _) rfl rfl ?_; (case sA => rfl); (case sX => rfl); intro vV S1; rw [Int.toNat_natCast] at S1; replace S := ae.mk S1; clear S1)) | (refine uk 24 29 28 #[.int .u8 ck, .int .i64 cx, .int .i64 cy, .int .i64 cw, .int .i64 ch, .int .i64 ay, .slice (some ⟨gk, 0, none⟩) l.length cg] 6 1 S ?_; clear S; intro wV S; obtain ⟨d_, dn, dA, ed, eF, eG, dM⟩ := St.dD S aY) | (refine gy 26 8 30 #[.int .u8 ck, .int .i64 cx, .int .i64 cy, .int .i64 cw, .int .i64 ch, .int .i64 ay, .slice (some ⟨gk, 0, none⟩) l.length cg] 0 7 S ?_; clear S; intro Gn S; clear d_ dn dA ed eF eG dM))
 refine bodyPost_ret (results_cell_row rfl _ _ b8 26 _ (0, 0) _ rfl (S.out.blk _ (.head _) _ rfl) Try.underlying26 rfl (by kernel_rfl)) rfl ?_
 simp only [yX, List.length_set]
 exact ⟨_, _, rfl, S.out.oV, S.out.below⟩
end Go.Proofs.Ytfdmfgaiblfbhaa.P
