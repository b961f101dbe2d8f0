/- SplitIs: part 5 of 6 of this claim's texts, one behind the other, made small by a program: the words of the kit's printer cut down to those that are used, the claim's own names made short. -/
import Derived.Test.YtfdmfgaiblfbhaaMSplitIsd
import Derived.Lib.AppendZerosOnto
import Derived.Lib.Overlaps
import Derived.Shelf.Spec.SlicesInsert
import Derived.Test.YtfdmfgaiblfbhaaMSplitIsc
import Derived.ProofKit
import Derived.Deep.Slices
import Derived.Lib.SmallJoins
import Derived.OpenShut
set_option maxHeartbeats 8000000
set_option maxRecDepth 100000
set_option linter.unusedVariables false
set_option linter.unusedSimpArgs false
namespace Go.Proofs.Ytfdmfgaiblfbhaa.P
open Go.RowKit Go.Proofs.ag.aA Go.Proofs.ag.bg Go.Proofs.ag.bG
theorem FO {rows : List (List Value)} {cs : List Value} (h : bF (fun (x : List Value) (c : List Value) => c = x ∧ c.length = 7 ∧ ∀ u ∈ c, u.oneCell' = true) 7 rows cs) : ∀ u ∈ cs, u.oneCell' = true := by
 intro u hu
 obtain ⟨k, hk⟩ := List.getElem?_of_mem hu
 have hkl := (List.getElem?_eq_some_iff.1 hk).1
 rw [h.1] at hkl
 have hq : k / 7 < rows.length := by omega
 obtain ⟨_, _, h3⟩ := h.2 (k / 7) _ (List.getElem?_eq_getElem hq)
 refine h3 u ?_
 refine List.mem_of_getElem? (i := k % 7) ?_
 rw [List.getElem?_take, if_pos (by omega), List.getElem?_drop, show k / 7 * 7 + k % 7 = k by omega]
 exact hk
theorem Wp {Pr : Program} {W : World} {base g n cap m i j : Nat} {ok fG : Nat → Prop} {xs ys : List ai} {a : Addr} (inf : TypeInfo) (hu : Pr.underlying 24 = some (.slice 26)) (hi : Pr.info? 26 = some inf) (hs : inf.size = 7)
  (HN : Kd.N k26 26 W base ok (.slice (some ⟨g, 0, none⟩) n cap) xs) (HF : Kd.F k26 W fG (some a) m ys) (iU : ∀ k, fG k → ok k ∧ k ≠ g) (hfresh : ∀ k, W.heap.size ≤ k → ok k) (hij : i ≤ j) (hjn : j ≤ n) (hroom : i + m + (n - j) ≤ cap) :
  ∃ gm jC : Array Value,
   (∀ ty dLen dCap sCap, n - j ≤ dLen → (Builtin.copy_ #[24, 24] ty #[.slice (some ⟨g, (i + m) * 7, none⟩) dLen dCap, .slice (some ⟨g, j * 7, none⟩) (n - j) sCap]).run Pr W = .ok (goInt ((n - j : Nat))) (W.setRow g gm)) ∧
   (∀ ty dLen dCap sCap (V : World), V.heap = (W.setRow g gm).heap → m ≤ dLen → (Builtin.copy_ #[24, 24] ty #[.slice (some ⟨g, i * 7, none⟩) dLen dCap, .slice (some a) m sCap]).run Pr V = .ok (goInt m) (V.setRow g jC)) ∧
   (∀ V : World, V.heap = (W.setRow g gm).heap → V.os = W.os → V.tape = W.tape → V.output = W.output → W.grownBy (V.setRow g jC) (some g) ∧ Kd.N k26 26 (V.setRow g jC) base ok (.slice (some ⟨g, 0, none⟩) (i + m + (n - j)) cap) (xs.take i ++ ys ++ xs.drop j)) := by
 obtain ⟨h0, rows, hl, ⟨_, inner, ho, hr⟩, hf⟩ := HN
 have hg0 : base ≤ g ∧ ∃ cur, W.heap[g]? = some (.cells cur 26 (0, 0)) ∧ n ≤ cap ∧ cap ≤ maxLen ∧ cur.size = cap * 7 ∧ cur.toList.take (n * 7) = inner ∧ n = rows.length := by
  rcases ho.2 with ⟨hv, _⟩ | ⟨g', cap', cur, hv, hb, hh, h1, h2, h3, h4⟩
  ·cases hv
  ·injection hv with hv1 hv2 hv3
   injection hv1 with hv1
   injection hv1 with hv1
   subst hv1 hv2 hv3
   exact ⟨hb, cur, hh, h1, h2, h3, h4, rfl⟩
 obtain ⟨hbg, cur, zZ, hnc, hcm, hcs, hin, hnr⟩ := hg0
 have hil : inner.length = n * 7 := by rw [hr.1, hnr]; rfl
 have hr' : bF (fun (x : List Value) (c : List Value) => c = x ∧ c.length = 7 ∧ ∀ u ∈ c, u.oneCell' = true) 7 rows inner := hr
 have hrd := Kd.LQ (m := j) hr'
 have hdl : (inner.drop (j * 7)).length = (n - j) * 7 := by rw [List.length_drop, hil]; omega
 obtain ⟨gm, CO⟩ : ∃ q, q = (cur.toList.take ((i + m) * 7) ++ inner.drop (j * 7) ++ cur.toList.drop ((i + m) * 7 + (inner.drop (j * 7)).length)).toArray := ⟨_, rfl⟩
 have hV0 : (W.setRow g gm).heap[g]? = some (.cells gm 26 (0, 0)) := setRow_heap W g cur gm 26 (0, 0) zZ
 have hsz1 : gm.size = cap * 7 := by
  rw [CO, List.size_toArray]
  simp only [List.length_append, List.length_take, List.length_drop, Array.length_toList, hil, hcs]
  omega
 have gb : W.grownBy (W.setRow g gm) (some g) := ⟨rfl, rfl, rfl, by simp, fun k _ hk => setRow_other W g k gm (fun e => hk (by rw [e]))⟩
 have HF1 : Kd.F k26 (W.setRow g gm) fG (some a) m ys := Kd.Je HF gb (fun k hk e => (iU k hk).2 (by injection e))
 obtain ⟨news, hnl, O4, hnf⟩ := Kd.EF (Kd.MX HF1) (fun y c hk => ⟨k26.ja (Kd.nO hk), k26.iV (Kd.nO hk)⟩)
 obtain ⟨cs2, hr2, hc2⟩ := iP.Et O4
 have hr2' : bF (fun (x : List Value) (c : List Value) => c = x ∧ c.length = 7 ∧ ∀ u ∈ c, u.oneCell' = true) 7 news cs2 := hr2
 have hnm : news.length = m := O4.1
 have zY : cs2.length = m * 7 := by rw [hr2'.1, hnm]
 obtain ⟨jC, CP⟩ : ∃ q, q = (gm.toList.take (i * 7) ++ cs2 ++ gm.toList.drop (i * 7 + cs2.length)).toArray := ⟨_, rfl⟩
 have hsz2 : jC.size = cap * 7 := by
  rw [CP, List.size_toArray]
  simp only [List.length_append, List.length_take, List.length_drop, Array.length_toList, zY, hsz1]
  omega
 have hmin : ∀ {p q : Nat}, p ≤ q → Nat.min p q = p := fun h => Nat.min_eq_left h
 refine ⟨gm, jC, fun ty dLen dCap sCap hd => ?_, fun ty dLen dCap sCap V hV hd => ?_, fun V hV h1 h2 h3 => ?_⟩
 ·have h := x_ (P := Pr) W 24 24 ty 26 inf g ((i + m) * 7) dLen dCap ⟨g, j * 7, none⟩ (n - j) sCap cur 26 (inner.drop (j * 7)) (n - j) hu hi (hmin hd) (by rw [hs]; exact hdl) zZ (fun q u hq => by
    rw [BB, cell_of_row W g _ cur 26 (0, 0) zZ]
    rw [List.getElem?_drop, ← hin, List.getElem?_take] at hq
    split at hq
    ·simpa using hq
    ·cases hq) (by rw [hdl, hcs]; omega) (FO hrd)
  rw [h, ← CO]
 ·have hVg : V.heap[g]? = some (.cells gm 26 (0, 0)) := by rw [hV]; exact hV0
  have h := x_ (P := Pr) V 24 24 ty 26 inf g (i * 7) dLen dCap a m sCap gm 26 cs2 m hu hi (hmin hd) (by rw [hs]; exact zY) hVg (fun q u hq => by
    rw [show V.cell? (a.add q) = (W.setRow g gm).cell? (a.add q) by unfold World.cell?; rw [hV]]
    exact hc2 q u hq) (by rw [zY, hsz1]; omega) (FO hr2')
  rw [h, ← CP]
 ·have hVs : (V.setRow g jC).heap.size = W.heap.size := by rw [setRow_size, hV, setRow_size]
  have hVo : ∀ k, k ≠ g → (V.setRow g jC).heap[k]? = W.heap[k]? := fun k hk => by rw [setRow_other V g k jC hk, hV, setRow_other W g k gm hk]
  have hVg : V.heap[g]? = some (.cells gm 26 (0, 0)) := by rw [hV]; exact hV0
  have U4 : W.grownBy (V.setRow g jC) (some g) := ⟨h1, h2, h3, by rw [hVs]; exact Nat.le_refl _, fun k _ hk => hVo k (fun e => hk (by rw [e]))⟩
  have hob : ∀ q : Nat, (Value.slice (some ⟨g, 0, none⟩) q cap).ownBlock = some g := fun _ => rfl
  refine ⟨U4, ?_⟩
  have tg := L6 (i := i) (j := j) (Rr := fun x c => Kd.FK k26 W (fun k => ok k ∧ some k ≠ (Value.slice (some ⟨g, 0, none⟩) n cap).ownBlock) x c) hl hnl hf (fun k y c hy hc => by
   have h := hnf k y c hy hc
   refine Kd.tK (Kd.xh h (W1 := W) (fun q hq _ => ?_)) (fun q hq => ⟨(iU q hq).1, fun e => (iU q hq).2 (by rw [hob] at e; injection e)⟩)
   exact (setRow_other W g q gm (iU q hq).2).symm)
  refine Qp (v := .slice (some ⟨g, 0, none⟩) n cap) (rows := rows.take i ++ news ++ rows.drop j) h0 tg.1 tg.2 hfresh ⟨fun _ _ => trivial, inner.take (i * 7) ++ cs2 ++ inner.drop (j * 7), ?_, ?_⟩ (by rw [hob]; exact U4) (.inl rfl)
  ·have hrl : (rows.take i ++ news ++ rows.drop j).length = i + m + (n - j) := by rw [List.length_append, List.length_append, List.length_take, List.length_drop, hnm, ← hnr]; omega
   rw [hrl]
   refine ⟨?_, .inr ⟨g, cap, jC, rfl, hbg, setRow_heap V g gm jC 26 (0, 0) hVg, hroom, hcm, hsz2, ?_⟩⟩
   ·show _ = (i + m + (n - j)) * 7
    rw [List.length_append, List.length_append, List.length_take, hdl, zY, hil]
    omega
   ·show jC.toList.take ((i + m + (n - j)) * 7) = _
    have h := TT (cur := cur.toList) (inner := inner) (cs2 := cs2) (a := i * 7) (b := j * 7) (c := n * 7) (m := m * 7) hin hil (by rw [Array.length_toList, hcs]; omega) (by omega) (by omega) zY
    rw [CP, CO]
    simp only [List.toList_toArray]
    rw [show (i + m + (n - j)) * 7 = i * 7 + m * 7 + (n * 7 - j * 7) by omega, show (i + m) * 7 = i * 7 + m * 7 by omega]
    exact h
  ·exact Kd.rP (Kd.rP (Kd.EK hr' (by omega)) hr2') hrd
theorem Qd {cur olds cs2 tl : List Value} {a m t : Nat} (ho : cur.take a = olds) (ha : olds.length = a) (hm : cs2.length = m) (ht : tl.length = t) (hfit : a + m + t ≤ cur.length) :
  (((cur.take a ++ cs2 ++ cur.drop (a + cs2.length)).take (a + m) ++ tl ++ (cur.take a ++ cs2 ++ cur.drop (a + cs2.length)).drop (a + m + tl.length)).take (a + m + t)) = olds ++ cs2 ++ tl := by
 have e1 : (cur.take a ++ cs2 ++ cur.drop (a + cs2.length)).take (a + m) = olds ++ cs2 := by
  rw [ho, List.take_append_of_le_length (by rw [List.length_append]; omega)]
  exact List.take_of_length_le (by rw [List.length_append]; omega)
 rw [e1, List.take_append_of_le_length (by rw [List.length_append, List.length_append]; omega)]
 exact List.take_of_length_le (by rw [List.length_append, List.length_append]; omega)
theorem U5 {Pr : Program} {W : World} {base g n cap m i j : Nat} {ok fG : Nat → Prop} {xs ys : List ai} {a : Addr} (inf : TypeInfo) (z : Value) {kn : IntKind} (hu : Pr.underlying 24 = some (.slice 26)) (hu3 : Pr.underlying 3 = some (.int kn)) (hi : Pr.info? 26 = some inf) (hs : inf.size = 7) (hz : inf.zero = some z) (hzs : z.cells.size = 7) (hby : inf.bytes = 72)
  (HN : Kd.N k26 26 W base ok (.slice (some ⟨g, 0, none⟩) n cap) xs) (HF : Kd.F k26 W fG (some a) m ys) (iU : ∀ k, fG k → ok k ∧ k ≠ g) (hfresh : ∀ k, W.heap.size ≤ k → ok k) (hbase : base ≤ W.heap.size) (hij : i ≤ j) (hjn : j ≤ n) (hm0 : 0 < m) (hroom : cap < i + m + (n - j)) (hl : i + m + (n - j) ≤ 1000000000) :
  ∃ (cap' : Nat) (jP gm jC : Array Value),
   i + m + (n - j) ≤ cap' ∧ (∀ ty kq, (Builtin.append_ #[24, 3] ty #[.slice (some ⟨g, 0, none⟩) i cap, .int kq ((m + (n - j) : Nat) : Int)]).run Pr W = .ok (.slice (some ⟨W.heap.size, 0, none⟩) (i + m + (n - j)) cap') (W.drew.alloc (.cells jP 26))) ∧
   (∀ ty dLen dCap sCap (V : World), V.heap = (W.drew.alloc (.cells jP 26)).heap → m ≤ dLen → (Builtin.copy_ #[24, 24] ty #[.slice (some ⟨W.heap.size, i * 7, none⟩) dLen dCap, .slice (some a) m sCap]).run Pr V = .ok (goInt m) (V.setRow W.heap.size gm)) ∧
   (∀ ty dLen dCap sCap (V : World), V.heap = ((W.drew.alloc (.cells jP 26)).setRow W.heap.size gm).heap → n - j ≤ dLen → (Builtin.copy_ #[24, 24] ty #[.slice (some ⟨W.heap.size, (i + m) * 7, none⟩) dLen dCap, .slice (some ⟨g, j * 7, none⟩) (n - j) sCap]).run Pr V = .ok (goInt ((n - j : Nat))) (V.setRow W.heap.size jC)) ∧
   (∀ V : World, V.heap = ((W.drew.alloc (.cells jP 26)).setRow W.heap.size gm).heap → V.os = W.os → V.tape = W.tape → V.output = W.output → W.grownBy (V.setRow W.heap.size jC) (some g) ∧ Kd.N k26 26 (V.setRow W.heap.size jC) base ok (.slice (some ⟨W.heap.size, 0, none⟩) (i + m + (n - j)) cap') (xs.take i ++ ys ++ xs.drop j)) := by
 obtain ⟨h0, rows, hlr, ⟨_, inner, ho, hr⟩, hf⟩ := HN
 have hg0 : base ≤ g ∧ ∃ cur, W.heap[g]? = some (.cells cur 26 (0, 0)) ∧ n ≤ cap ∧ cap ≤ maxLen ∧ cur.size = cap * 7 ∧ cur.toList.take (n * 7) = inner ∧ n = rows.length := by
  rcases ho.2 with ⟨hv, _⟩ | ⟨g', cap', cur, hv, hb, hh, h1, h2, h3, h4⟩
  ·cases hv
  ·injection hv with hv1 hv2 hv3
   injection hv1 with hv1
   injection hv1 with hv1
   subst hv1 hv2 hv3
   exact ⟨hb, cur, hh, h1, h2, h3, h4, rfl⟩
 obtain ⟨hbg, cur, zZ, hnc, hcm, hcs, hin, hnr⟩ := hg0
 have hgl : g < W.heap.size := (Array.getElem?_eq_some_iff.1 zZ).1
 have hil : inner.length = n * 7 := by rw [hr.1, hnr]; rfl
 have hr' : bF (fun (x : List Value) (c : List Value) => c = x ∧ c.length = 7 ∧ ∀ u ∈ c, u.oneCell' = true) 7 rows inner := hr
 have hrd := Kd.LQ (m := j) hr'
 have hdl : (inner.drop (j * 7)).length = (n - j) * 7 := by rw [List.length_drop, hil]; omega
 have Jy : ∀ (V : World), V.heap[g]? = some (.cells cur 26 (0, 0)) → ∀ q u, inner[q]? = some u → V.cell? ⟨g, q, none⟩ = some u := by
  intro V hV q u hq
  rw [cell_of_row V g _ cur 26 (0, 0) hV]
  rw [← hin, List.getElem?_take] at hq
  split at hq
  ·simpa using hq
  ·cases hq
 have hold : (Builtin.firstCells inf.size i (.slice (some ⟨g, 0, none⟩) i cap)).run Pr W.drew = .ok (inner.take (i * 7)).toArray W.drew := by
  refine run_firstCells_some W.drew inf.size i _ i cap _ (by rw [List.length_take, hil, hs]; omega) (fun q u hq => ?_)
  rw [BB, Nat.zero_add]
  rw [List.getElem?_take] at hq
  split at hq
  ·exact Jy W.drew zZ q u hq
  ·cases hq
 obtain ⟨cap', hcap'⟩ : ∃ q, q = grownCap W (i + (m + (n - j))) cap 26 := ⟨_, rfl⟩
 have hc1 : i + (m + (n - j)) ≤ cap' := by rw [hcap']; exact grownCap_ge _ _ _ _
 have hc2 : cap' ≤ maxLen := by rw [hcap']; exact grownCap_le_maxLen _ _ _ _ (by unfold maxLen; omega)
 obtain ⟨jP, SG⟩ : ∃ q, q = ((inner.take (i * 7)).toArray ++ Builtin.zeroCells z.cells (m + (n - j)) ++ Builtin.zeroCells z.cells (cap' - (i + (m + (n - j))))) := ⟨_, rfl⟩
 have hsz0 : jP.size = cap' * 7 := by
  rw [SG]
  simp only [Array.size_append, List.size_toArray, List.length_take, hil, size_zeroCells, hzs]
  omega
 have hal : W.grownBy (W.drew.alloc (.cells jP 26)) none := ⟨rfl, rfl, rfl, by simp, fun k hk _ => heap_alloc_old W.drew (.cells jP 26) hk⟩
 have hnew : (W.drew.alloc (.cells jP 26)).heap[W.heap.size]? = some (.cells jP 26 (0, 0)) := heap_alloc_new W.drew (.cells jP 26)
 have YW : (W.drew.alloc (.cells jP 26)).heap[g]? = some (.cells cur 26 (0, 0)) := by rw [hal.block g hgl (by simp)]; exact zZ
 obtain ⟨W1, hW1⟩ : ∃ q, q = W.drew.alloc (.cells jP 26) := ⟨_, rfl⟩
 rw [← hW1] at hal hnew YW
 have HF1 : Kd.F k26 W1 (fun k => fG k ∧ k < W.heap.size) (some a) m ys := Kd.Je (Kd.E_ HF) hal (fun k hk e => by cases e)
 obtain ⟨news, hnl, O4, hnf⟩ := Kd.EF (Kd.MX HF1) (fun y c hk => ⟨k26.ja (Kd.nO hk), k26.iV (Kd.nO hk)⟩)
 obtain ⟨cs2, hr2, hc2'⟩ := iP.Et O4
 have hr2' : bF (fun (x : List Value) (c : List Value) => c = x ∧ c.length = 7 ∧ ∀ u ∈ c, u.oneCell' = true) 7 news cs2 := hr2
 have hnm : news.length = m := O4.1
 have zY : cs2.length = m * 7 := by rw [hr2'.1, hnm]
 obtain ⟨gm, CO⟩ : ∃ q, q = (jP.toList.take (i * 7) ++ cs2 ++ jP.toList.drop (i * 7 + cs2.length)).toArray := ⟨_, rfl⟩
 have hsz1 : gm.size = cap' * 7 := by
  rw [CO, List.size_toArray]
  simp only [List.length_append, List.length_take, List.length_drop, Array.length_toList, zY, hsz0]
  omega
 obtain ⟨jC, CP⟩ : ∃ q, q = (gm.toList.take ((i + m) * 7) ++ inner.drop (j * 7) ++ gm.toList.drop ((i + m) * 7 + (inner.drop (j * 7)).length)).toArray := ⟨_, rfl⟩
 have hsz2 : jC.size = cap' * 7 := by
  rw [CP, List.size_toArray]
  simp only [List.length_append, List.length_take, List.length_drop, Array.length_toList, hil, hsz1]
  omega
 have hV1 : (W1.setRow W.heap.size gm).heap[W.heap.size]? = some (.cells gm 26 (0, 0)) := setRow_heap W1 _ jP gm 26 (0, 0) hnew
 have ahW : (W1.setRow W.heap.size gm).heap[g]? = some (.cells cur 26 (0, 0)) := by rw [setRow_other W1 _ g gm (by omega)]; exact YW
 have hmin : ∀ {p q : Nat}, p ≤ q → Nat.min p q = p := fun h => Nat.min_eq_left h
 refine ⟨cap', jP, gm, jC, ?_⟩
 rw [← hW1]
 refine ⟨by omega, fun ty kq => ?_, fun ty dLen dCap sCap V hV hd => ?_, fun ty dLen dCap sCap V hV hd => ?_, fun V hV h1 h2 h3 => ?_⟩
 ·have h := Go.Lib.run_append_grow_zeros (P := Pr) W 24 3 ty 26 inf z kq kn hu hu3 hi hz (some ⟨g, 0, none⟩) i cap (inner.take (i * 7)) hold (m + (n - j)) (by omega) (by rw [hs]; decide) (by omega) (by omega) (by rw [hby]; omega) (by rw [hby]; exact growslice_fits (by omega) (by omega))
  rw [h, ← hcap', ← SG, ← hW1, Nat.add_assoc]
 ·have h := x_ (P := Pr) V 24 24 ty 26 inf W.heap.size (i * 7) dLen dCap a m sCap jP 26 cs2 m hu hi (hmin hd) (by rw [hs]; exact zY) (by rw [hV]; exact hnew) (fun q u hq => by
    rw [show V.cell? (a.add q) = W1.cell? (a.add q) by unfold World.cell?; rw [hV]]
    exact hc2' q u hq) (by rw [zY, hsz0]; omega) (FO hr2')
  rw [h, ← CO]
 ·have h := x_ (P := Pr) V 24 24 ty 26 inf W.heap.size ((i + m) * 7) dLen dCap ⟨g, j * 7, none⟩ (n - j) sCap gm 26 (inner.drop (j * 7)) (n - j) hu hi (hmin hd) (by rw [hs]; exact hdl) (by rw [hV]; exact hV1) (fun q u hq => by
    rw [BB]
    rw [List.getElem?_drop] at hq
    exact Jy V (by rw [hV]; exact ahW) _ u hq) (by rw [hdl, hsz1]; omega) (FO hrd)
  rw [h, ← CP]
 ·have ahV : W1.heap.size = W.heap.size + 1 := by rw [hW1]; simp
  have hVs : (V.setRow W.heap.size jC).heap.size = W.heap.size + 1 := by rw [setRow_size, hV, setRow_size, ahV]
  have hVo : ∀ k, k < W.heap.size → (V.setRow W.heap.size jC).heap[k]? = W.heap[k]? := fun k hk => by rw [setRow_other V _ k jC (by omega), hV, setRow_other W1 _ k gm (by omega)]; exact hal.block k hk (by simp)
  have U4 : W.grownBy (V.setRow W.heap.size jC) (some g) := ⟨h1, h2, h3, by rw [hVs]; omega, fun k hk _ => hVo k hk⟩
  refine ⟨U4, ?_⟩
  have tg := L6 (i := i) (j := j) (Rr := fun x c => Kd.FK k26 W (fun k => ok k ∧ some k ≠ (Value.slice (some ⟨g, 0, none⟩) n cap).ownBlock) x c) hlr hnl hf (fun k y c hy hc => by
   have h := hnf k y c hy hc
   refine Kd.tK (Kd.xh h (W1 := W) (fun q hq _ => ?_)) (fun q hq => ⟨(iU q hq.1).1, fun e => (iU q hq.1).2 (by injection e)⟩)
   exact (hal.block q hq.2 (by simp)).symm)
  refine Qp (v := .slice (some ⟨g, 0, none⟩) n cap) (rows := rows.take i ++ news ++ rows.drop j) h0 tg.1 tg.2 hfresh ⟨fun _ _ => trivial, inner.take (i * 7) ++ cs2 ++ inner.drop (j * 7), ?_, ?_⟩ U4 (.inr ⟨W.heap.size, rfl, Nat.le_refl _⟩)
  ·have hrl : (rows.take i ++ news ++ rows.drop j).length = i + m + (n - j) := by rw [List.length_append, List.length_append, List.length_take, List.length_drop, hnm, ← hnr]; omega
   rw [hrl]
   refine ⟨?_, .inr ⟨W.heap.size, cap', jC, rfl, hbase, setRow_heap V _ gm jC 26 (0, 0) (by rw [hV]; exact hV1), by omega, hc2, hsz2, ?_⟩⟩
   ·show _ = (i + m + (n - j)) * 7
    rw [List.length_append, List.length_append, List.length_take, hdl, zY, hil]
    omega
   ·show jC.toList.take ((i + m + (n - j)) * 7) = _
    have h := Qd (cur := jP.toList) (olds := inner.take (i * 7)) (cs2 := cs2) (tl := inner.drop (j * 7)) (a := i * 7) (m := m * 7) (t := (n - j) * 7) (by
     rw [SG]
     simp only [Array.toList_append, List.append_assoc]
     rw [List.take_append_of_le_length (by rw [List.length_take, hil]; omega)]
     exact List.take_of_length_le (by rw [List.length_take]; omega)) (by rw [List.length_take, hil]; omega) zY hdl (by rw [Array.length_toList, hsz0]; omega)
    rw [CP, CO]
    simp only [List.toList_toArray]
    rw [show (i + m + (n - j)) * 7 = i * 7 + m * 7 + (n - j) * 7 by omega, show (i + m) * 7 = i * 7 + m * 7 by omega]
    exact h
  ·exact Kd.rP (Kd.rP (Kd.EK hr' (by omega)) hr2') hrd
section
variable {Pr : Program} {w W : World} {P : Nat → Prop} {bs : List (Option Nat × Obj)} {ts : List (Value × List ai)} {ro : List (Addr × Value)} {gr n cap m c i j : Nat} {xs ys : List ai} {a : Addr}
theorem Ld {w W W1 : World} {g : Nat} (hb : Below w.heap.size w W) (hg : W.grownBy W1 (some g)) (hg0 : w.heap.size ≤ g) : Below w.heap.size w W1 :=
 ⟨hg.os.trans hb.os, hg.tape.trans hb.tape, hg.output.trans hb.output, Nat.le_trans hb.size hg.size, fun k hk => (hg.block k (Nat.lt_of_lt_of_le hk hb.size) (fun e => by injection e with e; omega)).trans (hb.block k hk)⟩
theorem St.room (inf : TypeInfo) (hu : Pr.underlying 24 = some (.slice 26)) (hi : Pr.info? 26 = some inf) (hs : inf.size = 7)
  (S : St w P bs [(.slice (some ⟨gr, 0, none⟩) n cap, xs)] ts ro W) (hm : (.slice (some a) m c, ys) ∈ ts) (hij : i ≤ j) (hjn : j ≤ n) (hroom : i + m + (n - j) ≤ cap) :
  ∃ gm jC : Array Value,
   (∀ ty dLen dCap sCap, n - j ≤ dLen → (Builtin.copy_ #[24, 24] ty #[.slice (some ⟨gr, (i + m) * 7, none⟩) dLen dCap, .slice (some ⟨gr, j * 7, none⟩) (n - j) sCap]).run Pr W = .ok (goInt ((n - j : Nat))) (W.setRow gr gm)) ∧
   (∀ ty dLen dCap sCap (V : World), V.heap = (W.setRow gr gm).heap → m ≤ dLen → (Builtin.copy_ #[24, 24] ty #[.slice (some ⟨gr, i * 7, none⟩) dLen dCap, .slice (some a) m sCap]).run Pr V = .ok (goInt m) (V.setRow gr jC)) ∧
   (∀ V : World, V.heap = (W.setRow gr gm).heap → V.os = W.os → V.tape = W.tape → V.output = W.output → St w P bs [(.slice (some ⟨gr, 0, none⟩) (i + m + (n - j)) cap, xs.take i ++ ys ++ xs.drop j)] ts ro (V.setRow gr jC)) := by
 have hV := S.tree _ hm
 have hN := S.AZ
 obtain ⟨gm, jC, h1, h2, h3⟩ := Wp (i := i) (j := j) inf hu hi hs hN (Kd.NP hV)
  (fun k h => ⟨⟨h.1, fun h2 => h.2 (fF.2 (.inl h2))⟩, fun e => h.2 (fF.2 (.inr (by rw [e]; rfl)))⟩)
  (fun k h => ⟨.inr (Nat.le_trans S.below.size h), fun h2 => by have := S.lt ((fF (v := .slice (some ⟨gr, 0, none⟩) n cap) (l := xs)).2 (.inl h2)); omega⟩) hij hjn hroom
 refine ⟨gm, jC, h1, h2, fun V a1 a2 a3 a4 => ?_⟩
 obtain ⟨g1, g2⟩ := h3 V a1 a2 a3 a4
 exact S.EJ (Ld S.below g1 (Kd.sK hN gr rfl)) g1 (.inl rfl) g2
theorem St.grow (inf : TypeInfo) (z : Value) {kn : IntKind} (hu : Pr.underlying 24 = some (.slice 26)) (hu3 : Pr.underlying 3 = some (.int kn)) (hi : Pr.info? 26 = some inf) (hs : inf.size = 7) (hz : inf.zero = some z) (hzs : z.cells.size = 7) (hby : inf.bytes = 72)
  (S : St w P bs [(.slice (some ⟨gr, 0, none⟩) n cap, xs)] ts ro W) (hm : (.slice (some a) m c, ys) ∈ ts) (hij : i ≤ j) (hjn : j ≤ n) (hm0 : 0 < m) (hroom : cap < i + m + (n - j)) (hl : i + m + (n - j) ≤ 1000000000) :
  ∃ (cap' : Nat) (jP gm jC : Array Value),
   i + m + (n - j) ≤ cap' ∧ (∀ ty kq, (Builtin.append_ #[24, 3] ty #[.slice (some ⟨gr, 0, none⟩) i cap, .int kq ((m + (n - j) : Nat) : Int)]).run Pr W = .ok (.slice (some ⟨W.heap.size, 0, none⟩) (i + m + (n - j)) cap') (W.drew.alloc (.cells jP 26))) ∧
   (∀ ty dLen dCap sCap (V : World), V.heap = (W.drew.alloc (.cells jP 26)).heap → m ≤ dLen → (Builtin.copy_ #[24, 24] ty #[.slice (some ⟨W.heap.size, i * 7, none⟩) dLen dCap, .slice (some a) m sCap]).run Pr V = .ok (goInt m) (V.setRow W.heap.size gm)) ∧
   (∀ ty dLen dCap sCap (V : World), V.heap = ((W.drew.alloc (.cells jP 26)).setRow W.heap.size gm).heap → n - j ≤ dLen → (Builtin.copy_ #[24, 24] ty #[.slice (some ⟨W.heap.size, (i + m) * 7, none⟩) dLen dCap, .slice (some ⟨gr, j * 7, none⟩) (n - j) sCap]).run Pr V = .ok (goInt ((n - j : Nat))) (V.setRow W.heap.size jC)) ∧
   (∀ V : World, V.heap = ((W.drew.alloc (.cells jP 26)).setRow W.heap.size gm).heap → V.os = W.os → V.tape = W.tape → V.output = W.output → St w P bs [(.slice (some ⟨W.heap.size, 0, none⟩) (i + m + (n - j)) cap', xs.take i ++ ys ++ xs.drop j)] ts ro (V.setRow W.heap.size jC)) := by
 have hV := S.tree _ hm
 have hN := S.AZ
 obtain ⟨cap', jP, gm, jC, hq, h0, h1, h2, h3⟩ := U5 (i := i) (j := j) inf z hu hu3 hi hs hz hzs hby hN (Kd.NP hV)
  (fun k h => ⟨⟨h.1, fun h2 => h.2 (fF.2 (.inl h2))⟩, fun e => h.2 (fF.2 (.inr (by rw [e]; rfl)))⟩)
  (fun k h => ⟨.inr (Nat.le_trans S.below.size h), fun h2 => by have := S.lt ((fF (v := .slice (some ⟨gr, 0, none⟩) n cap) (l := xs)).2 (.inl h2)); omega⟩) S.below.size hij hjn hm0 hroom hl
 refine ⟨cap', jP, gm, jC, hq, h0, h1, h2, fun V a1 a2 a3 a4 => ?_⟩
 obtain ⟨g1, g2⟩ := h3 V a1 a2 a3 a4
 exact S.EJ (Ld S.below g1 (Kd.sK hN gr rfl)) g1 (.inr ⟨_, rfl, Nat.le_refl _⟩) g2
end
theorem agC {W : World} {ga gr o lb cb m vc : Nat} {ca cr : Array Value} (hga : W.heap[ga]? = some (.cells ca 26 (0, 0))) (hgr : W.heap[gr]? = some (.cells cr 26 (0, 0))) (hne : gr ≠ ga) (h0 : ca.size ≠ 0) :
  (callFunc 202 #[.slice (some ⟨gr, o, none⟩) lb cb, .slice (some ⟨ga, 0, none⟩) m vc]).run Try.prog W = .ok (.value (.bool false)) W := by
 obtain ⟨inf, hi, h1, h2, h3⟩ := info_parts info26
 rw [run_callFunc_extern Try.func202 (by kernel_rfl) (by kernel_rfl) (by kernel_rfl) (e := Extern.SlicesOverlaps.overlaps #[24, 24] #[4]) (by kernel_rfl),
  Lib.run_overlaps_apart W 24 4 26 Try.underlying24 7 (fun w => by simp [sizeOf, typeInfo, hi, h2]) ⟨gr, o, none⟩ ⟨ga, 0, none⟩ lb cb m vc hne 26 26 cr.size ca.size (by unfold World.shape?; rw [hgr]) (by unfold World.shape?; rw [hga]) h0 (by unfold World.frozen?; rw [hgr]; simp) (by unfold World.frozen?; rw [hgr]; simp)]
 rfl
theorem Yf {w W : World} {P : Nat → Prop} {bs : List (Option Nat × Obj)} {ts : List (Value × List ai)} {ro : List (Addr × Value)} {gr cap i c : Nat} {a : Addr} {l L : List ai} (hi : i + 1 = l.length) (hl : l.length ≤ 1000000) (hc : l.length ≤ cap) (hL : L.length = 2)
  (S0 : St w P bs [(.slice (some ⟨gr, 0, none⟩) l.length cap, l)] ts ro W) (hm0 : (.slice (some a) 2 c, L) ∈ ts) :
  Calls Try.prog 189 #[.slice (some ⟨gr, 0, none⟩) l.length cap, .int .i64 i, .int .i64 ((i + 1 : Nat) : Int), .slice (some a) 2 c] W fun e w' => ∃ A c', e = .returned (.slice A (l.length + 1) c') ∧ St w P bs [(.slice A (l.length + 1) c', l.take i ++ L ++ l.drop (i + 1))] ts ro w' := by
 have hN := S0.AZ
 have S1 := S0.EJ (v1 := .slice (some ⟨gr, 0, none⟩) i cap) (ys := l.take i) S0.below ⟨rfl, rfl, rfl, Nat.le_refl _, fun _ _ _ => rfl⟩ (.inl rfl) (Kd.acO hN (by omega))
 have S := ae.mk S1
 clear S1 hN
 have HM := ae.mk hm0
 have HTL := ae.mk (show (l.take i).length = i by rw [List.length_take]; omega)
 have KZ := ae.mk (show (l.take i ++ L).length = l.length + 1 by rw [List.length_append, List.length_take, hL]; omega)
 have HDR := ae.mk (show l.drop (i + 1) = [] by rw [hi]; exact List.drop_length)
 clear S0 hm0
 have b1 : (0 : Int) ≤ (i : Int) := by omega
 have b2 : ¬ ((i : Int) = (i : Int) + 1) := by omega
 have b3 : ((i : Int) + 1 = (l.length : Int)) := by omega
 have b4 : (i : Int) ≤ (cap : Int) := by omega
 have b5 : (i : Int) + 1 ≤ (cap : Int) := by omega
 have b6 : (i : Int) ≤ (i : Int) + 1 := by omega
 go_enter Try.func189, Try.ntmps189
 have b7 : ((i : Int) == (l.length : Int)) = false := beq_eq_false_iff_ne.mpr (by omega)
 have b8 : ¬ ((l.length : Int) + 1 < (l.length : Int)) := by omega
 go_wp2_with (first | ((with_reducible refine au (N := 34) rfl ?_); at_builtin; refine BC 24 (.tmp 32) (.tmp 33) rfl rfl Try.underlying24 info26 S.out HM.out rfl rfl (by have := HTL.out; omega) ?_; intro A1 c1 w1 S1; rw [KZ.out] at S1 ⊢; replace S := ae.mk S1; clear S1))
 go_ret
 exact ⟨_, _, rfl, S.out⟩
theorem Wn {w W : World} {P : Nat → Prop} {bs : List (Option Nat × Obj)} {ts : List (Value × List ai)} {ro : List (Addr × Value)} {gr ga cap i q c : Nat} {ca : Array Value} {l L : List ai} (hq : 0 < q) (hl : i + 1 + q ≤ 1000000) (hc : i + 2 + q ≤ cap) (hc63 : cap ≤ 9223372036854775807) (hL : L.length = 2)
  (S0 : St w P bs [(.slice (some ⟨gr, 0, none⟩) (i + 1 + q) cap, l)] ts ro W) (hm0 : (.slice (some ⟨ga, 0, none⟩) 2 c, L) ∈ ts) (hga : W.heap[ga]? = some (.cells ca 26 (0, 0))) (hne : gr ≠ ga) (hca : ca.size ≠ 0) :
  Calls Try.prog 189 #[.slice (some ⟨gr, 0, none⟩) (i + 1 + q) cap, .int .i64 i, .int .i64 ((i + 1 : Nat) : Int), .slice (some ⟨ga, 0, none⟩) 2 c] W fun e w' => ∃ A c', e = .returned (.slice A (i + 2 + q) c') ∧ St w P bs [(.slice A (i + 2 + q) c', l.take i ++ L ++ l.drop (i + 1))] ts ro w' := by
 obtain ⟨cr, hgr⟩ := Kd.Qq S0.AZ gr rfl
 obtain ⟨inf, OY, h1, h2, h3⟩ := info_parts info26
 obtain ⟨gm, jC, hc1, hc2, hc3⟩ := (S0.call (W1 := W.drew.drew) (bz (bz (Below.refl _ _)))).room (i := i) (j := i + 1) inf Try.underlying24 OY h2 hm0 (by omega) (by omega) (by omega)
 rw [show i + 1 + q - (i + 1) = q by omega] at hc1 hc3
 have hov : ∀ (V : World) o lb cb, V.heap = W.heap → (callFunc 202 #[.slice (some ⟨gr, o, none⟩) lb cb, .slice (some ⟨ga, 0, none⟩) 2 c]).run Try.prog V = .ok (.value (.bool false)) V := fun V o lb cb hV => agC (by rw [hV]; exact hga) (by rw [hV]; exact hgr) hne hca
 have HOV := ae.mk hov
 have nC := ae.mk hc1
 have HC2 := ae.mk hc2
 have DD := ae.mk hc3
 clear hc1 hc2 hc3 hov S0 hm0 hga hgr h1 h2 h3 OY
 have b1 : (0 : Int) ≤ (i : Int) := by omega
 have b2 : ((i : Int) == (i : Int) + 1) = false := beq_eq_false_iff_ne.mpr (by omega)
 have b3 : (((i : Int) + 1) == (i : Int) + 1 + (q : Int)) = false := beq_eq_false_iff_ne.mpr (by omega)
 have b4 : (i : Int) ≤ (cap : Int) := by omega
 have b5 : (i : Int) + 1 ≤ (cap : Int) := by omega
 have b6 : (i : Int) ≤ (i : Int) + 1 := by omega
 have b7 : (i : Int) + 1 ≤ (i : Int) + 1 + (q : Int) := by omega
 have b8 : (0 : Int) ≤ (i : Int) + 1 := by omega
 have b9 : ¬ (cap = i + 1) := by omega
 have b10 : ¬ (cap = i) := by omega
 have b11 : ¬ (cap = i + 2) := by omega
 have w1 : IntKind.i64.wrap ((i : Int) + 2) = (i : Int) + 2 := by rw [IntKind.wrap_i64]; omega
 have w2 : IntKind.i64.wrap ((i : Int) + 2 + (q : Int)) = (i : Int) + 2 + (q : Int) := by rw [IntKind.wrap_i64]; omega
 have b12 : (0 : Int) ≤ (i : Int) + 2 + (q : Int) := by omega
 have b13 : (i : Int) + 2 + (q : Int) ≤ (cap : Int) := by omega
 have b14 : ¬ ((cap : Int) < (i : Int) + 2 + (q : Int)) := by omega
 have b15 : ¬ ((i : Int) + 2 ≤ (i : Int) + 1) := by omega
 have b16 : (0 : Int) ≤ (i : Int) + 2 := by omega
 have b17 : (i : Int) + 2 ≤ (i : Int) + 2 + (q : Int) := by omega
 have b18 : (i : Int) ≤ (i : Int) + 2 + (q : Int) := by omega
 have t1 : ((i : Int) + 2 + (q : Int)).toNat = i + 2 + q := by omega
 have t2 : ((i : Int) + 2).toNat = i + 2 := by omega
 have mixed : Try.prog.follows Departure.mixedOrders = true := by kernel_rfl
 go_enter Try.func189, Try.ntmps189
 go_wp2
 go_region_law_o fail
 all_goals
  have hov := fun o lb cb => HOV.out W.drew o lb cb rfl
  go_wp2
  have hc1 := nC.out
  go_region_law_o (refine Go.Proofs.step_copy_runI rfl _ _ 24 24 rfl _ _ (by simp [Act.eval, Act.put]) (by simp [Act.eval, Act.put]) (hc1 _ _ _ _ (Nat.le_refl _)) ?_)
  clear hc1
  have hc2 := HC2.out 3 (i + 2 + q - i) (cap - i) c (W.drew.drew.setRow gr gm) rfl (by omega)
  go_wp2
  go_ret
  have h := DD.out (W.drew.drew.setRow gr gm) rfl rfl rfl rfl
  exact ⟨_, _, rfl, h⟩
theorem Wl {w W : World} {P : Nat → Prop} {bs : List (Option Nat × Obj)} {ts : List (Value × List ai)} {ro : List (Addr × Value)} {gr cap i q c : Nat} {a : Addr} {l L : List ai} (hq : 0 < q) (hl : i + 1 + q ≤ 1000000) (hc : i + 1 + q ≤ cap) (hc2 : cap < i + 2 + q) (hL : L.length = 2)
  (S0 : St w P bs [(.slice (some ⟨gr, 0, none⟩) (i + 1 + q) cap, l)] ts ro W) (hm0 : (.slice (some a) 2 c, L) ∈ ts) :
  Calls Try.prog 189 #[.slice (some ⟨gr, 0, none⟩) (i + 1 + q) cap, .int .i64 i, .int .i64 ((i + 1 : Nat) : Int), .slice (some a) 2 c] W fun e w' => ∃ A c', e = .returned (.slice A (i + 2 + q) c') ∧ St w P bs [(.slice A (i + 2 + q) c', l.take i ++ L ++ l.drop (i + 1))] ts ro w' := by
 obtain ⟨inf, OY, h1, h2, h3⟩ := info_parts info26
 obtain ⟨cap', jP, gm, jC, hcp, hap, hc1, hc2', hc3⟩ := (S0.call (W1 := W.drew) (bz (Below.refl _ _))).grow (i := i) (j := i + 1) inf _ Try.underlying24 Try.underlying3 OY h2 h1 rfl h3 hm0 (by omega) (by omega) (by omega) (by omega) (by omega)
 rw [show i + 1 + q - (i + 1) = q by omega] at hcp hap hc2' hc3
 rw [show W.drew.heap.size = W.heap.size from rfl] at hap hc1 hc2' hc3
 have Yx := ae.mk hap
 have nC := ae.mk hc1
 have HC2 := ae.mk hc2'
 have DD := ae.mk hc3
 clear hap hc1 hc2' hc3 S0 hm0 h1 h2 h3 OY
 have b1 : (0 : Int) ≤ (i : Int) := by omega
 have b2 : ((i : Int) == (i : Int) + 1) = false := beq_eq_false_iff_ne.mpr (by omega)
 have b3 : (((i : Int) + 1) == (i : Int) + 1 + (q : Int)) = false := beq_eq_false_iff_ne.mpr (by omega)
 have b4 : (i : Int) ≤ (cap : Int) := by omega
 have b5 : (i : Int) + 1 ≤ (cap : Int) := by omega
 have b6 : (i : Int) ≤ (i : Int) + 1 := by omega
 have b7 : (i : Int) + 1 ≤ (i : Int) + 1 + (q : Int) := by omega
 have b8 : (0 : Int) ≤ (i : Int) + 1 := by omega
 have b19 : ¬ (cap' = i) := by omega
 have b20 : ¬ (cap' = i + 2) := by omega
 have b9 : ¬ (cap = i + 1) := by omega
 have b10 : ¬ (cap = i) := by omega
 have w1 : IntKind.i64.wrap ((i : Int) + 2) = (i : Int) + 2 := by rw [IntKind.wrap_i64]; omega
 have w2 : IntKind.i64.wrap ((i : Int) + 2 + (q : Int)) = (i : Int) + 2 + (q : Int) := by rw [IntKind.wrap_i64]; omega
 have b12 : (0 : Int) ≤ (i : Int) + 2 + (q : Int) := by omega
 have b14 : (cap : Int) < (i : Int) + 2 + (q : Int) := by omega
 have b15 : ¬ ((i : Int) + 2 ≤ (i : Int) + 1) := by omega
 have b16 : (0 : Int) ≤ (i : Int) + 2 := by omega
 have b17 : (i : Int) + 2 ≤ (i : Int) + 2 + (q : Int) := by omega
 have b18 : (i : Int) ≤ (i : Int) + 2 + (q : Int) := by omega
 have t1 : ((i : Int) + 2 + (q : Int)).toNat = i + 2 + q := by omega
 have t2 : ((i : Int) + 2).toNat = i + 2 := by omega
 have mixed : Try.prog.follows Departure.mixedOrders = true := by kernel_rfl
 go_enter Try.func189, Try.ntmps189
 go_wp2
 go_region_law_o fail
 all_goals
  have w3 : IntKind.i64.wrap ((i : Int) + 2 + (q : Int) - (i : Int)) = ((2 + q : Nat) : Int) := by rw [IntKind.wrap_i64]; omega
  have hap := Yx.out
  go_wp2_with (at_builtin; refine Go.Lib.wpList_append_run _ rfl _ _ 24 3 rfl _ _ rfl rfl _ _ (hap _ _) ?_)
  have hc1 := nC.out 3 (i + 2 + q - i) (cap' - i) c (W.alloc (.cells jP 26)).drew.drew rfl (by omega)
  go_wp2
  rw [hc1]
  clear hc1
  go_wp2
  have hc2 := fun ty dLen dCap sCap => HC2.out ty dLen dCap sCap (((W.alloc (.cells jP 26)).drew.drew).setRow W.heap.size gm).drew rfl
  go_region_law_o (refine Go.Proofs.step_copy_runI rfl _ _ 24 24 rfl _ _ (by simp [Act.eval, Act.put]) (by simp [Act.eval, Act.put]) (hc2 _ _ _ _ (Nat.le_refl _)) ?_)
  go_wp2
  go_ret
  have h := DD.out (((W.alloc (.cells jP 26)).drew.drew).setRow W.heap.size gm).drew rfl rfl rfl rfl
  exact ⟨_, _, rfl, h⟩
end Go.Proofs.Ytfdmfgaiblfbhaa.P
namespace Go.Proofs.Ytfdmfgaiblfbhaa.Pure
open Go.RowKit Go.Proofs.Ytfdmfgaiblfbhaa.P Go.Proofs.ag.aA Go.Proofs.ag.bg Go.Proofs.ag.bG
theorem uY : ∀ (a b : List ai), dL (a ++ b) = true → dL b = true := by
 intro a
 induction a with
 | nil => intro b h; exact h
 | cons x xs ih =>
  intro b h
  rw [List.cons_append] at h
  simp only [dL, Bool.and_eq_true] at h
  exact ih b h.2
theorem yX (a b : List ai) (h : dL (a ++ b) = true) : dL a = true := by
 cases ha : dL a with
 | true => rfl
 | false => rw [yV a b ha] at h; cases h
theorem abq {c x : ai} (h : lH c = true) (hx : x ∈ c.f3) : lH x = true := by
 have hs := pJ h
 have hok := uN h
 have h1 := Ja hx
 have h2 := bP c
 have hd : dL (jy c) = true := by
  unfold lH at h
  simp only [Bool.and_eq_true] at h
  exact h.2.2
 unfold lH
 rw [decide_eq_true (by omega), FM hok hx, Bool.true_and, Bool.true_and]
 obtain ⟨p, q, e⟩ := List.append_of_mem hx
 have e2 : fK c = (c :: allL p) ++ (fK x ++ allL q) := by rw [lC, e, pX, iK]; rfl
 unfold jy at hd ⊢
 rw [e2, List.filter_append, List.filter_append] at hd
 exact yX _ _ (uY _ _ hd)
theorem yM {c x : ai} (h : dF c = true) (hx : x ∈ c.f3) : dF x = true := by
 have hm := nD h
 unfold dF at h ⊢
 simp only [Bool.and_eq_true] at h
 rw [abq hm hx, Bl h.2 hx]
 rfl
theorem oz {ax : Int} (hax : ax = 1 ∨ ax = 2) {c : ai} (h : dF c = true) : jG ax c = aK ax c.f1 - gI ax c ∧ 0 ≤ aK ax c.f1 - gI ax c ∧ 1 ≤ gI ax c ∧ aK ax c.f1 ≤ 10000 := by
 have hm := nD h
 have hB : mf c = true := by
  unfold dF at h
  simp only [Bool.and_eq_true] at h
  exact h.2
 have f := Tj hax (sz c) c (Nat.le_refl _) (pJ hm) (uN hm)
 have g := f.2 hB
 have r := pU (vV (o9 (uN hm))) hax
 unfold jG
 rw [if_pos ⟨hax, h⟩, wq (by omega) (by omega)]
 omega
end Go.Proofs.Ytfdmfgaiblfbhaa.Pure
namespace Go.Proofs.Ytfdmfgaiblfbhaa.P
open Go.RowKit Go.Proofs.ag.aA Go.Proofs.ag.bg Go.Proofs.ag.bG
theorem LZ {c : ai} (hk : c.f0 = 2 ∨ c.f0 = 3) : jH c = c.f3.map (fun k => aK (c.f0 - 1) k.f1) := by
 unfold jH
 apply List.map_congr_left
 intro k _
 unfold szK qP aK
 rcases hk with h | h
 ·rw [if_pos h, if_pos (by omega)]
 ·rw [if_neg (by omega), if_neg (by omega), if_pos (by omega)]
theorem Ro {a : Int} (ha : a = 2 ∨ a = 3) (r : dK) : tX (a - 1) r.f2 r.f3 = aK (a - 1) r ∧ tX (a - 1) r.f3 r.f2 = aK (4 - a) r := by
 rcases ha with h | h <;> simp [tX, aK, h]
theorem ZB (c : ai) (hk : c.f0 = 2 ∨ c.f0 = 3) (hm : lq c.f1 = true) (hl : c.f3.length ≤ 20000) (hne : 0 < c.f3.length) (hs : (c.f3.map (fun k => aK (c.f0 - 1) k.f1)).sum + (c.f3.length : Int) - 1 = aK (c.f0 - 1) c.f1) (hp : ∀ k, k ∈ c.f3 → 1 ≤ aK (c.f0 - 1) k.f1) : (yU c).2.2 = true := by
 have ha : zg c.f0 = c.f0 - 1 := by unfold zg; omega
 have hax : zg c.f0 = 1 ∨ zg c.f0 = 2 := by omega
 have hlen : (jH c).length = c.f3.length := by simp [jH]
 have hm' : qB c.f1.f0 c.f1.f1 c.f1.f2 c.f1.f3 = true := hm
 have hsz := LZ hk
 exact Zz hax hm' (fun e => by rw [e] at hlen; simp at hlen; omega) (by rw [hlen, hsz, ha, (Ro hk c.f1).1]; omega) (fun m hm => by
  rw [hsz] at hm
  obtain ⟨k, hk2, rfl⟩ := List.mem_map.1 hm
  exact hp k hk2)
theorem Wx (a X Y W H : Int) (ha : a = 2 ∨ a = 3) (hX : 0 ≤ X ∧ X ≤ 10000) (hY : 0 ≤ Y ∧ Y ≤ 10000) : ∀ (l : List ai) (off : Int), 0 ≤ off → off + (l.map (fun k => aK (a - 1) k.f1)).sum + (l.length : Int) ≤ 1000000 →
  (∀ k, k ∈ l → 1 ≤ aK (a - 1) k.f1 ∧ aK (4 - a) k.f1 = tX (a - 1) H W) →
  sV (fun k r => nI k.f1 r) (jW a l (if a = 2 then X + off else X) (if a = 2 then Y else Y + off)) (yT (a - 1) X Y W H off (l.map (fun k => aK (a - 1) k.f1))) = true := by
 intro l
 induction l with
 | nil => intro off _ _ _; rw [l_]; rfl
 | cons k ks ih =>
  intro off h0 hs hk
  have h1 := hk k (by simp)
  have hp := Kv (ks.map (fun k => aK (a - 1) k.f1)) (fun m hm => by
   obtain ⟨q, hq, rfl⟩ := List.mem_map.1 hm
   exact (hk q (by simp [hq])).1)
  rw [List.length_map] at hp
  rw [List.map_cons, List.sum_cons, List.length_cons] at hs
  have e := ih (off + aK (a - 1) k.f1 + 1) (by omega) (by omega) (fun q hq => hk q (by simp [hq]))
  have hb : off + aK (a - 1) k.f1 ≤ 1000000 := by omega
  rw [pV, List.map_cons]
  simp only [yT, sV, Bool.and_eq_true]
  rcases ha with rfl | rfl
  ·have hx : vG 2 k (X + off) = X + (off + aK (2 - 1) k.f1 + 1) := by
    simp only [vG, aK] at h1 hb ⊢
    simp at h1 hb ⊢
    rw [wp (x := k.f1.f2 + 1) (by omega) (by omega), wp (by omega) (by omega)]
    omega
   refine ⟨EG.2 ?_, ?_⟩
   ·rw [m_]
    simp [tX, aK] at h1 ⊢
    exact h1.2
   ·simp only [if_true] at e ⊢
    rw [hx]
    exact e
  ·have hy : vH 3 k (Y + off) = Y + (off + aK (3 - 1) k.f1 + 1) := by
    simp only [vH, aK] at h1 hb ⊢
    simp at h1 hb ⊢
    rw [wp (x := k.f1.f3 + 1) (by omega) (by omega), wp (by omega) (by omega)]
    omega
   refine ⟨EG.2 ?_, ?_⟩
   ·rw [m_]
    simp [tX, aK] at h1 ⊢
    exact h1.2
   ·simp only [show ¬ ((3 : Int) = 2) by decide, if_false] at e ⊢
    rw [hy]
    exact e
theorem aff (a : Int) (r : dK) (ha : a = 2 ∨ a = 3) (hr : lq r = true) : ∀ (l : List ai) (off : Int), 0 ≤ off → off + (l.map (fun k => aK (a - 1) k.f1)).sum + (l.length : Int) - 1 ≤ aK (a - 1) r →
  (∀ k, k ∈ l → 1 ≤ aK (a - 1) k.f1 ∧ aK (4 - a) k.f1 = aK (4 - a) r) →
  ∀ z, z ∈ jW a l (if a = 2 then r.f0 + off else r.f0) (if a = 2 then r.f1 else r.f1 + off) → ∃ k, k ∈ l ∧ ∃ x y, z = fH k x y ∧ lq ⟨x, y, k.f1.f2, k.f1.f3⟩ = true := by
 have hm := vT.1 hr
 intro l
 induction l with
 | nil => intro off _ _ _ z hz; rw [l_] at hz; cases hz
 | cons k ks ih =>
  intro off h0 hs hk z hz
  have h1 := hk k (by simp)
  have hp := Kv (ks.map (fun k => aK (a - 1) k.f1)) (fun m hm => by
   obtain ⟨q, hq, rfl⟩ := List.mem_map.1 hm
   exact (hk q (by simp [hq])).1)
  rw [List.length_map] at hp
  rw [List.map_cons, List.sum_cons, List.length_cons] at hs
  have hb : off + aK (a - 1) k.f1 ≤ aK (a - 1) r := by omega
  rw [pV] at hz
  rcases List.mem_cons.1 hz with rfl | hz
  ·refine ⟨k, by simp, _, _, rfl, vT.2 ?_⟩
   rcases ha with rfl | rfl
   ·simp [aK] at h1 hb hm ⊢
    omega
   ·simp [aK] at h1 hb hm ⊢
    omega
  ·have e : ∃ q, q ∈ ks ∧ ∃ x y, z = fH q x y ∧ lq ⟨x, y, q.f1.f2, q.f1.f3⟩ = true := by
    refine ih (off + aK (a - 1) k.f1 + 1) (by omega) (by omega) (fun q hq => hk q (by simp [hq])) z ?_
    rcases ha with rfl | rfl
    ·have hx : vG 2 k (r.f0 + off) = r.f0 + (off + aK (2 - 1) k.f1 + 1) := by
      simp [vG, aK] at h1 hb hm ⊢
      rw [wp (x := k.f1.f2 + 1) (by omega) (by omega), wp (by omega) (by omega)]
      omega
     simp only [if_true] at hz ⊢
     rw [hx] at hz
     exact hz
    ·have hy : vH 3 k (r.f1 + off) = r.f1 + (off + aK (3 - 1) k.f1 + 1) := by
      simp [vH, aK] at h1 hb hm ⊢
      rw [wp (x := k.f1.f3 + 1) (by omega) (by omega), wp (by omega) (by omega)]
      omega
     simp only [show ¬ ((3 : Int) = 2) by decide, if_false] at hz ⊢
     rw [hy] at hz
     exact hz
   obtain ⟨q, hq, e⟩ := e
   exact ⟨q, by simp [hq], e⟩
def xO (c : ai) : Prop := (fK c).all mP = true ∧ mf c = true
theorem GI {c : ai} (h1 : mP c = true) (h2 : nN c = true) (hk : ∀ k, k ∈ c.f3 → xO k) : xO c := by
 refine ⟨?_, ?_⟩
 ·rw [lC, List.all_cons, h1, Bool.true_and]
  have : ∀ l : List ai, (∀ k, k ∈ l → xO k) → (allL l).all mP = true := by
   intro l
   induction l with
   | nil => intro _; rw [lh]; rfl
   | cons x xs ih => intro h; rw [iK, List.all_append, (h x (by simp)).1, ih (fun k hk => h k (by simp [hk]))]; rfl
  exact this c.f3 hk
 ·rw [tJ, h2, Bool.true_and]
  exact List.all_eq_true.2 fun k hk2 => (hk k hk2).2
theorem LM (a : Int) (r : dK) (l : List ai) (ha : a = 2 ∨ a = 3) (hr : lq r = true) (hl : 2 ≤ l.length) (hl2 : l.length ≤ 20000) (hs : (l.map (fun k => aK (a - 1) k.f1)).sum + (l.length : Int) - 1 = aK (a - 1) r)
  (hk : ∀ k, k ∈ l → 1 ≤ aK (a - 1) k.f1 ∧ aK (4 - a) k.f1 = aK (4 - a) r) (hg : ∀ k, k ∈ l → ∀ x y, lq ⟨x, y, k.f1.f2, k.f1.f3⟩ = true → xO (fH k x y)) : xO ⟨a, r, 0, jW a l r.f0 r.f1⟩ := by
 have hm := vT.1 hr
 have hsz : ∀ (l : List ai) (x y : Int) (f : ai → Int), (∀ k x y, f (fH k x y) = f k) → (jW a l x y).map f = l.map f := by
  intro l
  induction l with
  | nil => intro x y f _; rw [l_]
  | cons k ks ih => intro x y f hf; rw [pV, List.map_cons, List.map_cons, ih _ _ f hf, hf]
 have hin := aff a r ha hr l 0 (by omega) (by omega) hk
 have Ep := Wx a r.f0 r.f1 r.f2 r.f3 ha (by omega) (by omega) l 0 (by omega) (by have := pU hr (ax := a - 1) (by omega); omega) (fun k h => by rw [(Ro ha r).2]; exact hk k h)
 have hxy : (if a = 2 then r.f0 + 0 else r.f0) = r.f0 ∧ (if a = 2 then r.f1 else r.f1 + 0) = r.f1 := by constructor <;> split <;> omega
 rw [hxy.1, hxy.2] at hin Ep
 have hmap : ∀ l x y, (jW a l x y).map (fun k => aK (a - 1) k.f1) = l.map (fun k => aK (a - 1) k.f1) := fun l x y => hsz l x y _ (fun k x y => by rw [m_]; rfl)
 refine GI ?_ ?_ (fun z hz => ?_)
 ·unfold mP
  simp only [hr, l9, Bool.true_and]
  rw [decide_eq_true (show 1 ≤ a ∧ a ≤ 3 by omega), decide_eq_true (show a = 1 → l.length = 0 ∧ (0 : Int) ≤ 0 ∧ (0 : Int) ≤ 2147483647 from fun h => by omega), decide_eq_true (show a > 1 → 2 ≤ l.length ∧ True from fun _ => ⟨hl, trivial⟩)]
  rfl
 ·have ht : (yU ⟨a, r, 0, jW a l r.f0 r.f1⟩).2.2 = true := ZB _ ha hr (by rw [l9]; exact hl2) (by rw [l9]; omega) (by simp only []; rw [hmap, l9]; exact hs) (fun k hk2 => by
   obtain ⟨q, hq, x, y, rfl, _⟩ := hin k hk2
   rw [m_]
   exact (hk q hq).1)
  obtain ⟨_, gp, _, _⟩ := DY ht
  rw [LZ (c := ⟨a, r, 0, jW a l r.f0 r.f1⟩) ha] at gp
  simp only [] at gp
  rw [hmap, show zg a = a - 1 by unfold zg; omega] at gp
  unfold nN C9
  rw [ht, gp, Ep]
  simp only [Bool.true_and, Bool.and_true, Bool.or_eq_true]
  right
  have : ∀ (ns : List Int) (off : Int), (yT (a - 1) r.f0 r.f1 r.f2 r.f3 off ns).length = ns.length := fun ns off => Ou _ _ _ _ _ ns off
  rw [this, List.length_map, l9]
  simp
 ·obtain ⟨q, hq, x, y, rfl, hm2⟩ := hin z hz
  exact hg q hq x y hm2
theorem EP (l : List Int) : total l = l.sum := by
 induction l with
 | nil => rfl
 | cons x xs ih => simp only [total, List.sum_cons, ih]
theorem afi {b : Int} {gs : List Int} (hl : gs.length ≤ 100000) (h0 : -2147483647 ≤ b) (h1 : b ≤ 2147483647) (hg : ∀ g, g ∈ gs → 0 ≤ g ∧ g ≤ 2147483647) (hne : gs ≠ []) (hb : -gs.sum ≤ b) :
  (Aw b gs).2 = true ∧ (Aw b gs).1.length = gs.length ∧ (Aw b gs).1.sum = b ∧ ∀ p, p ∈ gs.zip (Aw b gs).1 → -p.1 ≤ p.2 := by
 rcases (afh b gs hl h0 h1).1 with ⟨e, h⟩ | ⟨e, _, _, hb0⟩ | ⟨qs, e, _, _, hq, hgd, _, ho, _⟩
 ·exfalso
  rw [EP] at h
  rcases h with h | h | h
  ·exact hne h
  ·exact h hg
  ·omega
 ·rw [e]
  refine ⟨rfl, Pj _ _, ?_, ?_⟩
  ·rw [← EP]
   exact Qb b gs.length hb0 (List.length_pos_iff.2 hne)
  ·intro p hp
   obtain ⟨a1, a2⟩ := List.of_mem_zip hp
   have h2 := hg _ a1
   simp only [moreL, List.mem_map, List.mem_range] at a2
   obtain ⟨i, _, e2⟩ := a2
   have hn : (0 : Int) < (gs.length : Int) := by have := List.length_pos_iff.2 hne; omega
   have hd : 0 ≤ b / (gs.length : Int) := Int.ediv_nonneg hb0 (by omega)
   unfold IV at e2
   split at e2 <;> omega
 ·rw [e]
  refine ⟨rfl, by rw [← hq]; simp, by rw [← EP, ← Tv]; exact ho, fun p hp => ?_⟩
  simp only [] at hp
  rw [← hq, List.zip_map'] at hp
  obtain ⟨q, hq2, rfl⟩ := List.mem_map.1 hp
  exact (hgd q hq2).2.2.1
theorem NZ (ax : Int) : ∀ (l : List ai) (ss : List Int) (ns : Nat → Int) (i : Nat), ss.length = l.length → (∀ j, j < l.length → ns (i + j) = ss.getD j 0) → yS ax l ns i = (l.zip ss).map fun p => sO ax p.1 p.2 := by
 intro l
 induction l with
 | nil => intro ss ns i _ _; rw [Ci]; rfl
 | cons k ks ih =>
  intro ss ns i hl hn
  cases ss with
  | nil => simp at hl
  | cons s ss =>
   have h0 := hn 0 (by simp)
   rw [Nat.add_zero] at h0
   rw [K_, List.zip_cons_cons, List.map_cons, h0, ih ss ns (i + 1) (by simpa using hl) (fun j hj => by
    have := hn (j + 1) (by simpa using hj)
    rw [show i + 1 + j = i + (j + 1) by omega, this]
    rfl)]
   rfl
theorem Rz (f : ai → Int) : ∀ (l : List ai) (ss : List Int), ss.length = l.length → ((l.zip ss).map fun p => f p.1 + p.2).sum = (l.map f).sum + ss.sum := by
 intro l
 induction l with
 | nil => intro ss h; cases ss with
  | nil => rfl
  | cons s ss => simp at h
 | cons k ks ih =>
  intro ss h
  cases ss with
  | nil => simp at h
  | cons s ss =>
   rw [List.zip_cons_cons, List.map_cons, List.map_cons, List.sum_cons, List.sum_cons, List.sum_cons, ih ss (by simpa using h)]
   show f k + s + _ = _
   omega
theorem zip_fst (f : ai → Int) : ∀ (l : List ai) (ss : List Int), ss.length = l.length → ((l.zip ss).map fun p => f p.1) = l.map f := by
 intro l
 induction l with
 | nil => intro ss h; rfl
 | cons k ks ih =>
  intro ss h
  cases ss with
  | nil => simp at h
  | cons s ss => rw [List.zip_cons_cons, List.map_cons, List.map_cons, ih ss (by simpa using h)]
theorem D5 {ax : Int} (hax : ax = 1 ∨ ax = 2) {r : dK} {b : Int} (h0 : 0 ≤ aK ax r + b) (h1 : aK ax r + b ≤ 100000) : aK ax (grow ax b r) = aK ax r + b ∧ aK (3 - ax) (grow ax b r) = aK (3 - ax) r := by
 rcases hax with rfl | rfl
 ·simp [aK, grow] at h0 h1 ⊢
  exact wp (by omega) (by omega)
 ·simp [aK, grow] at h0 h1 ⊢
  exact wp (by omega) (by omega)
theorem Ht {c : ai} (h : dF c = true) : mf c = true := by
 unfold dF at h
 simp only [Bool.and_eq_true] at h
 exact h.2
theorem Y3 {c : ai} (h : mP c = true) (hk : c.f0 = 2 ∨ c.f0 = 3) : c.f2 = 0 := by
 unfold mP at h
 simp only [Bool.and_eq_true, decide_eq_true_eq] at h
 exact (h.2 (by omega)).2
theorem VP {ax : Int} (hax : ax = 1 ∨ ax = 2) : ∀ (N : Nat) (c : ai), sz c ≤ N → dF c = true → ∀ b, gI ax c ≤ aK ax c.f1 + b → aK ax c.f1 + b ≤ 10000 → ∀ x y, lq ⟨x, y, (grow ax b c.f1).f2, (grow ax b c.f1).f3⟩ = true → xO (fH (sO ax c b) x y) := by
 intro N
 induction N with
 | zero => intro c h; rw [bP] at h; omega
 | succ N ih =>
  intro c hc ht b hb1 hb2 x y hr
  have hm := nD ht
  have hok := o9 (uN hm)
  have hsm := pJ hm
  have hB := Ht ht
  have hsz := bP c
  have hlen := jY c.f3
  rw [Fh, m_]
  simp only []
  rcases xG hok with ⟨h1, h2⟩ | ⟨h1, h2⟩
  ·rw [List.eq_nil_of_length_eq_zero h2, Ci, l_]
   refine GI ?_ ?_ (fun k hk => by cases hk)
   ·unfold mP at hok ⊢
    simp only [Bool.and_eq_true, decide_eq_true_eq, h1] at hok ⊢
    exact ⟨⟨⟨hr, by omega⟩, fun _ => ⟨rfl, (hok.1.2 trivial).2⟩⟩, fun h => by omega⟩
   ·unfold nN C9
    simp [h1]
  ·have U9 : nN c = true := by rw [tJ, Bool.and_eq_true] at hB; exact hB.1
   obtain ⟨g1, g2⟩ := CW U9 h1 (by omega)
   have GM : ∀ k, k ∈ c.f3 → sz k ≤ N ∧ dF k = true ∧ jG ax k = aK ax k.f1 - gI ax k ∧ 0 ≤ aK ax k.f1 - gI ax k ∧ 1 ≤ gI ax k ∧ aK ax k.f1 ≤ 10000 ∧ ∀ a, a = 1 ∨ a = 2 → 1 ≤ aK a k.f1 := fun k hk => by
    have q := Pure.yM ht hk
    have q2 := Pure.oz hax q
    have q3 := Ja hk
    exact ⟨by omega, q, q2.1, q2.2.1, q2.2.2.1, q2.2.2.2, fun a ha => (pU (vV (o9 (uN (nD q)))) ha).1⟩
   rw [Y3 hok h1]
   have hw1 : 0 ≤ aK ax c.f1 + b := by
    have := (Pure.oz hax ht).2.2.1
    omega
   have hgr := D5 hax (r := c.f1) (b := b) hw1 (by omega)
   have fin : ∀ ss : List Int, ss.length = c.f3.length → yS ax c.f3 (Q9 ax c.f0 c.f3 b) 0 = (c.f3.zip ss).map (fun p => sO ax p.1 p.2) → (∀ p, p ∈ c.f3.zip ss → gI ax p.1 ≤ aK ax p.1.f1 + p.2 ∧ aK ax p.1.f1 + p.2 ≤ 10000) →
     (c.f0 - 1 = ax → ss.sum = b) → (4 - c.f0 = ax → ∀ p, p ∈ c.f3.zip ss → p.2 = b) → xO ⟨c.f0, ⟨x, y, (grow ax b c.f1).f2, (grow ax b c.f1).f3⟩, 0, jW c.f0 (yS ax c.f3 (Q9 ax c.f0 c.f3 b) 0) x y⟩ := by
    intro ss hss OG hp hal hcr
    have hf1 : ∀ p : ai × Int, (sO ax p.1 p.2).f1 = grow ax p.2 p.1.f1 := fun p => by rw [Fh]
    have hpk : ∀ p, p ∈ c.f3.zip ss → p.1 ∈ c.f3 := fun p hq => (List.of_mem_zip hq).1
    have hps : ∀ p, p ∈ c.f3.zip ss → aK ax (sO ax p.1 p.2).f1 = aK ax p.1.f1 + p.2 ∧ aK (3 - ax) (sO ax p.1 p.2).f1 = aK (3 - ax) p.1.f1 := fun p hq => by
     rw [hf1]
     have := (GM _ (hpk p hq)).2.2.2.2.1
     have := hp p hq
     exact D5 hax (by omega) (by omega)
    rw [OG]
    refine LM c.f0 ⟨x, y, (grow ax b c.f1).f2, (grow ax b c.f1).f3⟩ _ h1 hr (by simp [hss]; omega) (by simp [hss]; omega) ?_ ?_ ?_
    ·have e0 : ∀ a, aK a ⟨x, y, (grow ax b c.f1).f2, (grow ax b c.f1).f3⟩ = aK a (grow ax b c.f1) := fun a => rfl
     rw [e0, List.map_map, List.length_map, List.length_zip, hss, Nat.min_self]
     by_cases e : c.f0 - 1 = ax
     ·rw [e] at g1 ⊢
      have e2 : List.map ((fun k => aK ax k.f1) ∘ fun p : ai × Int => sO ax p.1 p.2) (c.f3.zip ss) = List.map (fun p => aK ax p.1.f1 + p.2) (c.f3.zip ss) := List.map_congr_left (fun p hq => (hps p hq).1)
      rw [hgr.1, e2, Rz (fun k => aK ax k.f1) _ _ hss, hal e]
      omega
     ·have e2 : c.f0 - 1 = 3 - ax := by omega
      rw [e2] at g1 ⊢
      have e3 : List.map ((fun k => aK (3 - ax) k.f1) ∘ fun p : ai × Int => sO ax p.1 p.2) (c.f3.zip ss) = List.map (fun p => aK (3 - ax) p.1.f1) (c.f3.zip ss) := List.map_congr_left (fun p hq => (hps p hq).2)
      rw [hgr.2, e3, zip_fst (fun k => aK (3 - ax) k.f1) _ _ hss]
      exact g1
    ·intro k hk
     obtain ⟨p, hq, rfl⟩ := List.mem_map.1 hk
     have q1 := hps p hq
     have q2 := GM _ (hpk p hq)
     have q3 := hp p hq
     have q4 := g2 _ (hpk p hq)
     have e0 : ∀ a, aK a ⟨x, y, (grow ax b c.f1).f2, (grow ax b c.f1).f3⟩ = aK a (grow ax b c.f1) := fun a => rfl
     rw [e0]
     by_cases e : c.f0 - 1 = ax
     ·rw [show 4 - c.f0 = 3 - ax by omega, e, hgr.2, q1.1, q1.2]
      rw [show 3 - (c.f0 - 1) = 3 - ax by omega] at q4
      exact ⟨by omega, q4⟩
     ·have e2 : c.f0 - 1 = 3 - ax := by omega
      have e3 : 4 - c.f0 = ax := by omega
      rw [e2, e3, hgr.1, q1.1, q1.2]
      rw [show 3 - (c.f0 - 1) = ax by omega] at q4
      exact ⟨q2.2.2.2.2.2.2 _ (by omega), by rw [q4, hcr e3 p hq]⟩
    ·intro k hk x' y' hm2
     obtain ⟨p, hq, rfl⟩ := List.mem_map.1 hk
     have q2 := GM _ (hpk p hq)
     have q3 := hp p hq
     rw [hf1] at hm2
     exact ih p.1 q2.1 q2.2.1 p.2 q3.1 q3.2 x' y' hm2
   have hrs := pU hr hax
   rw [show aK ax ⟨x, y, (grow ax b c.f1).f2, (grow ax b c.f1).f3⟩ = aK ax (grow ax b c.f1) from rfl, hgr.1] at hrs
   by_cases e : c.f0 - 1 = ax
   ·have ha : iH ax c.f0 = true := by
     unfold iH
     simp
     omega
    have hgs : c.f3.map (jG ax) = c.f3.map (fun k => aK ax k.f1 - gI ax k) := List.map_congr_left (fun k hk => (GM k hk).2.2.1)
    have hsub : ∀ l : List ai, (l.map (fun k => aK ax k.f1 - gI ax k)).sum = (l.map (fun k => aK ax k.f1)).sum - xM ax l := by
     intro l
     induction l with
     | nil => rw [Hq]; rfl
     | cons k ks ihk => rw [List.map_cons, List.map_cons, List.sum_cons, List.sum_cons, yE, ihk]; omega
    rw [yx, if_neg (by omega), ha, if_pos rfl] at hb1
    rw [e] at g1
    obtain ⟨s1, s2, s3, s4⟩ := afi (b := b) (gs := c.f3.map (jG ax)) (by simp; omega) (by have := pU (vV hok) hax; omega) (by have := pU (vV hok) hax; omega) (fun g hg => by
     obtain ⟨k, hk, rfl⟩ := List.mem_map.1 hg
     have := GM k hk
     omega) (fun h => by rw [List.map_eq_nil_iff] at h; rw [h] at h2; simp at h2) (by rw [hgs, hsub]; omega)
    rw [List.length_map] at s2
    have hz : ∀ p, p ∈ c.f3.zip (Aw b (c.f3.map (jG ax))).1 → -(jG ax p.1) ≤ p.2 := fun p hp => s4 (jG ax p.1, p.2) (by
     rw [List.zip_map_left]
     exact List.mem_map.2 ⟨p, hp, rfl⟩)
    have hle : ∀ p, p ∈ c.f3.zip (Aw b (c.f3.map (jG ax))).1 → gI ax p.1 ≤ aK ax p.1.f1 + p.2 := fun p hp => by
     have q1 := hz p hp
     have q2 := GM p.1 (List.of_mem_zip hp).1
     omega
    refine fin (Aw b (c.f3.map (jG ax))).1 s2 (NZ ax _ _ _ _ s2 (fun j hj => ?_)) (fun p hp => ⟨hle p hp, ?_⟩) (fun _ => s3) (fun h => by omega)
    ·rw [Nat.zero_add]
     unfold Q9
     rw [if_pos ⟨s1, ha⟩]
     rfl
    ·
     have q := Rz (fun k => aK ax k.f1) c.f3 (Aw b (c.f3.map (jG ax))).1 s2
     rw [s3] at q
     obtain ⟨u, v, huv⟩ := List.append_of_mem hp
     have hpos : ∀ z : List (ai × Int), (∀ p, p ∈ z → p ∈ c.f3.zip (Aw b (c.f3.map (jG ax))).1) → 0 ≤ (z.map fun p => aK ax p.1.f1 + p.2).sum := by
      intro z
      induction z with
      | nil => intro _; simp
      | cons w ws ihw =>
       intro hw
       have a1 := ihw (fun p hp => hw p (by simp [hp]))
       have a2 := hle w (hw w (by simp))
       have a3 := (GM w.1 (List.of_mem_zip (hw w (by simp))).1).2.2.2.2.1
       rw [List.map_cons, List.sum_cons]
       omega
     have p1 := hpos u (fun p hp => by rw [huv]; simp [hp])
     have p2 := hpos v (fun p hp => by rw [huv]; simp [hp])
     rw [huv, List.map_append, List.map_cons, List.sum_append, List.sum_cons] at q
     omega
   ·have ha : iH ax c.f0 = false := by
     unfold iH
     simp
     omega
    have e3 : 4 - c.f0 = ax := by omega
    rw [yx, if_neg (by omega), ha, if_neg (by simp)] at hb1
    have agq : ∀ k, k ∈ c.f3 → gI ax k ≤ qx ax 0 c.f3 := fun k hk => by
     obtain ⟨u, v, huv⟩ := List.append_of_mem hk
     rw [huv, VZ, pK]
     exact Int.le_trans (VR _ _) Pm
    have hrep : ∀ p, p ∈ c.f3.zip (List.replicate c.f3.length b) → p.2 = b := fun p hp => (List.mem_replicate.1 (List.of_mem_zip hp).2).2
    refine fin (List.replicate c.f3.length b) (by simp) (NZ ax _ _ _ _ (by simp) (fun j hj => ?_)) (fun p hp => ?_) (fun h => absurd h e) (fun _ => hrep)
    ·unfold Q9
     rw [if_neg (by rw [ha]; simp)]
     simp [List.getD_eq_getElem?_getD, hj]
    ·have q := (List.of_mem_zip hp).1
     rw [hrep p hp]
     have q1 := agq p.1 q
     have q2 := g2 p.1 q
     rw [show 3 - (c.f0 - 1) = ax by omega] at q2
     omega
mutual
inductive oU : ai → ai → Prop
 | node (a : Int) (r r' : dK) (d : Int) (l l' : List ai) : tN l l' → oU ⟨a, r, d, l⟩ ⟨a, r', d, l'⟩
inductive tN : List ai → List ai → Prop
 | nil : tN [] []
 | cons {k k' : ai} {l l' : List ai} : oU k k' → tN l l' → tN (k :: l) (k' :: l')
end
def tag (d : ai) : Int × Int := (d.f0, d.f2)
mutual
theorem Eu : ∀ {c d : ai}, oU c d → (fK c).map tag = (fK d).map tag
 | _, _, .node a r r' d l l' h => by
  rw [lC, lC, List.map_cons, List.map_cons]
  exact congr (congrArg List.cons rfl) (LH h)
theorem LH : ∀ {l l' : List ai}, tN l l' → (allL l).map tag = (allL l').map tag
 | _, _, .nil => rfl
 | _, _, .cons h hs => by rw [iK, iK, List.map_append, List.map_append, Eu h, LH hs]
end
theorem LD : ∀ {l l' : List ai}, tN l l' → l.length = l'.length
 | _, _, .nil => rfl
 | _, _, .cons _ hs => by rw [List.length_cons, List.length_cons, LD hs]
mutual
theorem xU {ax : Int} : ∀ {c d : ai}, oU c d → gI ax c = gI ax d
 | _, _, .node a r r' d l l' h => by
  rw [yx, yx]
  simp only []
  rw [LD h, LG h, IQ h]
theorem LG {ax : Int} : ∀ {l l' : List ai}, tN l l' → xM ax l = xM ax l'
 | _, _, .nil => rfl
 | _, _, .cons h hs => by rw [yE, yE, xU h, LG hs]
theorem IQ {ax : Int} : ∀ {l l' : List ai} {m : Int}, tN l l' → qx ax m l = qx ax m l'
 | _, _, _, .nil => rfl
 | _, _, _, .cons h hs => by rw [pK, pK, xU h, IQ hs]
end
theorem GX {c d : ai} (h : oU c d) : sz c = sz d := by
 have := congrArg List.length (Eu h)
 rwa [List.length_map, List.length_map] at this
theorem Tq : ∀ (N : Nat), (∀ c : ai, sz c ≤ N → ∀ d e, oU c d → oU d e → oU c e) ∧ (∀ l : List ai, dO l ≤ N → ∀ m n, tN l m → tN m n → tN l n) := by
 intro N
 induction N with
 | zero =>
  refine ⟨fun c h => by rw [bP] at h; omega, fun l h m n h1 h2 => ?_⟩
  cases h1 with
  | nil => exact h2
  | cons a b => rw [bJ, bP] at h; omega
 | succ N ih =>
  have hC : ∀ c : ai, sz c ≤ N + 1 → ∀ d e, oU c d → oU d e → oU c e := by
   intro c h d e h1 h2
   cases h1 with
   | node a r r' i l l' h3 =>
    cases h2 with
    | node _ _ r2 _ _ l2 h4 => exact .node _ _ _ _ _ _ (ih.2 l (by rw [bP] at h; simp only [] at h; omega) _ _ h3 h4)
  refine ⟨hC, fun l => ?_⟩
  induction l with
  | nil => intro _ m n h1 h2; cases h1; exact h2
  | cons x xs ihl =>
   intro h m n h1 h2
   rw [bJ] at h
   cases h1 with
   | cons a b =>
    cases h2 with
    | cons a2 b2 => exact .cons (hC x (by omega) _ _ a a2) (ihl (by omega) _ _ b b2)
theorem Xa (ax : Int) : ∀ (N : Nat), (∀ c : ai, sz c ≤ N → ∀ b, oU c (sO ax c b)) ∧ (∀ l : List ai, dO l ≤ N → ∀ ns i, tN l (yS ax l ns i)) := by
 intro N
 induction N with
 | zero =>
  refine ⟨fun c h => by rw [bP] at h; omega, fun l h ns i => ?_⟩
  cases l with
  | nil => rw [Ci]; exact .nil
  | cons x xs => rw [bJ, bP] at h; omega
 | succ N ih =>
  have hC : ∀ c : ai, sz c ≤ N + 1 → ∀ b, oU c (sO ax c b) := by
   intro c h b
   rw [Fh]
   obtain ⟨a, r, d, l⟩ := c
   exact .node _ _ _ _ _ _ (ih.2 l (by rw [bP] at h; simp only [] at h; omega) _ _)
  refine ⟨hC, fun l => ?_⟩
  induction l with
  | nil => intro _ ns i; rw [Ci]; exact .nil
  | cons x xs ihl =>
   intro h ns i
   rw [bJ] at h
   rw [K_]
   exact .cons (hC x (by omega) _) (ihl (by omega) _ _)
theorem Hg : ∀ (N : Nat), (∀ c : ai, sz c ≤ N → ∀ x y, oU c (fH c x y)) ∧ (∀ l : List ai, dO l ≤ N → ∀ a x y, tN l (jW a l x y)) := by
 intro N
 induction N with
 | zero =>
  refine ⟨fun c h => by rw [bP] at h; omega, fun l h a x y => ?_⟩
  cases l with
  | nil => rw [l_]; exact .nil
  | cons x xs => rw [bJ, bP] at h; omega
 | succ N ih =>
  have hC : ∀ c : ai, sz c ≤ N + 1 → ∀ x y, oU c (fH c x y) := by
   intro c h x y
   rw [m_]
   obtain ⟨a, r, d, l⟩ := c
   exact .node _ _ _ _ _ _ (ih.2 l (by rw [bP] at h; simp only [] at h; omega) _ _ _)
  refine ⟨hC, fun l => ?_⟩
  induction l with
  | nil => intro _ a x y; rw [l_]; exact .nil
  | cons z zs ihl =>
   intro h a x y
   rw [bJ] at h
   rw [pV]
   exact .cons (hC z (by omega) _ _) (ihl (by omega) _ _ _)
theorem Oy : ∀ {a b : List ai}, a.map (·.f2) = b.map (·.f2) → dL a = dL b := by
 intro a
 induction a with
 | nil => intro b h; cases b with
  | nil => rfl
  | cons y ys => cases h
 | cons x xs ih =>
  intro b h
  cases b with
  | nil => cases h
  | cons y ys =>
   simp only [List.map_cons, List.cons.injEq] at h
   unfold dL
   rw [ih h.2, h.1]
   congr 1
   have e : ∀ l : List ai, (l.all fun z => decide (z.f2 ≠ y.f2)) = (l.map (·.f2)).all fun i => decide (i ≠ y.f2) := fun l => by rw [List.all_map]; rfl
   rw [e, e, h.2]
theorem XX {c d : ai} (h : oU c d) : (jy c).map (·.f2) = (jy d).map (·.f2) := by
 have e : ∀ l : List ai, (l.filter fun x => decide (x.f0 = 1)).map (·.f2) = ((l.map tag).filter fun p => decide (p.1 = 1)).map (·.2) := by
  intro l
  induction l with
  | nil => rfl
  | cons x xs ih =>
   rw [List.map_cons, List.filter_cons, List.filter_cons]
   have ht : (decide ((tag x).1 = 1)) = decide (x.f0 = 1) := rfl
   rw [ht]
   cases decide (x.f0 = 1) with
   | true => simp only [if_true, List.map_cons, ih]; rfl
   | false => simp only [Bool.false_eq_true, if_false, ih]
 unfold jy
 rw [e, e, Eu h]
theorem IU {c d : ai} (h : oU c d) (hc : dF c = true) (hd : xO d) : dF d = true := by
 have hm := nD hc
 unfold lH at hm
 simp only [Bool.and_eq_true, decide_eq_true_eq] at hm
 unfold dF lH
 rw [hd.1, hd.2, decide_eq_true (by rw [← GX h]; exact hm.1), ← Oy (XX h), hm.2.2]
 rfl
theorem Ym : ∀ (N : Nat) (c : ai), sz c ≤ N → dF c = true → ∀ x y, lq ⟨x, y, c.f1.f2, c.f1.f3⟩ = true → xO (fH c x y) := by
 intro N
 induction N with
 | zero => intro c h; rw [bP] at h; omega
 | succ N ih =>
  intro c hc ht x y hr
  have hm := nD ht
  have hok := o9 (uN hm)
  have hsm := pJ hm
  have hB := Ht ht
  have hsz := bP c
  have hlen := jY c.f3
  rw [m_]
  rcases xG hok with ⟨h1, h2⟩ | ⟨h1, h2⟩
  ·rw [List.eq_nil_of_length_eq_zero h2, l_]
   refine GI ?_ ?_ (fun k hk => by cases hk)
   ·unfold mP at hok ⊢
    simp only [Bool.and_eq_true, decide_eq_true_eq, h1] at hok ⊢
    exact ⟨⟨⟨hr, by omega⟩, fun _ => ⟨rfl, (hok.1.2 trivial).2⟩⟩, fun h => by omega⟩
   ·unfold nN C9
    simp [h1]
  ·have U9 : nN c = true := by rw [tJ, Bool.and_eq_true] at hB; exact hB.1
   obtain ⟨g1, g2⟩ := CW U9 h1 (by omega)
   rw [Y3 hok h1]
   refine LM c.f0 ⟨x, y, c.f1.f2, c.f1.f3⟩ c.f3 h1 hr h2 (by omega) g1 (fun k hk => ?_) (fun k hk x' y' hm2 => ?_)
   ·have q := Pure.yM ht hk
    have r := vV (o9 (uN (nD q)))
    refine ⟨(pU r (by omega)).1, ?_⟩
    have := g2 k hk
    rwa [show 3 - (c.f0 - 1) = 4 - c.f0 by omega] at this
   ·exact ih k (by have := Ja hk; omega) (Pure.yM ht hk) x' y' hm2
theorem WA {c : ai} (h : dF c = true) {x y : Int} (hr : lq ⟨x, y, c.f1.f2, c.f1.f3⟩ = true) : dF (fH c x y) = true :=
 IU ((Hg (sz c)).1 c (Nat.le_refl _) x y) h (Ym _ c (Nat.le_refl _) h x y hr)
noncomputable def zN (ax n : Int) (k : ai) : ai := aZ ax (fH k 0 0) n
theorem UE {ax n : Int} {k : ai} (hax : ax = 1 ∨ ax = 2) (ht : dF k = true) (h0 : -(jG ax k) ≤ n) (h1 : aK ax k.f1 + n ≤ 10000) :
  dF (zN ax n k) = true ∧ aK ax (zN ax n k).f1 = aK ax k.f1 + n ∧ jG ax (zN ax n k) = jG ax k + n ∧ sz (zN ax n k) = sz k := by
 have hm := nD ht
 have hr := vT.1 (show qB k.f1.f0 k.f1.f1 k.f1.f2 k.f1.f3 = true from vV (o9 (uN hm)))
 have g := Pure.oz hax ht
 have hz : lq ⟨0, 0, k.f1.f2, k.f1.f3⟩ = true := show qB 0 0 k.f1.f2 k.f1.f3 = true from vT.2 (by omega)
 have ht0 := WA ht hz
 have e0 : (fH k 0 0).f1 = ⟨0, 0, k.f1.f2, k.f1.f3⟩ := by rw [m_]
 have es : ∀ a, aK a (fH k 0 0).f1 = aK a k.f1 := fun a => by rw [e0]; rfl
 have hl0 := (Hg (sz k)).1 k (Nat.le_refl _) 0 0
 have g0 := Pure.oz hax ht0
 have el : gI ax (fH k 0 0) = gI ax k := (xU hl0).symm
 rw [es, el] at g0
 have hsz : aK ax k.f1 = k.f1.f2 ∨ aK ax k.f1 = k.f1.f3 := by unfold aK; rcases hax with h | h <;> simp [h]
 have hbad : WZ ax (fH k 0 0) = false := by
  unfold WZ
  rw [ht0]
  rcases hax with h | h <;> simp [h]
 have hout : W9 ax (fH k 0 0) n = false := by
  unfold W9
  rw [g0.1, e0]
  simp only []
  have hw : wrap64 (-(aK ax k.f1 - gI ax k)) = -(aK ax k.f1 - gI ax k) := by unfold wrap64; omega
  have hs : aK ax ⟨0, 0, wrap64 (0 + k.f1.f2), wrap64 (0 + k.f1.f3)⟩ = aK ax k.f1 := by
   rw [show wrap64 (0 + k.f1.f2) = k.f1.f2 by unfold wrap64; omega, show wrap64 (0 + k.f1.f3) = k.f1.f3 by unfold wrap64; omega]
   rfl
  rw [hs, show wrap64 (10000 - aK ax k.f1) = 10000 - aK ax k.f1 by unfold wrap64; omega, hw]
  rw [decide_eq_false (by omega), decide_eq_false (by omega)]
  rfl
 have OG : zN ax n k = fH (sO ax (fH k 0 0) n) 0 0 := by
  unfold zN aZ
  rw [hbad, hout, e0]
  simp
 have hgr := D5 hax (r := (fH k 0 0).f1) (b := n) (by rw [es]; omega) (by rw [es]; omega)
 have ef1 : (sO ax (fH k 0 0) n).f1 = grow ax n (fH k 0 0).f1 := by rw [Fh]
 have eg : (zN ax n k).f1 = ⟨0, 0, (grow ax n (fH k 0 0).f1).f2, (grow ax n (fH k 0 0).f1).f3⟩ := by rw [OG, m_, ef1]
 have hsize : aK ax (zN ax n k).f1 = aK ax k.f1 + n := by rw [eg]; rw [es] at hgr; exact hgr.1
 have hmay : lq ⟨0, 0, (grow ax n (fH k 0 0).f1).f2, (grow ax n (fH k 0 0).f1).f3⟩ = true := by
  show qB 0 0 (grow ax n (fH k 0 0).f1).f2 (grow ax n (fH k 0 0).f1).f3 = true
  refine vT.2 ?_
  have h3 := hgr.1
  have h4 := hgr.2
  rw [es] at h3 h4
  generalize grow ax n (fH k 0 0).f1 = G at h3 h4 ⊢
  have h5 : 1 ≤ aK ax k.f1 + n := by omega
  unfold aK at h3 h4 h1 h5
  rcases hax with rfl | rfl
  ·simp at h3 h4 h1 h5; omega
  ·simp at h3 h4 h1 h5; omega
 have agm : xO (zN ax n k) := by
  rw [OG]
  exact VP hax _ (fH k 0 0) (Nat.le_refl _) ht0 n (by rw [es, el]; omega) (by rw [es]; omega) 0 0 hmay
 have hl1 : oU (fH k 0 0) (zN ax n k) := by
  rw [OG]
  exact (Tq _).1 _ (Nat.le_refl _) _ _ ((Xa ax _).1 _ (Nat.le_refl _) n) ((Hg _).1 _ (Nat.le_refl _) 0 0)
 have htt := IU hl1 ht0 agm
 have g1 := Pure.oz hax htt
 refine ⟨htt, hsize, ?_, by rw [← GX hl1, ← GX hl0]⟩
 rw [g1.1, hsize, ← xU hl1, el, g.1]
 omega
def kd (L : List ai) (i : Nat) : ai := L.getD i z26
theorem O8 {L : List ai} {i : Nat} (h : i < L.length) : kd L i ∈ L := by
 unfold kd
 rw [List.getD_eq_getElem?_getD, List.getElem?_eq_getElem h, Option.getD_some]
 exact List.getElem_mem _
theorem IM (L : List ai) (i : Nat) : aj L (i : Int) = kd L i := by unfold kd aj; rw [Int.toNat_natCast]
theorem O9 {L : List ai} {i j : Nat} {k : ai} (h : i < L.length) : kd (L.set i k) j = if j = i then k else kd L j := by
 unfold kd
 rw [List.getD_eq_getElem?_getD, List.getD_eq_getElem?_getD, List.getElem?_set]
 by_cases e : i = j
 ·subst e; rw [if_pos rfl, if_pos rfl, if_pos h]; rfl
 ·rw [if_neg e, if_neg (fun x => e x.symm)]
theorem abK (f : ai → Int) : ∀ {L : List ai} {i : Nat} {k : ai}, i < L.length → ((L.set i k).map f).sum = (L.map f).sum - f (kd L i) + f k := by
 intro L
 induction L with
 | nil => intro i k h; simp at h
 | cons x xs ih =>
  intro i k h
  cases i with
  | zero => simp only [List.set_cons_zero, List.map_cons, List.sum_cons]; show _ = f x + _ - f x + f k; omega
  | succ i =>
   simp only [List.set_cons_succ, List.map_cons, List.sum_cons]
   rw [ih (by simpa using h)]
   show _ = f x + _ - f (kd xs i) + f k
   omega
theorem Yq : ∀ {L : List ai} {i : Nat} {k : ai}, i < L.length → sz k = sz (kd L i) → dO (L.set i k) = dO L := by
 intro L
 induction L with
 | nil => intro i k h; simp at h
 | cons x xs ih =>
  intro i k h hs
  cases i with
  | zero => rw [List.set_cons_zero, bJ, bJ, hs]; rfl
  | succ i => rw [List.set_cons_succ, bJ, bJ, ih (by simpa using h) hs]
theorem aeU {f : ai → Int} : ∀ {L : List ai}, (∀ k, k ∈ L → 0 ≤ f k) → ∀ k, k ∈ L → f k ≤ (L.map f).sum := by
 intro L
 induction L with
 | nil => intro _ k h; cases h
 | cons x xs ih =>
  intro h k hk
  have h0 : ∀ l : List ai, (∀ k, k ∈ l → 0 ≤ f k) → 0 ≤ (l.map f).sum := by
   intro l
   induction l with
   | nil => intro _; exact Int.le_refl _
   | cons y ys ihl =>
    intro h
    have := h y (by simp)
    have := ihl (fun k hk => h k (by simp [hk]))
    rw [List.map_cons, List.sum_cons]
    omega
  rw [List.map_cons, List.sum_cons]
  have h1 := h x (by simp)
  have h2 := h0 xs (fun k hk => h k (by simp [hk]))
  rcases List.mem_cons.1 hk with rfl | hk
  ·omega
  ·have := ih (fun k hk => h k (by simp [hk])) k hk; omega
noncomputable def xW (ax : Int) (i : Nat) (n : Int) (L : List ai) : List ai := L.set i (zN ax n (kd L i))
structure zi (ax s : Int) (L : List ai) : Prop where
 wZ : ∀ k, k ∈ L → dF k = true
 sum : (L.map (fun k => aK ax k.f1)).sum = s
 small : s ≤ 10000
theorem zi.size {ax s : Int} {L : List ai} (hax : ax = 1 ∨ ax = 2) (h : zi ax s L) {k : ai} (hk : k ∈ L) : aK ax k.f1 ≤ s := by
 have := aeU (f := fun k => aK ax k.f1) (fun k hk => by have := Pure.oz hax (h.wZ k hk); omega) k hk
 rw [h.sum] at this
 exact this
theorem zi.move {ax s : Int} {L : List ai} (hax : ax = 1 ∨ ax = 2) (h : zi ax s L) {i : Nat} {n : Int} (hi : i < L.length) (h0 : -(jG ax (kd L i)) ≤ n) (h1 : s + n ≤ 10000) :
  zi ax (s + n) (xW ax i n L) ∧ jG ax (kd (xW ax i n L) i) = jG ax (kd L i) + n ∧ (∀ j, j ≠ i → kd (xW ax i n L) j = kd L j) ∧ (xW ax i n L).length = L.length ∧ dO (xW ax i n L) = dO L ∧ aK ax (kd (xW ax i n L) i).f1 = aK ax (kd L i).f1 + n := by
 have hm := O8 hi
 have hs := h.size hax hm
 obtain ⟨k1, k2, k3, k4⟩ := UE hax (h.wZ _ hm) h0 (by omega)
 unfold xW
 refine ⟨⟨fun k hk => ?_, ?_, h1⟩, ?_, fun j hj => by rw [O9 hi, if_neg hj], by rw [List.length_set], Yq hi k4, ?_⟩
 ·rcases List.mem_or_eq_of_mem_set hk with hk | rfl
  ·exact h.wZ k hk
  ·exact k1
 ·rw [abK _ hi, h.sum, k2]
  omega
 ·rw [O9 hi, if_pos rfl, k3]
 ·rw [O9 hi, if_pos rfl, k2]
structure Gp (ax s : Int) (p N : Nat) (L0 L : List ai) (d : Int) : Prop where
 good : zi ax s L
 plc : p < L.length
 d0 : 0 ≤ d
 dg : jG ax (kd L p) = jG ax (kd L0 p) + d
 ds : aK ax (kd L p).f1 = aK ax (kd L0 p).f1 + d
 z : dO L = N
 len : L.length = L0.length
theorem Gp.start {ax s : Int} {p : Nat} {L : List ai} (h : zi ax s L) (hp : p < L.length) : Gp ax s p (dO L) L L 0 := ⟨h, hp, Int.le_refl _, by omega, by omega, rfl, rfl⟩
theorem Gp.small {ax s : Int} {p N : Nat} {L0 L : List ai} {d : Int} (hax : ax = 1 ∨ ax = 2) (h : Gp ax s p N L0 L d) (h0 : 0 ≤ jG ax (kd L0 p)) : d ≤ 9999 := by
 have := Pure.oz hax (h.good.wZ _ (O8 h.plc))
 have := h.dg
 omega
theorem Gp.step {ax s : Int} {p N : Nat} {L0 L : List ai} {d n : Int} {i : Nat} (hax : ax = 1 ∨ ax = 2) (h : Gp ax s p N L0 L d) (hi : i < L.length) (hne : i ≠ p) (hn0 : 0 ≤ n) (hn : n ≤ jG ax (kd L i)) :
  Gp ax s p N L0 (xW ax p n (xW ax i (-n) L)) (d + n) := by
 obtain ⟨a1, a2, a3, a4, a5, a6⟩ := h.good.move hax hi (n := -n) (by omega) (by have := h.good.small; omega)
 have hp : p < (xW ax i (-n) L).length := by rw [a4]; exact h.plc
 have e := a3 p (fun e => hne e.symm)
 have hg := Pure.oz hax (h.good.wZ _ (O8 h.plc))
 obtain ⟨b1, b2, b3, b4, b5, b6⟩ := a1.move hax hp (n := n) (by rw [e]; omega) (by have := h.good.small; omega)
 have hd := h.dg
 have hs := h.ds
 have h0 := h.d0
 refine ⟨?_, by rw [b4]; exact hp, by omega, by rw [b2, e]; omega, by rw [b6, e]; omega, by rw [b5, a5]; exact h.z, by rw [b4, a4]; exact h.len⟩
 have e2 : s + -n + n = s := by omega
 rw [e2] at b1
 exact b1
def gDn (p : Nat → Bool) : Nat → Option Nat
 | 0 => none
 | n + 1 => if p n = true then some n else gDn p n
def place (q : Nat) (m : Bool) : Nat := if m = true then q else q + 1
def afp.T6 : Bool × List (List Nat × List Nat) := (true, [([], []), ([], []), ([], []), ([0, 1, 2], [0, 1, 2]), ([], []), ([4], [4]), ([5], [5]), ([], []), ([7], [7]), ([8], [8]), ([3, 6, 9, 3], [3, 6, 9]), ([10, 10, 0, 1, 2, 3, 4, 5, 6, 7, 8, 9, 10], [10]), ([11, 0, 1, 2, 3, 4, 5, 6, 7, 8, 9, 10, 11], [])])
def afp.B6 : List Nat := [0, 0, 0, 7, 0, 16, 48, 0, 128, 384, 1023, 2047, 4095]
end Go.Proofs.Ytfdmfgaiblfbhaa.P
namespace Go.Proofs.Ytfdmfgaiblfbhaa.P
open Go.RowKit Go.Proofs.ag.aA Go.Proofs.ag.bg Go.Proofs.ag.bG
attribute [local go_sem] jD jQ kM kV jo jq kC kD
def EN.f (k : Nat) (a0 : Int) (a1 : Int) : Option (List Int × Bool) := if a1 < 1 then (some (([] : List Int), false)) else (if a1 > 20000 then (some (([] : List Int), false)) else (if a0 < (wrap64 ((wrap64 (2 * a1)) - 1)) then (some (([] : List Int), false)) else (if a0 > 2147483647 then (some (([] : List Int), false)) else (if 0 ≤ a1 then (if (a1 : Int).toNat ≤ 35184372088832 then ((di.f k (wrap64 ((wrap64 (a0 - a1)) + 1)) (List.replicate (a1 : Int).toNat 0)).bind fun af_ => (some (af_.1, true))) else (none)) else (none)))))
def Y6.f (k : Nat)  : Option (Bool) := (EN.f k 80 3).bind fun YN => ((EN.f k 8 3).bind fun YO => (if YN.2 = true then (if YO.2 = true then ((mZ.f k YN.1 (([26, 26, 26] : List Int))).bind fun aic => (if aic = true then ((mZ.f k YO.1 (([2, 2, 2] : List Int))).bind fun aid => (some aid)) else (some false))) else (some false)) else (some false)))
mutual
def jV.j0 : Nat → Int → Int → List Int → Bool → Option (List Int × Bool)
 | 0, _, _, _, _ => none
 | k + 1, x0, x1, x6, x27 => if x27 = true then (some (x6, false)) else (if x1 = 0 then (none) else (jV.l0 k x1 x6 (wrap64 (Int.tdiv (wrap64 (x0 - (wrap64 (x1 - 1)))) x1)) (Int.tmod (wrap64 (x0 - (wrap64 (x1 - 1)))) x1) 0))
def jV.l0 : Nat → Int → List Int → Int → Int → Int → Option (List Int × Bool)
 | 0, _, _, _, _, _ => none
 | k + 1, x1, x6, x7, x8, x9 => if x9 < x1 then (if x9 < x8 then (if x6.length < 17592186044416 then (jV.l0 k x1 (x6 ++ [wrap64 (x7 + 1)]) x7 x8 (wrap64 (x9 + 1))) else (none)) else (if x6.length < 17592186044416 then (jV.l0 k x1 (x6 ++ [x7]) x7 x8 (wrap64 (x9 + 1))) else (none))) else (some (x6, true))
end
def jV.f (k : Nat) (a0 : Int) (a1 : Int) : Option (List Int × Bool) := (some (([] : List Int) : List Int)).bind fun TU => (if a1 < 1 then (jV.j0 k a0 a1 TU true) else (if a1 > 20000 then (jV.j0 k a0 a1 TU true) else (if a0 < (wrap64 ((wrap64 (2 * a1)) - 1)) then (jV.j0 k a0 a1 TU true) else (jV.j0 k a0 a1 TU (decide (a0 > 2147483647))))))
end Go.Proofs.Ytfdmfgaiblfbhaa.P
namespace Go.Proofs.Ytfdmfgaiblfbhaa.Pure
open Go.RowKit Go.Proofs.Ytfdmfgaiblfbhaa.P Go.Proofs.ag.aA Go.Proofs.ag.bg Go.Proofs.ag.bG
def Can (s n : Int) : Prop := 1 ≤ n ∧ n ≤ 20000 ∧ 2 * n - 1 ≤ s ∧ s ≤ 2147483647
end Go.Proofs.Ytfdmfgaiblfbhaa.Pure
namespace Go.Proofs.Ytfdmfgaiblfbhaa.P
open Go.RowKit Go.Proofs.ag.aA Go.Proofs.ag.bg Go.Proofs.ag.bG
theorem afg : ∀ (N : Nat), (∀ c : ai, sz c ≤ N → ∀ x y, sz (fH c x y) = sz c) ∧ (∀ l : List ai, dO l ≤ N → ∀ a x y, dO (jW a l x y) = dO l) := by
 intro N
 induction N with
 | zero => exact ⟨fun c h => by rw [bP] at h; omega, fun l h a x y => by cases l with
  | nil => rw [l_]
  | cons k ks => rw [bJ] at h; have := bP k; omega⟩
 | succ N ih =>
  have hC : ∀ c : ai, sz c ≤ N + 1 → ∀ x y, sz (fH c x y) = sz c := fun c h x y => by
   rw [m_, bP, bP c]
   show 1 + dO (jW c.f0 c.f3 x y) = _
   rw [ih.2 c.f3 (by rw [bP] at h; omega)]
  refine ⟨hC, fun l => ?_⟩
  induction l with
  | nil => intro _ a x y; rw [l_]
  | cons k ks ihl =>
   intro h a x y
   rw [pV, bJ, bJ]
   rw [bJ] at h
   rw [hC k (by omega), ihl (by omega)]
section
variable {W : World} {b : Nat} {P : Nat → Prop} {A : Option Addr} {cc : Nat}
end
theorem F5 {W W1 : World} {Q : Nat → Value → Prop} {ad : Nat → Addr} (h : ∀ (j : Nat) (u : Value), Q j u → W.cell? (ad j) = some u) (hb : Below W.heap.size W W1) : ∀ (j : Nat) (u : Value), Q j u → W1.cell? (ad j) = some u :=
 fun j u hq => (hb.cell (World.block_lt_of_cell? W _ (h j u hq))).trans (h j u hq)
def akR.T0 : Bool × List (List Nat × List Nat) := (true, [([], []), ([0], [0]), ([1], [1]), ([2], [2]), ([3], [3]), ([], []), ([], []), ([6], [6]), ([7], [7]), ([8], [8]), ([9], [9]), ([], []), ([10, 11], [10, 11]), ([12], [12]), ([13], [13]), ([], []), ([15], [15]), ([16], [16]), ([17], [17]), ([], []), ([14, 18, 19, 14], [14, 18, 19]), ([20], [20]), ([21], [21]), ([21], [21]), ([4, 5, 0, 1, 2, 3, 4, 5, 6, 7, 8, 9, 10, 11, 12, 13, 14, 15, 16, 17, 18, 19, 20, 21, 22], [4, 5]), ([24, 22, 20, 0, 1, 2, 3, 4, 5, 6, 7, 8, 9, 10, 11, 12, 13, 14, 15, 16, 17, 18, 19, 20, 21, 22], [22, 24])])
end Go.Proofs.Ytfdmfgaiblfbhaa.P
namespace Go.Proofs.Ytfdmfgaiblfbhaa.P
open Go.RowKit Go.Proofs.ag.aA Go.Proofs.ag.bg Go.Proofs.ag.bG
attribute [local go_sem] jD kM jQ kV
end Go.Proofs.Ytfdmfgaiblfbhaa.P
namespace Go.Proofs.Ytfdmfgaiblfbhaa.P
open Go.RowKit Go.Shelf Go.Proofs.ag.aA Go.Proofs.ag.bg Go.Proofs.ag.bG
theorem FW (n : Nat) : (Builtin.zeroCells (Value.int .i64 0).cells n).size = n := by simp [Builtin.zeroCells, Value.cells]
theorem CE {w w1 : World} {B : Nat} (h : Below B w.drew w1) : Below B w w1 := ⟨h.os, h.tape.trans rfl, h.output, h.size, h.block⟩
theorem VM (w : World) (base : Nat) (hbase : base ≤ w.heap.size) (v : Value) (xs : List Int) (x : Int) (vb vc : Nat) (hs : w.ownsRow base 3 1 v xs.length (encs (Value.int .i64) xs)) (hv : w.heap[vb]? = some (.cells #[.int .i64 x] 3 (0, 0))) (hne : v.ownBlock ≠ some vb) (hlen : xs.length ≤ 1000000) :
  Calls Try.prog 150 #[v, .int .i64 0, .slice (some ⟨vb, 0, none⟩) 1 vc] w fun e w' => ∃ v', e = .returned v' ∧ w'.ownsRow base 3 1 v' (x :: xs).length (encs (Value.int .i64) (x :: xs)) ∧ Below base w w' := by
 have hvs : ∀ j u, [Value.int .i64 x][j]? = some u → w.cell? ⟨vb, 0 + j, none⟩ = some u := by
  intro j u hj
  cases j with
  | zero => rw [af hv 0]; exact hj
  | succ j => simp at hj
 have h1v : ∀ u ∈ [Value.int .i64 x], u.oneCell' = true := by simp [Value.oneCell']
 have h1c : ∀ u ∈ encs (Value.int .i64) xs, u.oneCell' = true := by
  intro u hu
  obtain ⟨i, _, rfl⟩ := List.mem_map.1 hu
  rfl
 obtain ⟨hl, hcase⟩ := hs
 rcases hcase with ⟨rfl, h0⟩ | ⟨g, cap, cur, rfl, hbg, hh, hnc, hcm, hcs, htk⟩
 ·obtain rfl : xs = [] := List.eq_nil_of_length_eq_zero h0
  refine (Any2.slices_Insert_int_end_grow IP none 0 0 vb 0 1 vc [] [.int .i64 x] w (by omega) (by omega) (by omega) (by omega) rfl rfl (fun _ => rfl) (fun a h => by cases h) hvs h1v).mono ?_
  rintro e w' ⟨rfl, rfl⟩
  have hg := grownCap_ge w (0 + 1) 0 3
  have hg2 := grownCap_le_maxLen w (0 + 1) 0 3 (by unfold maxLen; omega)
  refine ⟨_, rfl, ⟨rfl, .inr ⟨w.heap.size, _, _, rfl, hbase, heap_alloc_new w.drew _, hg, hg2, ?_, ?_⟩⟩, CE ((Below.refl base w.drew).alloc hbase _)⟩
  ·rw [Array.size_append, FW]
   show 1 + (grownCap w (0 + 1) 0 3 - (0 + 1)) = grownCap w (0 + 1) 0 3 * 1
   omega
  ·simp [encs]
 ·have hcl : (encs (Value.int .i64) xs).length = xs.length := uJ xs
  have hlt := fU hh
  have hgv : vb ≠ g := fun e => hne (by rw [e]; rfl)
  have hcells : ∀ j u, (encs (Value.int .i64) xs)[j]? = some u → w.cell? ⟨g, 0 + j, none⟩ = some u := by
   intro j u hj
   rw [af hh, Nat.zero_add, ← Array.getElem?_toList]
   rw [← htk, Nat.mul_one, List.getElem?_take] at hj
   split at hj
   ·exact hj
   ·cases hj
  have hsp : ∀ j, j < cap → (w.cell? ⟨g, 0 + j, none⟩).isSome = true := by
   intro j hj
   rw [af hh, Nat.zero_add, Array.getElem?_eq_getElem (by omega)]
   rfl
  have hfz : ∀ j, w.frozen? ⟨g, 0 + j, none⟩ = false := fun j => ah hh _
  by_cases h0 : xs.length = 0
  ·obtain rfl : xs = [] := List.eq_nil_of_length_eq_zero h0
   by_cases hr : 0 + 1 ≤ cap
   ·refine (Any2.slices_Insert_int_end_room IP g 0 0 cap vb 0 1 vc [.int .i64 x] w (by omega) hr (by unfold maxLen at hcm; omega) rfl (fun j hj => by rw [Nat.add_assoc]; exact hsp (0 + j) (by omega)) (fun j _ => by rw [Nat.add_assoc]; exact hfz (0 + j)) hvs h1v).mono ?_
    rintro e w' ⟨rfl, rfl⟩
    obtain ⟨cur', h3, h4, h5⟩ := l7 [Value.int .i64 x] (0 + 0) w cur hh (by simp; omega)
    obtain ⟨_, hgr⟩ := qK hh (show (0 + 0) + [Value.int .i64 x].length ≤ cur.size by simp; omega) (cs' := cur') h5.symm
    refine ⟨_, rfl, ⟨rfl, .inr ⟨g, cap, cur', rfl, hbg, h3, hr, hcm, by rw [h4, hcs], ?_⟩⟩, grown_below (Below.refl base w) hgr hbg hbase⟩
    rw [h5]
    simp [encs]
   ·refine (Any2.slices_Insert_int_end_grow IP (some ⟨g, 0, none⟩) 0 cap vb 0 1 vc [] [.int .i64 x] w (by omega) (by omega) (by omega) (by omega) rfl rfl (fun h => by cases h) (fun a h j u hj => by simp at hj) hvs h1v).mono ?_
    rintro e w' ⟨rfl, rfl⟩
    have hg := grownCap_ge w (0 + 1) cap 3
    have hg2 := grownCap_le_maxLen w (0 + 1) cap 3 (by unfold maxLen; omega)
    refine ⟨_, rfl, ⟨rfl, .inr ⟨w.heap.size, _, _, rfl, hbase, heap_alloc_new w.drew _, hg, hg2, ?_, ?_⟩⟩, CE ((Below.refl base w.drew).alloc hbase _)⟩
    ·rw [Array.size_append, FW]
     show 1 + (grownCap w (0 + 1) cap 3 - (0 + 1)) = grownCap w (0 + 1) cap 3 * 1
     omega
    ·simp [encs]
  ·by_cases hr : xs.length + 1 ≤ cap
   ·refine (Any2.slices_Insert_int_shift IP g 0 xs.length cap 0 vb 0 1 vc (encs (Value.int .i64) xs) [.int .i64 x] w (by omega) (by omega) hr (by unfold maxLen at hcm; omega) hgv hcl rfl hcells (fun j hj => hsp j (by omega)) (fun j _ => hfz j) hvs h1c h1v
     3 3 1 cap (by simp [World.shape?, hv]) (by simp [World.shape?, hh, hcs]) (by omega) (ah hv 0) (ah hv 1)).mono ?_
    rintro e w' ⟨rfl, rfl⟩
    have hh' : w.drew.heap[g]? = some (.cells cur 3 (0, 0)) := hh
    have e1 : 0 + (0 + 1) + ((encs (Value.int .i64) xs).drop 0).length ≤ cur.size := by rw [List.drop_zero, hcl]; omega
    obtain ⟨c1, h3, h4, h5⟩ := l7 ((encs (Value.int .i64) xs).drop 0) (0 + (0 + 1)) w.drew cur hh' e1
    obtain ⟨_, OX⟩ := qK hh' e1 (cs' := c1) h5.symm
    have e2 : (0 + 0) + [Value.int .i64 x].length ≤ c1.size := by simp; omega
    obtain ⟨c2, h6, h7, h8⟩ := l7 [Value.int .i64 x] (0 + 0) _ c1 h3 e2
    obtain ⟨_, XL⟩ := qK h3 e2 (cs' := c2) h8.symm
    refine ⟨_, rfl, ⟨by rw [uJ, Nat.mul_one], .inr ⟨g, cap, c2, rfl, hbg, h6, hr, hcm, by rw [h7, h4, hcs], ?_⟩⟩, CE (grown_below (grown_below (Below.refl base w.drew) OX hbg hbase) XL hbg (Nat.le_trans hbase OX.size))⟩
    rw [h8, h5]
    have hc1 : cur.toList.length = cap := by rw [Array.length_toList]; omega
    simp only [List.drop_zero, Nat.zero_add, List.take_zero, List.nil_append, List.length_singleton, List.length_cons, List.length_nil]
    have ht : (cur.toList.take 1).length = 1 := by rw [List.length_take]; omega
    rw [List.append_assoc, List.drop_left' ht, Nat.mul_one]
    show (Value.int .i64 x :: (encs (Value.int .i64) xs ++ cur.toList.drop (1 + (encs (Value.int .i64) xs).length))).take (xs.length + 1) = encs (Value.int .i64) (x :: xs)
    rw [List.take_succ_cons, List.take_append_of_le_length (by omega), List.take_of_length_le (by omega)]
    rfl
   ·refine (Any2.slices_Insert_int_grow IP g 0 xs.length cap 0 vb 0 1 vc (encs (Value.int .i64) xs) [.int .i64 x] w (by omega) (by omega) hnc (by omega) (by omega) hcl rfl hcells hvs h1c h1v).mono ?_
    rintro e w' ⟨rfl, rfl⟩
    have hg := grownCap_ge w (xs.length + 1) cap 3
    have hg2 := grownCap_le_maxLen w (xs.length + 1) cap 3 (by unfold maxLen; omega)
    have hh0 := heap_alloc_new w (.cells (((encs (Value.int .i64) xs).take 0).toArray ++ Builtin.zeroCells (Value.int .i64 0).cells (xs.length + 1 - 0) ++ Builtin.zeroCells (Value.int .i64 0).cells (grownCap w (xs.length + 1) cap (FP.t 3) - (xs.length + 1))) (FP.t 3))
    generalize zZ : ((((encs (Value.int .i64) xs).take 0).toArray ++ Builtin.zeroCells (Value.int .i64 0).cells (xs.length + 1 - 0) ++ Builtin.zeroCells (Value.int .i64 0).cells (grownCap w (xs.length + 1) cap (FP.t 3) - (xs.length + 1)))) = jP at hh0 ⊢
    have hsz0 : jP.size = grownCap w (xs.length + 1) cap 3 := by
     rw [← zZ, Array.size_append, Array.size_append, FW, FW]
     show 0 + (xs.length + 1 - 0) + (grownCap w (xs.length + 1) cap 3 - (xs.length + 1)) = _
     omega
    have hal : Below base w (w.alloc (.cells jP (FP.t 3))) := (Below.refl base w).alloc hbase _
    generalize w.alloc (.cells jP (FP.t 3)) = wa at hh0 hal ⊢
    have hh1 : wa.drew.heap[w.heap.size]? = some (.cells jP 3 (0, 0)) := hh0
    have e1 : 0 + [Value.int .i64 x].length ≤ jP.size := by rw [hsz0]; simp; omega
    obtain ⟨c1, h3, h4, h5⟩ := l7 [Value.int .i64 x] 0 wa.drew jP hh1 e1
    obtain ⟨_, OX⟩ := qK hh1 e1 (cs' := c1) h5.symm
    generalize wa.drew.setCells w.heap.size 0 [Value.int .i64 x] = wb at h3 OX ⊢
    have hh2 : wb.drew.heap[w.heap.size]? = some (.cells c1 3 (0, 0)) := h3
    have e2 : (0 + 1) + ((encs (Value.int .i64) xs).drop 0).length ≤ c1.size := by rw [List.drop_zero, hcl, h4, hsz0]; omega
    obtain ⟨c2, h6, h7, h8⟩ := l7 ((encs (Value.int .i64) xs).drop 0) (0 + 1) wb.drew c1 hh2 e2
    obtain ⟨_, XL⟩ := qK hh2 e2 (cs' := c2) h8.symm
    have hB1 : Below base w wa.drew := bQ hal
    have hB2 : Below base w wb := grown_below hB1 OX hbase (Nat.le_trans hbase hB1.size)
    refine ⟨_, rfl, ⟨by rw [uJ, Nat.mul_one], .inr ⟨w.heap.size, _, c2, rfl, hbase, h6, hg, hg2, by rw [h7, h4, hsz0]; exact (Nat.mul_one _).symm, ?_⟩⟩, grown_below (bQ hB2) XL hbase (Nat.le_trans hbase hB2.size)⟩
    rw [h8, h5]
    simp only [List.drop_zero, Nat.zero_add, List.take_zero, List.nil_append, List.length_singleton, List.length_cons]
    rw [List.singleton_append, List.take_succ_cons, List.take_zero, Nat.mul_one, List.append_assoc]
    show (Value.int .i64 x :: (encs (Value.int .i64) xs ++ _)).take (xs.length + 1) = encs (Value.int .i64) (x :: xs)
    rw [List.take_succ_cons, List.take_append_of_le_length (by omega), List.take_of_length_le (by omega)]
    rfl
end Go.Proofs.Ytfdmfgaiblfbhaa.P
namespace Go.Proofs.Ytfdmfgaiblfbhaa.P
open Go.RowKit Go.Proofs.ag.aA Go.Proofs.ag.bg Go.Proofs.ag.bG
section
variable {P : Program} {ops : Array Oper} {rest : List Oper} {o : Oper} {a : Act} {Q : Exit → Act → World → Prop}
theorem LV {W : World} (hgd : o.guard = none) {N : Tmp} (_hd : o.dst = some N) {cs : Array Value} {t : TypeId} {n c : Nat}
  (hrun : (execOp a.eval o).run P W = .ok (.value (.slice (some ⟨W.heap.size, 0, none⟩) n c)) (W.alloc (.cells cs t (0, 0))))
  (h : ∀ g, g = W.heap.size → ∀ w1, w1.heap[g]? = some (.cells cs t (0, 0)) → Below W.heap.size W w1 → wpList P ops Q rest (a.put o.dst (.slice (some ⟨g, 0, none⟩) n c)) w1) : wpList P ops Q (o :: rest) a W :=
 Kd.AX hgd hrun (h _ rfl _ (Jn W _) (aX (Below.refl _ _) _))
end
mutual
def dQ (id : Int) : ai → Option (List Int)
 | ⟨a, _, d, l⟩ => if a = 1 ∧ d = id then some [] else oZ id 0 l
def oZ (id : Int) : Nat → List ai → Option (List Int)
 | _, [] => none
 | i, k :: ks => match dQ id k with
  | some p => some ((i : Int) :: p)
  | none => oZ id (i + 1) ks
end
theorem qY (id : Int) (c : ai) : dQ id c = if c.f0 = 1 ∧ c.f2 = id then some [] else oZ id 0 c.f3 := by cases c; simp [dQ]
theorem ou (id : Int) (i : Nat) : oZ id i [] = none := by simp [oZ]
theorem nX (id : Int) (i : Nat) (k : ai) (ks : List ai) : oZ id i (k :: ks) = match dQ id k with | some p => some ((i : Int) :: p) | none => oZ id (i + 1) ks := by simp [oZ]
theorem GH (id : Int) : ∀ (N : Nat), (∀ c : ai, sz c ≤ N → ∀ p, dQ id c = some p → p.length ≤ sz c) ∧ (∀ l : List ai, dO l ≤ N → ∀ i p, oZ id i l = some p → p.length ≤ 1 + dO l) := by
 intro N
 induction N with
 | zero =>
  refine ⟨fun c h => ?_, fun l h => ?_⟩
  ·rw [bP] at h; omega
  ·cases l with
   | nil => intro i p hp; rw [ou] at hp; cases hp
   | cons z zs => rw [bJ, bP] at h; omega
 | succ N ih =>
  have hC : ∀ c : ai, sz c ≤ N + 1 → ∀ p, dQ id c = some p → p.length ≤ sz c := by
   intro c h p hp
   have hs := bP c
   rw [qY] at hp
   split at hp
   ·injection hp with hp; subst hp; simp
   ·have := ih.2 c.f3 (by omega) 0 p hp
    omega
  refine ⟨hC, fun l => ?_⟩
  induction l with
  | nil => intro _ i p hp; rw [ou] at hp; cases hp
  | cons z zs ihl =>
   intro h i p hp
   rw [bJ] at h ⊢
   rw [nX] at hp
   cases hz : dQ id z with
   | some q =>
    rw [hz] at hp
    injection hp with hp
    have := hC z (by omega) q hz
    rw [← hp, List.length_cons]
    omega
   | none =>
    rw [hz] at hp
    have := ihl (by omega) (i + 1) p hp
    omega
def afH (w : World) (r : Option (List Int)) (e : Ending) (w' : World) : Prop := ∃ v : Value, e = .returned (.tuple #[v, .bool r.isSome]) ∧ (Kd.int .i64).R 3 w' w.heap.size (fun _ => True) v (r.getD []) ∧ Below w.heap.size w w'
theorem adJ (id : Int) : ∀ (N : Nat) (c : ai), sz c ≤ N → N ≤ 1000000 → ∀ (A : Option Addr) (cc : Nat) (w : World), Kd.C k26 w A c.f3.length c.f3 → c.f3.length ≤ cc →
  Calls Try.prog 89 #[.agg #[.int .u8 c.f0, .int .i64 c.f1.f0, .int .i64 c.f1.f1, .int .i64 c.f1.f2, .int .i64 c.f1.f3, .int .i64 c.f2, .slice A c.f3.length cc], .int .i64 id] w (afH w (dQ id c)) := by
 intro N
 induction N with
 | zero => intro c h; rw [bP] at h; omega
 | succ N ih =>
  intro c hc hN A cc w hr hlc
  have hsz := bP c
  have hlen := jY c.f3
  have hkz : ∀ k : ai, k ∈ c.f3 → sz k ≤ N := by
   intro k hk
   have : sz k ≤ dO c.f3 := by
    obtain ⟨p, q, e⟩ := List.append_of_mem hk
    rw [e, jX, bJ]; omega
   omega
  have IH := ae.mk fun (k : ai) (hk : k ∈ c.f3) => ih k (hkz k hk) (by omega)
  have yg := ae.mk fun (k : ai) (hk : k ∈ c.f3) (p : List Int) (hp : dQ id k = some p) => Nat.le_trans ((GH id (sz k)).1 k (Nat.le_refl _) p hp) (Nat.le_trans (hkz k hk) (by omega : N ≤ 1000000))
  have HR := ae.mk hr
  have HLC := ae.mk hlc
  have HL := ae.mk (show c.f3.length ≤ 1000000 by omega)
  have HB := ae.mk (Below.refl w.heap.size w)
  rw [qY]
  clear ih hkz hr hlc hc hN hsz hlen
  obtain ⟨ck, ⟨cx, cy, cw, ch⟩, aQ, l⟩ := c
  simp only [] at HR HLC HL IH yg ⊢
  by_cases h1 : ck = 1
  ·have h1b : (ck == 1) = true := beq_iff_eq.mpr h1
   by_cases h2 : aQ = id
   ·have h2b : (aQ == id) = true := beq_iff_eq.mpr h2
    rw [if_pos ⟨h1, h2⟩]
    clear h1 h2
    go_enter Try.func89, Try.ntmps89
    go_wp2_with (((with_reducible refine au (N := 2) rfl ?_); refine aG ?hg (N := 2) ?hd (cs := #[.int .u8 ck, .int .i64 cx, .int .i64 cy, .int .i64 cw, .int .i64 ch, .int .i64 aQ, .slice A l.length cc]) (t := 26) ?hr ?_; (case hd => rfl); (case hg => rfl); (case hr => (go_simp; done)); intro b2 hg w2 hbox hb; have K2 := ae.mk hbox; have q_ := ae.mk (ak HB.out hb); clear HB; have HB := q_; clear q_; clear hb hbox hg; have c0 := (af K2.out 0).trans rfl; have c1 := (af K2.out 1).trans rfl; have c2 := (af K2.out 2).trans rfl; have c3 := (af K2.out 3).trans rfl; have c4 := (af K2.out 4).trans rfl; have c5 := (af K2.out 5).trans rfl; have c6 := (af K2.out 6).trans rfl))
    go_ret2
    exact ⟨_, rfl, Kd.wC _ _ _ _ _, HB.out⟩
   ·have h2b : (aQ == id) = false := beq_eq_false_iff_ne.mpr h2
    rw [if_neg (fun h => h2 h.2)]
    clear h1 h2
    go_enter Try.func89, Try.ntmps89
    go_wp2_with (((with_reducible refine au (N := 2) rfl ?_); refine aG ?hg (N := 2) ?hd (cs := #[.int .u8 ck, .int .i64 cx, .int .i64 cy, .int .i64 cw, .int .i64 ch, .int .i64 aQ, .slice A l.length cc]) (t := 26) ?hr ?_; (case hd => rfl); (case hg => rfl); (case hr => (go_simp; done)); intro b2 hg w2 hbox hb; have K2 := ae.mk hbox; have q_ := ae.mk (ak HB.out hb); clear HB; have HB := q_; clear q_; clear hb hbox hg; have c0 := (af K2.out 0).trans rfl; have c1 := (af K2.out 1).trans rfl; have c2 := (af K2.out 2).trans rfl; have c3 := (af K2.out 3).trans rfl; have c4 := (af K2.out 4).trans rfl; have c5 := (af K2.out 5).trans rfl; have c6 := (af K2.out 6).trans rfl))
    clear c0 c1 c2 c3 c4 c5 c6
    go_loopg [22] l.length (fun gg v22 wr => ∃ (pre rest : List ai), v22 = .int .i64 (pre.length : Int) ∧ ae (pre ++ rest = l) ∧ rest.length ≤ gg ∧ ae (oZ id 0 l = oZ id pre.length rest) ∧ ae (Below w.heap.size w wr))
    case atStart => exact ⟨[], l, rfl, ⟨rfl⟩, Nat.le_refl _, ⟨rfl⟩, HB⟩
    case round =>
     clear HB K2
     obtain ⟨pre, rest, rfl, HE, hgg, HF, HB⟩ := hrel
     cases rest with
     | nil =>
      have hlt : ¬ ((pre.length : Int) < (l.length : Int)) := by have := HE.out; rw [List.append_nil] at this; rw [this]; omega
      clear hgg
      go_wp2
      go_ret2
      rw [HF.out, ou]
      exact ⟨_, rfl, Kd.wC _ _ _ _ _, HB.out⟩
     | cons k rest =>
      have hk : k ∈ l := by rw [← HE.out]; simp
      have hlt : (pre.length : Int) < (l.length : Int) := by rw [← HE.out, List.length_append, List.length_cons]; omega
      have hw : wrap64 ((pre.length : Int) + 1) = ((pre ++ [k]).length : Int) := by rw [List.length_append, List.length_singleton]; unfold wrap64; have := HL.out; omega
      have hrd : aj l (pre.length : Int) = k := by rw [← HE.out]; simp [aj, List.getD_eq_getElem?_getD]
      obtain ⟨ad, ua, uc, rfl, h0, h1, h2, h3, h4, h5, h6, Lt, hgu⟩ := pG HR.out (pre.length : Int) (Int.natCast_nonneg _) hlt
      rw [hrd] at h0 h1 h2 h3 h4 h5 h6 Lt hgu
      simp only [Int.toNat_natCast] at h0 h1 h2 h3 h4 h5 h6
      replace h0 := (HB.out.cell (World.block_lt_of_cell? w _ h0)).trans h0
      replace h1 := (HB.out.cell (World.block_lt_of_cell? w _ h1)).trans h1
      replace h2 := (HB.out.cell (World.block_lt_of_cell? w _ h2)).trans h2
      replace h3 := (HB.out.cell (World.block_lt_of_cell? w _ h3)).trans h3
      replace h4 := (HB.out.cell (World.block_lt_of_cell? w _ h4)).trans h4
      replace h5 := (HB.out.cell (World.block_lt_of_cell? w _ h5)).trans h5
      replace h6 := (HB.out.cell (World.block_lt_of_cell? w _ h6)).trans h6
      have HU := ae.mk hgu
      have LU := ae.mk Lt
      have HW := ae.mk hw
      have HK := ae.mk hk
      have HG := ae.mk hgg
      clear hgu Lt hw hk hgg hrd
      go_wp2_with (first | ((with_reducible refine au (N := 7) rfl ?_); refine aG ?hg (N := 7) ?hd (cs := #[.int .u8 0, .int .i64 0, .int .i64 0, .int .i64 0, .int .i64 0, .int .i64 0, .slice none 0 0]) (t := 26) ?hr ?_; (case hd => rfl); (case hg => rfl); (case hr => (go_simp; done)); intro b7 hg w7 hbox hb; have K7 := ae.mk hbox; have G7 := ae.mk (show w.heap.size ≤ b7 by rw [hg]; exact HB.out.size); have q_ := ae.mk (ak HB.out hb); clear HB; have HB := q_; clear q_; clear hb hbox hg) | ((with_reducible refine mO (.store 26 (.tmp 7) (.tmp 26)) rfl ?_); go_loud (refine gQ (w0 := w) rfl rfl 26 (.tmp 7) (.tmp 26) rfl (g := b7) (j := 0) (base := w.heap.size) #[.int .u8 k.f0, .int .i64 k.f1.f0, .int .i64 k.f1.f1, .int .i64 k.f1.f2, .int .i64 k.f1.f3, .int .i64 k.f2, .slice ua k.f3.length uc] (u := .agg #[.int .u8 k.f0, .int .i64 k.f1.f0, .int .i64 k.f1.f1, .int .i64 k.f1.f2, .int .i64 k.f1.f3, .int .i64 k.f2, .slice ua k.f3.length uc]) (bu := [.int .u8 k.f0, .int .i64 k.f1.f0, .int .i64 k.f1.f1, .int .i64 k.f1.f2, .int .i64 k.f1.f3, .int .i64 k.f2, .slice ua k.f3.length uc]) ?sA ?sX rfl ?sT ?s1 K7.out ?sJ rfl HB.out HB.out.size G7.out ?_; (case sA => rfl); (case sX => rfl); (case sT => rfl); (case s1 => (simp [Value.oneCell'])); (case sJ => (simp)); intro ws hbk hbb hgg; clear K7 HB; have K7 := ae.mk hbk; have HB := ae.mk hbb; clear hbk hbb hgg h0 h1 h2 h3 h4 h5 h6; have d0 := (af K7.out 0).trans rfl; have d1 := (af K7.out 1).trans rfl; have d2 := (af K7.out 2).trans rfl; have d3 := (af K7.out 3).trans rfl; have d4 := (af K7.out 4).trans rfl; have d5 := (af K7.out 5).trans rfl; have d6 := (af K7.out 6).trans rfl)))
      clear d0 d1 d2 d3 d4 d5 d6 K7
      refine (IH.out k HK.out ua uc _ (Kd.eY HU.out HB.out) LU.out).mono ?_
      rintro e wk ⟨v, rfl, ho, hb⟩
      have HO := ae.mk (Kd.rM ho HB.out.size)
      have q_ := ae.mk (ak HB.out hb); clear HB; have HB := q_; clear q_
      clear ho hb
      cases hf : dQ id k with
      | none =>
       rw [hf] at HO
       have HF2 := ae.mk hf
       simp only [hf, Option.isSome_none]
       clear hf
       go_wp2
       go_roundg rest.length
       case measure => exact Nat.lt_of_lt_of_le (Nat.lt_succ_self _) HG.out
       case rel => exact ⟨pre ++ [k], rest, (by rw [HW.out]), ⟨by rw [List.append_assoc]; exact HE.out⟩, Nat.le_refl _, ⟨by rw [HF.out, nX, HF2.out, List.length_append]; rfl⟩, HB⟩
      | some p =>
       rw [hf] at HO
       have HF2 := ae.mk hf
       have HP := ae.mk (yg.out k HK.out p hf)
       simp only [hf, Option.isSome_some]
       clear hf
       obtain ⟨Ap, cp, ep⟩ := Kd.jw HO.out
       subst ep
       go_wp2_with (((with_reducible refine au (N := 36) rfl ?_); refine LV ?hg (N := 36) ?hd (cs := #[.int .i64 (pre.length : Int)]) (t := 3) (n := 1) (c := 1) ?hr ?_; (case hd => rfl); (case hg => rfl); (case hr => (go_simp; done)); intro b9 hg w9 hbox hb; have K9 := ae.mk hbox; have NE := ae.mk (fun e_ => Nat.lt_irrefl _ (hg ▸ Kd.Gu HO.out b9 e_) : ¬ (Value.slice Ap ((some p).getD []).length cp).ownBlock = some b9); have ed := ae.mk (Kd.mi HO.out hb); clear HO; have HO := ed; clear ed; have q_ := ae.mk (ak HB.out hb); clear HB; have HB := q_; clear q_; clear hb hbox hg))
       refine (VM _ w.heap.size HB.out.size _ p (pre.length : Int) b9 1 (Kd.Po HO.out) K9.out NE.out HP.out).mono ?_
       rintro e wi ⟨v', rfl, ho, hb⟩
       have rW := ae.mk ho
       have HB2 := ae.mk (HB.out.trans hb)
       clear ho hb
       go_wp2
       go_ret2
       rw [HF.out, nX, HF2.out]
       exact ⟨_, rfl, Kd.NK rW.out (fun _ _ => trivial), HB2.out⟩
  ·have h1b : (ck == 1) = false := beq_eq_false_iff_ne.mpr h1
   rw [if_neg (fun h => h1 h.1)]
   clear h1
   go_enter Try.func89, Try.ntmps89
   go_wp2_with (((with_reducible refine au (N := 2) rfl ?_); refine aG ?hg (N := 2) ?hd (cs := #[.int .u8 ck, .int .i64 cx, .int .i64 cy, .int .i64 cw, .int .i64 ch, .int .i64 aQ, .slice A l.length cc]) (t := 26) ?hr ?_; (case hd => rfl); (case hg => rfl); (case hr => (go_simp; done)); intro b2 hg w2 hbox hb; have K2 := ae.mk hbox; have q_ := ae.mk (ak HB.out hb); clear HB; have HB := q_; clear q_; clear hb hbox hg; have c0 := (af K2.out 0).trans rfl; have c1 := (af K2.out 1).trans rfl; have c2 := (af K2.out 2).trans rfl; have c3 := (af K2.out 3).trans rfl; have c4 := (af K2.out 4).trans rfl; have c5 := (af K2.out 5).trans rfl; have c6 := (af K2.out 6).trans rfl))
   clear c0 c1 c2 c3 c4 c5 c6
   go_loopg [22] l.length (fun gg v22 wr => ∃ (pre rest : List ai), v22 = .int .i64 (pre.length : Int) ∧ ae (pre ++ rest = l) ∧ rest.length ≤ gg ∧ ae (oZ id 0 l = oZ id pre.length rest) ∧ ae (Below w.heap.size w wr))
   case atStart => exact ⟨[], l, rfl, ⟨rfl⟩, Nat.le_refl _, ⟨rfl⟩, HB⟩
   case round =>
    clear HB K2
    obtain ⟨pre, rest, rfl, HE, hgg, HF, HB⟩ := hrel
    cases rest with
    | nil =>
     have hlt : ¬ ((pre.length : Int) < (l.length : Int)) := by have := HE.out; rw [List.append_nil] at this; rw [this]; omega
     clear hgg
     go_wp2
     go_ret2
     rw [HF.out, ou]
     exact ⟨_, rfl, Kd.wC _ _ _ _ _, HB.out⟩
    | cons k rest =>
     have hk : k ∈ l := by rw [← HE.out]; simp
     have hlt : (pre.length : Int) < (l.length : Int) := by rw [← HE.out, List.length_append, List.length_cons]; omega
     have hw : wrap64 ((pre.length : Int) + 1) = ((pre ++ [k]).length : Int) := by rw [List.length_append, List.length_singleton]; unfold wrap64; have := HL.out; omega
     have hrd : aj l (pre.length : Int) = k := by rw [← HE.out]; simp [aj, List.getD_eq_getElem?_getD]
     obtain ⟨ad, ua, uc, rfl, h0, h1, h2, h3, h4, h5, h6, Lt, hgu⟩ := pG HR.out (pre.length : Int) (Int.natCast_nonneg _) hlt
     rw [hrd] at h0 h1 h2 h3 h4 h5 h6 Lt hgu
     simp only [Int.toNat_natCast] at h0 h1 h2 h3 h4 h5 h6
     replace h0 := (HB.out.cell (World.block_lt_of_cell? w _ h0)).trans h0
     replace h1 := (HB.out.cell (World.block_lt_of_cell? w _ h1)).trans h1
     replace h2 := (HB.out.cell (World.block_lt_of_cell? w _ h2)).trans h2
     replace h3 := (HB.out.cell (World.block_lt_of_cell? w _ h3)).trans h3
     replace h4 := (HB.out.cell (World.block_lt_of_cell? w _ h4)).trans h4
     replace h5 := (HB.out.cell (World.block_lt_of_cell? w _ h5)).trans h5
     replace h6 := (HB.out.cell (World.block_lt_of_cell? w _ h6)).trans h6
     have HU := ae.mk hgu
     have LU := ae.mk Lt
     have HW := ae.mk hw
     have HK := ae.mk hk
     have HG := ae.mk hgg
     clear hgu Lt hw hk hgg hrd
     go_wp2_with (first | ((with_reducible refine au (N := 7) rfl ?_); refine aG ?hg (N := 7) ?hd (cs := #[.int .u8 0, .int .i64 0, .int .i64 0, .int .i64 0, .int .i64 0, .int .i64 0, .slice none 0 0]) (t := 26) ?hr ?_; (case hd => rfl); (case hg => rfl); (case hr => (go_simp; done)); intro b7 hg w7 hbox hb; have K7 := ae.mk hbox; have G7 := ae.mk (show w.heap.size ≤ b7 by rw [hg]; exact HB.out.size); have q_ := ae.mk (ak HB.out hb); clear HB; have HB := q_; clear q_; clear hb hbox hg) | ((with_reducible refine mO (.store 26 (.tmp 7) (.tmp 26)) rfl ?_); go_loud (refine gQ (w0 := w) rfl rfl 26 (.tmp 7) (.tmp 26) rfl (g := b7) (j := 0) (base := w.heap.size) #[.int .u8 k.f0, .int .i64 k.f1.f0, .int .i64 k.f1.f1, .int .i64 k.f1.f2, .int .i64 k.f1.f3, .int .i64 k.f2, .slice ua k.f3.length uc] (u := .agg #[.int .u8 k.f0, .int .i64 k.f1.f0, .int .i64 k.f1.f1, .int .i64 k.f1.f2, .int .i64 k.f1.f3, .int .i64 k.f2, .slice ua k.f3.length uc]) (bu := [.int .u8 k.f0, .int .i64 k.f1.f0, .int .i64 k.f1.f1, .int .i64 k.f1.f2, .int .i64 k.f1.f3, .int .i64 k.f2, .slice ua k.f3.length uc]) ?sA ?sX rfl ?sT ?s1 K7.out ?sJ rfl HB.out HB.out.size G7.out ?_; (case sA => rfl); (case sX => rfl); (case sT => rfl); (case s1 => (simp [Value.oneCell'])); (case sJ => (simp)); intro ws hbk hbb hgg; clear K7 HB; have K7 := ae.mk hbk; have HB := ae.mk hbb; clear hbk hbb hgg h0 h1 h2 h3 h4 h5 h6; have d0 := (af K7.out 0).trans rfl; have d1 := (af K7.out 1).trans rfl; have d2 := (af K7.out 2).trans rfl; have d3 := (af K7.out 3).trans rfl; have d4 := (af K7.out 4).trans rfl; have d5 := (af K7.out 5).trans rfl; have d6 := (af K7.out 6).trans rfl)))
     clear d0 d1 d2 d3 d4 d5 d6 K7
     refine (IH.out k HK.out ua uc _ (Kd.eY HU.out HB.out) LU.out).mono ?_
     rintro e wk ⟨v, rfl, ho, hb⟩
     have HO := ae.mk (Kd.rM ho HB.out.size)
     have q_ := ae.mk (ak HB.out hb); clear HB; have HB := q_; clear q_
     clear ho hb
     cases hf : dQ id k with
     | none =>
      rw [hf] at HO
      have HF2 := ae.mk hf
      simp only [hf, Option.isSome_none]
      clear hf
      go_wp2
      go_roundg rest.length
      case measure => exact Nat.lt_of_lt_of_le (Nat.lt_succ_self _) HG.out
      case rel => exact ⟨pre ++ [k], rest, (by rw [HW.out]), ⟨by rw [List.append_assoc]; exact HE.out⟩, Nat.le_refl _, ⟨by rw [HF.out, nX, HF2.out, List.length_append]; rfl⟩, HB⟩
     | some p =>
      rw [hf] at HO
      have HF2 := ae.mk hf
      have HP := ae.mk (yg.out k HK.out p hf)
      simp only [hf, Option.isSome_some]
      clear hf
      obtain ⟨Ap, cp, ep⟩ := Kd.jw HO.out
      subst ep
      go_wp2_with (((with_reducible refine au (N := 36) rfl ?_); refine LV ?hg (N := 36) ?hd (cs := #[.int .i64 (pre.length : Int)]) (t := 3) (n := 1) (c := 1) ?hr ?_; (case hd => rfl); (case hg => rfl); (case hr => (go_simp; done)); intro b9 hg w9 hbox hb; have K9 := ae.mk hbox; have NE := ae.mk (fun e_ => Nat.lt_irrefl _ (hg ▸ Kd.Gu HO.out b9 e_) : ¬ (Value.slice Ap ((some p).getD []).length cp).ownBlock = some b9); have ed := ae.mk (Kd.mi HO.out hb); clear HO; have HO := ed; clear ed; have q_ := ae.mk (ak HB.out hb); clear HB; have HB := q_; clear q_; clear hb hbox hg))
      refine (VM _ w.heap.size HB.out.size _ p (pre.length : Int) b9 1 (Kd.Po HO.out) K9.out NE.out HP.out).mono ?_
      rintro e wi ⟨v', rfl, ho, hb⟩
      have rW := ae.mk ho
      have HB2 := ae.mk (HB.out.trans hb)
      clear ho hb
      go_wp2
      go_ret2
      rw [HF.out, nX, HF2.out]
      exact ⟨_, rfl, Kd.NK rW.out (fun _ _ => trivial), HB2.out⟩
def ag'.f (a0 a1 a2 a3 a4 a5 : Int) (l : List ai) (id : Int) : Option (List Int × Bool) := if sz ⟨a0, ⟨a1, a2, a3, a4⟩, a5, l⟩ ≤ 1000000 then some ((dQ id ⟨a0, ⟨a1, a2, a3, a4⟩, a5, l⟩).getD [], (dQ id ⟨a0, ⟨a1, a2, a3, a4⟩, a5, l⟩).isSome) else none
theorem Qv : ∀ (is : List Int) (c x : ai), jT c is = some x → sz x ≤ sz c := by
 intro is
 induction is with
 | nil => intro c x h; injection h with h; rw [h]; exact Nat.le_refl _
 | cons i is ih =>
  intro c x h
  simp only [jT] at h
  split at h
  ·cases h
  ·rename_i hi
   have h1 := ih _ x h
   have h2 := yF (ED c.f3 i (by omega) (by omega))
   have h3 := bP c
   omega
theorem xn (id : Int) : ∀ (N : Nat), (∀ c : ai, sz c ≤ N → ∀ p, dQ id c = some p → ∃ z, jT c p = some z ∧ z.f0 = 1 ∧ z.f2 = id) ∧
  (∀ l : List ai, dO l ≤ N → ∀ (pre : List ai) (p : List Int), oZ id pre.length l = some p → ∃ i is z, p = i :: is ∧ 0 ≤ i ∧ i < ((pre ++ l).length : Int) ∧ jT (aj (pre ++ l) i) is = some z ∧ z.f0 = 1 ∧ z.f2 = id) := by
 intro N
 induction N with
 | zero =>
  refine ⟨fun c h => ?_, fun l h => ?_⟩
  ·rw [bP] at h; omega
  ·cases l with
   | nil => intro pre p hp; rw [ou] at hp; cases hp
   | cons z zs => rw [bJ, bP] at h; omega
 | succ N ih =>
  have hC : ∀ c : ai, sz c ≤ N + 1 → ∀ p, dQ id c = some p → ∃ z, jT c p = some z ∧ z.f0 = 1 ∧ z.f2 = id := by
   intro c h p hp
   have hs := bP c
   rw [qY] at hp
   split at hp
   ·rename_i hq
    injection hp with hp
    subst hp
    exact ⟨c, rfl, hq.1, hq.2⟩
   ·obtain ⟨i, is, z, rfl, h0, h1, h2, h3⟩ := ih.2 c.f3 (by omega) [] p hp
    refine ⟨z, ?_, h3⟩
    rw [List.nil_append] at h1 h2
    simp only [jT]
    rw [if_neg (by omega)]
    exact h2
  refine ⟨hC, fun l => ?_⟩
  induction l with
  | nil => intro _ pre p hp; rw [ou] at hp; cases hp
  | cons x xs ihl =>
   intro h pre p hp
   rw [bJ] at h
   rw [nX] at hp
   cases hx : dQ id x with
   | some q =>
    rw [hx] at hp
    injection hp with hp
    obtain ⟨z, hz, h3⟩ := hC x (by omega) q hx
    refine ⟨(pre.length : Int), q, z, hp.symm, by omega, by rw [List.length_append, List.length_cons]; omega, ?_, h3⟩
    rw [lD]
    exact hz
   | none =>
    rw [hx] at hp
    have e := ihl (by omega) (pre ++ [x]) p (by rw [List.length_append]; exact hp)
    rwa [List.append_assoc] at e
def ahH (ax : Int) (c : ai) (p : List Int) (d : Nat) : Bool := match jT c (p.take d) with
 | some z => iH ax z.f0
 | none => false
def frD (ax : Int) (c : ai) (p : List Int) : Option Nat := gDn (ahH ax c p) p.length
theorem acZ : ∀ (p : List Int) (c x : ai), jT c p = some x → ∀ d, d < p.length → ∃ z, jT c (p.take d) = some z ∧ 0 ≤ rd p (d : Int) ∧ rd p (d : Int) < (z.f3.length : Int) := by
 intro p
 induction p with
 | nil => intro c x _ d h; simp at h
 | cons i is ih =>
  intro c x h d hd
  simp only [jT] at h
  split at h
  ·cases h
  ·rename_i hi
   cases d with
   | zero =>
    refine ⟨c, rfl, ?_⟩
    have e : rd (i :: is) ((0 : Nat) : Int) = i := rfl
    rw [e]
    omega
   | succ d =>
    obtain ⟨z, h1, h2⟩ := ih _ x h d (by simpa using hd)
    refine ⟨z, ?_, ?_⟩
    ·rw [List.take_succ_cons]
     simp only [jT]
     rw [if_neg hi]
     exact h1
    ·have e : rd (i :: is) ((d + 1 : Nat) : Int) = rd is (d : Int) := by unfold rd; rw [Int.toNat_natCast, Int.toNat_natCast]; rfl
     rw [e]
     exact h2
theorem Xg : ∀ (p : List Int) (c z : ai), dF c = true → jT c p = some z → dF z = true := by
 intro p
 induction p with
 | nil => intro c z h e; simp only [jT] at e; injection e with e; rwa [← e]
 | cons i is ih =>
  intro c z h e
  simp only [jT] at e
  split at e
  ·cases e
  ·rename_i hi
   exact ih _ z (Pure.yM h (ED c.f3 i (by omega) (by omega))) e
structure Jf (ax : Int) (c : ai) (p : List Int) (d : Nat) (z : ai) (q : Nat) : Prop where
 hd : d < p.length
 at' : jT c (p.take d) = some z
 al : iH ax z.f0 = true
 i0 : 0 ≤ rd p (d : Int)
 i1 : rd p (d : Int) < (z.f3.length : Int)
 len : 2 ≤ z.f3.length
 hq : (q : Int) = mn (rd p (d : Int)) ((z.f3.length : Int) - 2)
theorem Jf.next {ax : Int} {c : ai} {p : List Int} {d : Nat} {z : ai} {q : Nat} (h : Jf ax c p d z q) : q + 1 < z.f3.length := by
 have h1 := h.hq
 have h2 := h.len
 unfold mn at h1
 split at h1 <;> omega
theorem SB {ax : Int} {z : ai} (hax : ax = 1 ∨ ax = 2) (ht : dF z = true) (ha : iH ax z.f0 = true) : zi ax (aK ax z.f1 - ((z.f3.length : Int) - 1)) z.f3 := by
 have hm := nD ht
 have hB := Ht ht
 have U9 : nN z = true := by rw [tJ, Bool.and_eq_true] at hB; exact hB.1
 have hs := pJ hm
 have hz := bP z
 have hl := jY z.f3
 have e : z.f0 - 1 = ax ∧ (z.f0 = 2 ∨ z.f0 = 3) := by
  unfold iH at ha
  simp at ha
  omega
 obtain ⟨g1, _⟩ := CW U9 e.2 (by omega)
 rw [e.1] at g1
 have hg := Pure.oz hax ht
 have hk : 2 ≤ z.f3.length := by
  rcases xG (o9 (uN hm)) with ⟨a, _⟩ | ⟨_, b⟩
  ·omega
  ·exact b
 exact ⟨fun k hk => Pure.yM ht hk, by omega, by omega⟩
noncomputable def frN (ax id : Int) (c : ai) : Int := if dF c = true ∧ (ax = 1 ∨ ax = 2) then (match dQ id c with
 | none => 6
 | some p => match frD ax c p with
  | none => 10
  | some _ => 0) else 1
def nU.T5 : Bool × List (List Nat × List Nat) := (true, [([], []), ([0], [0]), ([], []), ([], []), ([3], [3]), ([1, 2, 0, 1, 2, 3, 4], [1, 2]), ([5, 4, 4, 0, 1, 2, 3, 4], [4, 5])])
def nU.B5 : List Nat := [0, 1, 0, 0, 8, 31, 63]
theorem nU.PO : iY .any (opsOf Try.f151 5) = nU.T5 := by kernel_rfl
theorem nU.Ie : jA nU.T5.2 nU.B5 = true := by kernel_rfl
theorem Gx : ∀ (N : Nat) (c : ai), sz c ≤ N → N ≤ 1000000 → ∀ (P : Nat → Prop) (A : Option Addr) (cc : Nat) (w : World), Kd.V k26 26 w w.heap.size P (.slice A c.f3.length cc) c.f3 →
  Calls Try.prog 151 #[.agg #[.int .u8 c.f0, .int .i64 c.f1.f0, .int .i64 c.f1.f1, .int .i64 c.f1.f2, .int .i64 c.f1.f3, .int .i64 c.f2, .slice A c.f3.length cc]] w
   fun e w' => ∃ v : Value, e = .returned (.agg #[.int .u8 c.f0, .int .i64 c.f1.f0, .int .i64 c.f1.f1, .int .i64 c.f1.f2, .int .i64 c.f1.f3, .int .i64 c.f2, v]) ∧ Kd.N k26 26 w' w.heap.size (fun k => P k ∨ w.heap.size ≤ k) v c.f3 ∧ Below w.heap.size w w' := by
 intro N
 induction N with
 | zero => intro c h; rw [bP] at h; omega
 | succ N ih =>
  intro c hc hN P A cc w hs
  have hsz := bP c
  have hlen := jY c.f3
  have IH := ae.mk fun (k : ai) (hk : k ∈ c.f3) => ih k (by
   have : sz k ≤ dO c.f3 := by
    obtain ⟨p, q, e⟩ := List.append_of_mem hk
    rw [e, jX, bJ]; omega
   omega) (by omega)
  have MZ := ae.mk fun (W : World) (P' : Nat → Prop) (hV : Kd.V k26 26 W w.heap.size P' (.slice A c.f3.length cc) c.f3) => sQ.calls P' A cc c.f3 c.f3 W hV (if_pos (by omega))
  have HO := ae.mk hs
  have HL := ae.mk (show c.f3.length ≤ 1000000 by omega)
  have HB := ae.mk (Below.refl w.heap.size w)
  clear ih hs hc hN hsz hlen
  obtain ⟨ck, ⟨cx, cy, cw, ch⟩, aQ, l⟩ := c
  simp only [] at HO HL IH MZ ⊢
  go_enter Try.func151, Try.ntmps151
  go_upto_region 1 with (first | ((with_reducible refine au (N := 1) rfl ?_); refine aG ?hg (N := 1) ?hd (cs := #[.int .u8 ck, .int .i64 cx, .int .i64 cy, .int .i64 cw, .int .i64 ch, .int .i64 aQ, .slice A l.length cc]) (t := 26) ?hr ?_; (case hd => rfl); (case hg => rfl); (case hr => (go_simp; done)); intro b3 hg WQ hbox hb; have Ud := ae.mk (show w.heap.size ≤ b3 by rw [hg]; exact HB.out.size); have lX := ae.mk (ak HB.out hb); have tC := ae.mk (Kd.mY (Kd.pW HO.out b3 (by rw [hg]; exact Nat.le_refl _)) hb); clear HB HO; have HB := lX; have HO := tC; clear lX tC; have df := ae.mk hbox; clear hb hbox hg) | ((with_reducible refine au (N := 2) rfl ?_); refine aG ?hg (N := 2) ?hd (cs := #[.int .u8 0, .int .i64 0, .int .i64 0, .int .i64 0, .int .i64 0, .int .i64 0, .slice none 0 0]) (t := 26) ?hr ?_; (case hd => rfl); (case hg => rfl); (case hr => (go_simp; done)); intro b6 hg wb6 hbox hb; have Gb6 := ae.mk (show w.heap.size ≤ b6 by rw [hg]; exact HB.out.size); have vw := ae.mk (show b3 ≠ b6 by rw [hg]; exact Nat.ne_of_lt (fU df.out)); have lX := ae.mk (ak HB.out hb); have tC := ae.mk (Kd.mY (Kd.pW HO.out b6 (by rw [hg]; exact Nat.le_refl _)) hb); have iR := ae.mk (aN df.out hb); clear HB HO df; have HB := lX; have HO := tC; have df := iR; clear lX tC iR; have gJ := ae.mk hbox; clear hb hbox hg))
  have Ii : _ = some (Value.slice A l.length cc) := (af df.out 6).trans rfl
  go_upto_region 2 with (first | ((with_reducible refine lK (f := 137) rfl ?_); refine nR (some 7) rfl rfl Try.func137 (by kernel_rfl) rfl #[.slice A l.length cc] rfl (by (try simp only [List.map_toArray, List.map_cons, List.map_nil]); rfl) ?_; refine (MZ.out _ _ HO.out).mono ?_; rintro e wc1 ⟨v1, rfl, ho, hb⟩; refine ⟨_, rfl, ?_⟩; have HN := ae.mk (NI ho (fU df.out) (fU gJ.out) HB.out.size); clear ho HO; obtain ⟨A1, c1, e1⟩ := Kd.jJ HN.out; subst e1; have lX := ae.mk (ak HB.out hb); have iR := ae.mk (aN df.out hb); have iT := ae.mk (aN gJ.out hb); clear HB df gJ; have HB := lX; have df := iR; have gJ := iT; clear lX iR iT; clear hb) | ((with_reducible refine mO (.store 24 (.tmp 8) (.tmp 7)) rfl ?_); go_loud (refine gQ (w0 := w) rfl rfl 24 (.tmp 8) (.tmp 7) rfl (g := b3) (j := 6) (base := w.heap.size) #[.int .u8 ck, .int .i64 cx, .int .i64 cy, .int .i64 cw, .int .i64 ch, .int .i64 aQ, .slice A1 l.length c1] (u := .slice A1 l.length c1) (bu := [.slice A1 l.length c1]) ?sA ?sX rfl ?sT ?s1 df.out ?sJ rfl HB.out HB.out.size Ud.out ?_; (case sA => rfl); (case sX => rfl); (case sT => rfl); (case s1 => (simp [Value.oneCell'])); (case sJ => (simp)); intro ws1 hbk hbb hgg; have iT := ae.mk (bT gJ.out hgg (fun e_ => absurd (Option.some.inj e_) (by exact (fun Oz => vw.out Oz.symm)))); have lY := ae.mk (Kd.vJ HN.out hgg (fun k_ hk e_ => absurd (Option.some.inj e_) hk.1.2)); clear gJ HN; have gJ := iT; have HN := lY; clear iT lY; clear df HB; have df := ae.mk hbk; have HB := ae.mk hbb; clear hbk hbb hgg)))
  clear Ii
  have Ii : _ = some (Value.slice A1 l.length c1) := (af df.out 6).trans rfl
  go_wp2
  clear Ii
  go_loopg [12] l.length (fun gg v22 wr => ∃ (pre rest : List ai), v22 = .int .i64 (pre.length : Int) ∧ ae (pre ++ rest = l) ∧ rest.length ≤ gg ∧ ae (Kd.N k26 26 wr w.heap.size (fun q => ((P q ∨ w.heap.size ≤ q) ∧ q ≠ b3) ∧ q ≠ b6) (.slice A1 l.length c1) l) ∧ ae (wr.heap[b3]? = some (.cells #[.int .u8 ck, .int .i64 cx, .int .i64 cy, .int .i64 cw, .int .i64 ch, .int .i64 aQ, .slice A1 l.length c1] 26 (0, 0))) ∧ ae (wr.heap[b6]? = some (.cells #[.int .u8 0, .int .i64 0, .int .i64 0, .int .i64 0, .int .i64 0, .int .i64 0, .slice none 0 0] 26 (0, 0))) ∧ ae (Below w.heap.size w wr))
  case atStart => exact ⟨[], l, rfl, ⟨rfl⟩, Nat.le_refl _, HN, df, gJ, HB⟩
  case round =>
   clear HN df gJ HB
   obtain ⟨pre, rest, rfl, HE, hgg, HN, df, gJ, HB⟩ := hrel
   cases rest with
   | nil =>
    have hpl : pre = l := by have := HE.out; rwa [List.append_nil] at this
    have hlt : ¬ ((pre.length : Int) < (l.length : Int)) := by rw [hpl]; omega
    clear hpl hgg
    have c30 := (af df.out 0).trans rfl
    have c31 := (af df.out 1).trans rfl
    have c32 := (af df.out 2).trans rfl
    have c33 := (af df.out 3).trans rfl
    have c34 := (af df.out 4).trans rfl
    have c35 := (af df.out 5).trans rfl
    have Ii := (af df.out 6).trans rfl
    go_wp2_with (((with_reducible refine mO (.store 26 (.tmp 2) (.tmp 24)) rfl ?_); go_loud (refine gQ (w0 := w) rfl rfl 26 (.tmp 2) (.tmp 24) rfl (g := b6) (j := 0) (base := w.heap.size) #[.int .u8 ck, .int .i64 cx, .int .i64 cy, .int .i64 cw, .int .i64 ch, .int .i64 aQ, .slice A1 l.length c1] (u := .agg #[.int .u8 ck, .int .i64 cx, .int .i64 cy, .int .i64 cw, .int .i64 ch, .int .i64 aQ, .slice A1 l.length c1]) (bu := [.int .u8 ck, .int .i64 cx, .int .i64 cy, .int .i64 cw, .int .i64 ch, .int .i64 aQ, .slice A1 l.length c1]) ?sA ?sX rfl ?sT ?s1 gJ.out ?sJ rfl HB.out HB.out.size Gb6.out ?_; (case sA => rfl); (case sX => rfl); (case sT => rfl); (case s1 => (simp [Value.oneCell'])); (case sJ => (simp)); intro air hbk hbb hgg; have lY := ae.mk (Kd.vJ HN.out hgg (fun k_ hk e_ => absurd (Option.some.inj e_) hk.2)); have iR := ae.mk (bT df.out hgg (fun e_ => absurd (Option.some.inj e_) vw.out)); clear HN df; have HN := lY; have df := iR; clear lY iR; clear gJ HB; have gJ := ae.mk hbk; have HB := ae.mk hbb; clear hbk hbb hgg)))
    refine bodyPost_ret (results_cell_row rfl _ _ b6 26 _ (0, 0) _ rfl gJ.out Try.underlying26 rfl (by kernel_rfl)) rfl ?_
    exact ⟨_, rfl, Kd.jb HN.out (fun q hq => hq.1.1), HB.out⟩
   | cons k rest =>
    have hk : k ∈ l := by rw [← HE.out]; simp
    have hlt : (pre.length : Int) < (l.length : Int) := by rw [← HE.out, List.length_append, List.length_cons]; omega
    have hw : wrap64 ((pre.length : Int) + 1) = ((pre ++ [k]).length : Int) := by rw [List.length_append, List.length_singleton]; unfold wrap64; have := HL.out; omega
    obtain ⟨g, cap, he, hgb, XK, _⟩ := Kd.sN HN.out (by omega)
    injection he with ea en ec
    subst ea
    subst ec
    clear en
    have HGB := ae.mk hgb
    obtain ⟨ce, hcl, hM, hcc, hfr⟩ := Kd.yl HN.out z26 (pre.length : Int) (Int.natCast_nonneg _) hlt
    have hrd : l.getD (pre.length : Int).toNat z26 = k := by rw [← HE.out, Int.toNat_natCast]; simp [List.getD_eq_getElem?_getD]
    rw [hrd] at hM
    obtain ⟨ua, uc, rfl, ul, ge⟩ := oC hM
    have HV := ae.mk (show Kd.V k26 26 wr w.heap.size _ (.slice ua k.f3.length uc) k.f3 from Kd.yR ul ge)
    have HRD := ae.mk hrd
    have x0 : wr.cell? ⟨g, pre.length * 7, none⟩ = some (.int .u8 k.f0) := hcc 0 _ rfl
    have x1 : wr.cell? ⟨g, pre.length * 7 + 1, none⟩ = some (.int .i64 k.f1.f0) := hcc 1 _ rfl
    have x2 : wr.cell? ⟨g, pre.length * 7 + 2, none⟩ = some (.int .i64 k.f1.f1) := hcc 2 _ rfl
    have x3 : wr.cell? ⟨g, pre.length * 7 + 3, none⟩ = some (.int .i64 k.f1.f2) := hcc 3 _ rfl
    have x4 : wr.cell? ⟨g, pre.length * 7 + 4, none⟩ = some (.int .i64 k.f1.f3) := hcc 4 _ rfl
    have x5 : wr.cell? ⟨g, pre.length * 7 + 5, none⟩ = some (.int .i64 k.f2) := hcc 5 _ rfl
    have x6 : wr.cell? ⟨g, pre.length * 7 + 6, none⟩ = some (.slice ua k.f3.length uc) := hcc 6 _ rfl
    have HW1 := ae.mk hw
    have HK := ae.mk hk
    have kY := ae.mk hgg
    clear hcl hM hcc hfr hrd ul ge hgb XK hw hk hgg
    go_upto_region 5 with (first | ((with_reducible refine au (N := 4) rfl ?_); refine aG ?hg (N := 4) ?hd (cs := #[.int .u8 0, .int .i64 0, .int .i64 0, .int .i64 0, .int .i64 0, .int .i64 0, .slice none 0 0]) (t := 26) ?hr ?_; (case hd => rfl); (case hg => rfl); (case hr => (go_simp; done)); intro b8 hg wb8 hbox hb; have Gb8 := ae.mk (show w.heap.size ≤ b8 by rw [hg]; exact HB.out.size); have Gm := ae.mk (show b3 ≠ b8 by rw [hg]; exact Nat.ne_of_lt (fU df.out)); have Gn := ae.mk (show b6 ≠ b8 by rw [hg]; exact Nat.ne_of_lt (fU gJ.out)); have lX := ae.mk (ak HB.out hb); have lY := ae.mk (Kd.rJ (Kd.Ce HN.out b8 (by rw [hg]; exact Nat.le_refl _)) hb); have tH := ae.mk (Kd.mY (Kd.pW HV.out b8 (by rw [hg]; exact Nat.le_refl _)) hb); have iR := ae.mk (aN df.out hb); have iT := ae.mk (aN gJ.out hb); clear HB HN HV df gJ; have HB := lX; have HN := lY; have HV := tH; have df := iR; have gJ := iT; clear lX lY tH iR iT; have Kb8 := ae.mk hbox; clear hb hbox hg) | ((with_reducible refine mO (.store 26 (.tmp 4) (.tmp 16)) rfl ?_); go_loud (refine gQ (w0 := w) rfl rfl 26 (.tmp 4) (.tmp 16) rfl (g := b8) (j := 0) (base := w.heap.size) #[.int .u8 k.f0, .int .i64 k.f1.f0, .int .i64 k.f1.f1, .int .i64 k.f1.f2, .int .i64 k.f1.f3, .int .i64 k.f2, .slice ua k.f3.length uc] (u := .agg #[.int .u8 k.f0, .int .i64 k.f1.f0, .int .i64 k.f1.f1, .int .i64 k.f1.f2, .int .i64 k.f1.f3, .int .i64 k.f2, .slice ua k.f3.length uc]) (bu := [.int .u8 k.f0, .int .i64 k.f1.f0, .int .i64 k.f1.f1, .int .i64 k.f1.f2, .int .i64 k.f1.f3, .int .i64 k.f2, .slice ua k.f3.length uc]) ?sA ?sX rfl ?sT ?s1 Kb8.out ?sJ rfl HB.out HB.out.size Gb8.out ?_; (case sA => rfl); (case sX => rfl); (case sT => rfl); (case s1 => (simp [Value.oneCell'])); (case sJ => (simp)); intro Yv hbk hbb hgg; have lY := ae.mk (Kd.vJ HN.out hgg (fun k_ hk e_ => absurd (Option.some.inj e_) hk.2)); have tH := ae.mk (Kd.vK HV.out hgg (fun k_ hk e_ => absurd (Option.some.inj e_) hk.2)); have iR := ae.mk (bT df.out hgg (fun e_ => absurd (Option.some.inj e_) Gm.out)); have iT := ae.mk (bT gJ.out hgg (fun e_ => absurd (Option.some.inj e_) Gn.out)); clear HN HV df gJ; have HN := lY; have HV := tH; have df := iR; have gJ := iT; clear lY tH iR iT; clear Kb8 HB; have Kb8 := ae.mk hbk; have HB := ae.mk hbb; clear hbk hbb hgg)))
    clear x0 x1 x2 x3 x4 x5 x6
    have q_ := ae.mk (bQ HB.out)
    clear HB
    have HB := q_
    clear q_
    have q_ := ae.mk (Kd.Uu HN.out)
    clear HN
    have HN := q_
    clear q_
    have q_ := ae.mk (Kd.UC HV.out)
    clear HV
    have HV := q_
    clear q_
    have q_ := ae.mk (fA df.out)
    clear df
    have df := q_
    clear q_
    have q_ := ae.mk (fA gJ.out)
    clear gJ
    have gJ := q_
    clear q_
    have q_ := ae.mk (fA Kb8.out)
    clear Kb8
    have Kb8 := q_
    clear q_
    refine kX (n := 7) (S := fun w' => w'.heap[b3]? = some (.cells #[.int .u8 ck, .int .i64 cx, .int .i64 cy, .int .i64 cw, .int .i64 ch, .int .i64 aQ, .slice (some ⟨g, 0, none⟩) l.length c1] 26 (0, 0)) ∧ w'.heap[b8]? = some (.cells #[.int .u8 k.f0, .int .i64 k.f1.f0, .int .i64 k.f1.f1, .int .i64 k.f1.f2, .int .i64 k.f1.f3, .int .i64 k.f2, .slice ua k.f3.length uc] 26 (0, 0))) (ds := [6]) #[false, false, false, false, false, false, false] (by kernel_rfl) rfl rfl ⟨df.out, Kb8.out⟩ (fun hHeld => ?_); refine ik nU.PO nU.Ie (fun az fZ => ?_)
    generalize Yv.drew = wd at HB HN HV df gJ Kb8 hHeld ⊢
    refine zx (i := 0) (N := some 17) (v := ?_) (a' := ?_) #[true, false, false, false, false, false, false] rfl rfl (wE az.out (by kernel_rfl)) (fun _ _ _ h => h) (Or.inl ⟨by rfl, ?_⟩) ?_ ?_
    rotate_left
    ·intro w'; go_simp; with_reducible rfl
    rotate_left
    ·simp only [Act.put, List.setIfInBounds_toArray, List.set_cons_zero, List.set_cons_succ, lW, lV]
     rfl
    refine Dp (i := 1) (N := some 18) (v := ?_) (a' := ?_) #[true, true, false, false, false, false, false] rfl rfl (AB az.out fZ.out (by kernel_rfl)) (fun _ _ _ h => h) (Or.inl ⟨by rfl, ?_⟩) hHeld ?_ ?_
    rotate_left
    ·intro w' hs_
     have c := (af hs_.1 6).trans rfl
     go_simp; with_reducible rfl
    rotate_left
    ·simp only [Act.put, List.setIfInBounds_toArray, List.set_cons_zero, List.set_cons_succ, lW, lV]
     rfl
    refine zx (i := 2) (N := some 19) (v := ?_) (a' := ?_) #[true, true, true, false, false, false, false] rfl rfl (wE az.out (by kernel_rfl)) (fun _ _ _ h => h) (Or.inl ⟨by rfl, ?_⟩) ?_ ?_
    rotate_left
    ·intro w'; go_simp; with_reducible rfl
    rotate_left
    ·simp only [Act.put, List.setIfInBounds_toArray, List.set_cons_zero, List.set_cons_succ, lW, lV]
     rfl
    refine Dp (i := 3) (N := some 20) (v := ?_) (a' := ?_) #[true, true, true, true, false, false, false] rfl rfl (AB az.out fZ.out (by kernel_rfl)) (fun _ _ _ h => h) (Or.inl ⟨by rfl, ?_⟩) hHeld ?_ ?_
    rotate_left
    ·intro w' hs_
     have c0 := (af hs_.2 0).trans rfl
     have c1 := (af hs_.2 1).trans rfl
     have c2 := (af hs_.2 2).trans rfl
     have c3 := (af hs_.2 3).trans rfl
     have c4 := (af hs_.2 4).trans rfl
     have c5 := (af hs_.2 5).trans rfl
     have c6 := (af hs_.2 6).trans rfl
     go_simp; with_reducible rfl
    rotate_left
    ·simp only [Act.put, List.setIfInBounds_toArray, List.set_cons_zero, List.set_cons_succ, lW, lV]
     rfl
    refine X5 (i := 4) (N := some 21) #[true, true, true, true, true, false, false] rfl rfl (BO az.out (by kernel_rfl)) (by decide) (fun K hK => ?_)
    refine zu Try.func151 (by kernel_rfl) rfl #[.agg #[.int .u8 k.f0, .int .i64 k.f1.f0, .int .i64 k.f1.f1, .int .i64 k.f1.f2, .int .i64 k.f1.f3, .int .i64 k.f2, .slice ua k.f3.length uc]] (by rfl) rfl rfl (by (try simp only [List.map_toArray, List.map_cons, List.map_nil]); rfl) ?_
    refine (IH.out k HK.out _ ua uc wd HV.out).mono ?_
    rintro e wk ⟨v, rfl, ho, hb⟩
    refine ⟨_, rfl, ?_⟩
    have HE3 := ae.mk (fU df.out)
    have HE6 := ae.mk (fU gJ.out)
    have HE8 := ae.mk (fU Kb8.out)
    have HEG := ae.mk (Kd.DI HN.out g rfl)
    have HS := ae.mk HB.out.size
    have lX := ae.mk (ak HB.out hb); have lY := ae.mk (Kd.rJ HN.out hb); have tH := ae.mk (Kd.mY HV.out hb); have iR := ae.mk (aN df.out hb); have iT := ae.mk (aN gJ.out hb); have IY := ae.mk (aN Kb8.out hb); clear HB HN HV df gJ Kb8; have HB := lX; have HN := lY; have HV := tH; have df := iR; have gJ := iT; have Kb8 := IY; clear lX lY tH iR iT IY
    clear HV hb
    obtain ⟨Av, cv, ev⟩ := Kd.jJ ho
    subst ev
    have rW := ae.mk ho
    clear ho
    refine hK.out _ _ ⟨df.out, Kb8.out⟩ (fun hHeld => ?_)
    clear hK K
    refine pM (a' := ?_) ?_ ?_
    rotate_left
    ·show Act.put _ (some 21) _ = _
     simp only [Act.put, List.setIfInBounds_toArray, List.set_cons_zero, List.set_cons_succ, lW, lV]
     rfl
    refine zx (i := 5) (N := some 22) (v := ?_) (a' := ?_) #[true, true, true, true, true, true, false] rfl rfl (wE az.out (by kernel_rfl)) (fun _ _ _ h => h) (Or.inl ⟨by rfl, ?_⟩) ?_ ?_
    rotate_left
    ·intro w'; go_simp; with_reducible rfl
    rotate_left
    ·simp only [Act.put, List.setIfInBounds_toArray, List.set_cons_zero, List.set_cons_succ, lW, lV]
     rfl
    refine Td (i := 6) (N := none) #[true, true, true, true, true, true, true] rfl rfl (BO az.out (by kernel_rfl)) (by decide) (fun K hK => ?_)
    obtain ⟨ce, hcl, hM, hcc, hfr⟩ := Kd.yl HN.out z26 (pre.length : Int) (Int.natCast_nonneg _) hlt
    rw [HRD.out] at hM
    obtain ⟨ub, ud, rfl, _, _⟩ := oC hM
    have x0 : wk.cell? ⟨g, pre.length * 7, none⟩ = some (.int .u8 k.f0) := hcc 0 _ rfl
    have f0 : wk.frozen? ⟨g, pre.length * 7, none⟩ = false := hfr 0
    have x1 : wk.cell? ⟨g, pre.length * 7 + 1, none⟩ = some (.int .i64 k.f1.f0) := hcc 1 _ rfl
    have f1 : wk.frozen? ⟨g, pre.length * 7 + 1, none⟩ = false := hfr 1
    have x2 : wk.cell? ⟨g, pre.length * 7 + 2, none⟩ = some (.int .i64 k.f1.f1) := hcc 2 _ rfl
    have f2 : wk.frozen? ⟨g, pre.length * 7 + 2, none⟩ = false := hfr 2
    have x3 : wk.cell? ⟨g, pre.length * 7 + 3, none⟩ = some (.int .i64 k.f1.f2) := hcc 3 _ rfl
    have f3 : wk.frozen? ⟨g, pre.length * 7 + 3, none⟩ = false := hfr 3
    have x4 : wk.cell? ⟨g, pre.length * 7 + 4, none⟩ = some (.int .i64 k.f1.f3) := hcc 4 _ rfl
    have f4 : wk.frozen? ⟨g, pre.length * 7 + 4, none⟩ = false := hfr 4
    have x5 : wk.cell? ⟨g, pre.length * 7 + 5, none⟩ = some (.int .i64 k.f2) := hcc 5 _ rfl
    have f5 : wk.frozen? ⟨g, pre.length * 7 + 5, none⟩ = false := hfr 5
    have x6 : wk.cell? ⟨g, pre.length * 7 + 6, none⟩ = some (.slice ub k.f3.length ud) := hcc 6 _ rfl
    have f6 : wk.frozen? ⟨g, pre.length * 7 + 6, none⟩ = false := hfr 6
    have iU : ∀ q, (((fun q => ((P q ∨ w.heap.size ≤ q) ∧ q ≠ b3) ∧ q ≠ b6) q ∧ q ≠ g) ∧ q ≠ b8) ∨ wd.heap.size ≤ q → ((fun q => ((P q ∨ w.heap.size ≤ q) ∧ q ≠ b3) ∧ q ≠ b6) q ∧ q ≠ b8) ∧ q ≠ g := fun q hq => hq.elim (fun h => ⟨⟨h.1.1, h.2⟩, h.1.2⟩) (fun hn => ⟨⟨⟨⟨.inr (Nat.le_trans HS.out hn), Nat.ne_of_gt (Nat.lt_of_lt_of_le HE3.out hn)⟩, Nat.ne_of_gt (Nat.lt_of_lt_of_le HE6.out hn)⟩, Nat.ne_of_gt (Nat.lt_of_lt_of_le HE8.out hn)⟩, Nat.ne_of_gt (Nat.lt_of_lt_of_le HEG.out hn)⟩)
    have Lj := nH wk _ k (A6 := Av) (c6 := cv) (Kd.jO rW.out).2.1 (Kd.YI rW.out)
    have hseg := Kd.RU HN.out (pre.length : Int) (Int.natCast_nonneg _) hlt (bu := [.int .u8 k.f0, .int .i64 k.f1.f0, .int .i64 k.f1.f1, .int .i64 k.f1.f2, .int .i64 k.f1.f3, .int .i64 k.f2, .slice Av k.f3.length cv]) (j := 0) hcl hcc (show 0 + 7 ≤ 7 from by decide) (x' := k) Lj iU
    rw [show l.set (pre.length : Int).toNat k = l from by rw [← HE.out, Int.toNat_natCast]; simp] at hseg
    obtain ⟨w9, Es⟩ : ∃ w9, w9 = wk.setCells g ((pre.length : Int).toNat * 7 + 0) [.int .u8 k.f0, .int .i64 k.f1.f0, .int .i64 k.f1.f1, .int .i64 k.f1.f2, .int .i64 k.f1.f3, .int .i64 k.f2, .slice Av k.f3.length cv] := ⟨_, rfl⟩
    replace hseg : Kd.N k26 26 w9 w.heap.size (fun q => (fun q => ((P q ∨ w.heap.size ≤ q) ∧ q ≠ b3) ∧ q ≠ b6) q ∧ q ≠ b8) (.slice (some ⟨g, 0, none⟩) l.length c1) l ∧ wk.grownBy w9 (some g) := by rw [Es]; exact hseg
    have Uh := ae.mk (Kd.Uw hseg.1)
    have M_ := ae.mk (grown_below HB.out hseg.2 HGB.out HB.out.size)
    have yO := ae.mk (bT df.out hseg.2 (fun e_ => (HN.out.1 g rfl).1.1.2 (Option.some.inj e_).symm))
    have NC := ae.mk (bT gJ.out hseg.2 (fun e_ => (HN.out.1 g rfl).1.2 (Option.some.inj e_).symm))
    clear hseg Lj iU hcl hcc hfr hM HN HB df gJ Kb8 hHeld rW
    refine I9 (w1 := w9) (by rfl) rfl ?_ ?_
    ·rw [Es]; go_simp; rfl
    refine hK.out _ _ ?_
    clear hK K x0 x1 x2 x3 x4 x5 x6 f0 f1 f2 f3 f4 f5 f6 Es
    refine nz (jK az.out (by kernel_rfl)) ?_
    have hw := HW1.out
    go_wp2
    go_roundg rest.length
    case measure => exact Nat.lt_of_lt_of_le (Nat.lt_succ_self _) kY.out
    case rel => exact ⟨pre ++ [k], rest, (by rw [hw]), ⟨by rw [List.append_assoc]; exact HE.out⟩, Nat.le_refl _, Uh, yO, NC, M_⟩
def nU.f (a0 a1 a2 a3 a4 a5 : Int) (l : List ai) : Option (Int × Int × Int × Int × Int × Int × List ai) := if sz ⟨a0, ⟨a1, a2, a3, a4⟩, a5, l⟩ ≤ 1000000 then some (a0, a1, a2, a3, a4, a5, l) else none
def yG.T6 : Bool × List (List Nat × List Nat) := (true, [([], []), ([0], [0]), ([], []), ([1, 2], [1, 2]), ([3], [3]), ([], []), ([], []), ([6], [6]), ([4, 5, 7], [4, 5, 7]), ([8], [8]), ([9], [9]), ([9], [9]), ([], []), ([12, 10, 8, 0, 1, 2, 3, 4, 5, 6, 7, 8, 9, 10, 12], [10, 12]), ([11, 13, 0, 1, 2, 3, 4, 5, 6, 7, 8, 9, 10, 11, 12, 13], [11])])
def yG.B6 : List Nat := [0, 1, 0, 7, 15, 0, 0, 64, 255, 511, 1023, 1023, 0, 6143, 16383]
theorem yG.tab6 : iY .any (opsOf Try.f102 6) = yG.T6 := by kernel_rfl
theorem yG.AU : jA yG.T6.2 yG.B6 = true := by kernel_rfl
def wS (kid : ai) : List Int → ai → Option ai
 | [], _ => some kid
 | i :: is, c => if i < 0 ∨ i ≥ (c.f3.length : Int) then none else match wS kid is (aj c.f3 i) with
  | none => none
  | some k => some ⟨c.f0, c.f1, c.f2, c.f3.set i.toNat k⟩
abbrev WX (w : World) (P : Nat → Prop) : Option ai → Ending → World → Prop
 | none, e, w' => e = .returned (.tuple #[.agg #[.int .u8 0, .int .i64 0, .int .i64 0, .int .i64 0, .int .i64 0, .int .i64 0, .slice none 0 0], .bool false]) ∧ Below w.heap.size w w'
 | some z, e, w' => ∃ A c, e = .returned (.tuple #[.agg #[.int .u8 z.f0, .int .i64 z.f1.f0, .int .i64 z.f1.f1, .int .i64 z.f1.f2, .int .i64 z.f1.f3, .int .i64 z.f2, .slice A z.f3.length c], .bool true]) ∧ Kd.N k26 26 w' w.heap.size (fun k => P k ∨ w.heap.size ≤ k) (.slice A z.f3.length c) z.f3 ∧ Below w.heap.size w w'
section
variable {c x z : ai} {path p L : _} {en id : Int}
end
def qI (p : List Int) (d : Nat) (z : ai) : Nat := (mn (rd p (d : Int)) ((z.f3.length : Int) - 2)).toNat
structure yf (ax id : Int) (c : ai) (p : List Int) (d : Nat) (z : ai) (q : Nat) : Prop where
 wZ : dF c = true
 hax : ax = 1 ∨ ax = 2
 find : dQ id c = some p
 frd : frD ax c p = some d
 fr : Jf ax c p d z q
 zt : dF z = true
theorem yf.n {ax id : Int} {c : ai} {p : List Int} {d : Nat} {z : ai} {q : Nat} (h : yf ax id c p d z q) : frN ax id c = 0 := by
 unfold frN
 rw [if_pos ⟨h.wZ, h.hax⟩, h.find]
 simp only [h.frd]
theorem yf.q {ax id : Int} {c : ai} {p : List Int} {d : Nat} {z : ai} {q : Nat} (h : yf ax id c p d z q) : qI p d z = q := by
 unfold qI
 rw [← h.fr.hq]
 exact Int.toNat_natCast _
theorem yf.good {ax id : Int} {c : ai} {p : List Int} {d : Nat} {z : ai} {q : Nat} (h : yf ax id c p d z q) : zi ax (aK ax z.f1 - ((z.f3.length : Int) - 1)) z.f3 := SB h.hax h.zt h.fr.al
theorem yf.zs {ax id : Int} {c : ai} {p : List Int} {d : Nat} {z : ai} {q : Nat} (h : yf ax id c p d z q) : 1 + dO z.f3 ≤ sz c ∧ sz c ≤ 20000 := by
 have h1 := Qv _ _ _ h.fr.at'
 have h2 := bP z
 exact ⟨by omega, pJ (nD h.wZ)⟩
end Go.Proofs.Ytfdmfgaiblfbhaa.P
namespace Go.Proofs.Ytfdmfgaiblfbhaa.P
open Go.RowKit Go.Proofs.ag.aA Go.Proofs.ag.bg Go.Proofs.ag.bG
attribute [local go_sem] jD jQ kM kV jo jq kC kD
def aha.f (ay : Int) (aI : Int) (aC : Int) (aH : Int) (a1 : Int) : Option (Int × Int × Int × Int × Int × Int × (List (ai))) := some (1, ay, aI, aC, aH, a1, ([] : List (ai)))
mutual
def gG.l0 : Nat → Int → List (ai) → Int → Int → Option (Int)
 | 0, _, _, _, _ => none
 | k + 1, x3, x8, x9, x10 => if x10 < x9 then (if 0 ≤ x10 then (if x10 < (x8.length : Int) then ((gG.f k ((aj x8 x10).f3)).bind fun PN => (gG.l0 k (wrap64 (x3 + PN)) x8 x9 (wrap64 (x10 + 1)))) else (none)) else (none)) else (some x3)
def gG.f : Nat → List (ai) → Option (Int)
 | 0, _ => none
 | k + 1, l0 => gG.l0 k (l0.length : Int) l0 (l0.length : Int) 0
end
theorem gG.calls (k : Nat) : ∀ (A0 : Option Addr) (c0 : Nat) (l0 : List (ai)) (r : Int) (w : World) (hr0 : Kd.C k26 w A0 l0.length l0) (hc0 : l0.length ≤ c0) (h : gG.f k l0 = some r),
  Calls Try.prog 82 #[.slice A0 l0.length c0] w fun e w' => e = .returned (.int .i64 r) ∧ Below w.heap.size w w' := by
 induction k using Nat.strongRecOn with
 | _ k ih =>
 intro A0 c0 l0 r w hr0 hc0 h
 cases k with
 | zero => exact absurd h (by simp [gG.f])
 | succ k =>
 simp only [gG.f] at h
 have GN := Try.underlying26
 have HR0 := ae.mk hr0
 have Yz := ae.mk hc0
 clear hr0 hc0
 have HB := ae.mk (Below.refl w.heap.size w)
 have H : (gG.l0 k (l0.length : Int) l0 (l0.length : Int) 0) = some r := h
 clear h
 have H' := ae.mk H
 clear H
 go_enter Try.func82, Try.ntmps82
 go_wp2
 go_loopg [3, 10] k (fun kq v3 v10 w' => ∃ (kN : Int) (a_ : Int), v3 = .int .i64 kN ∧ v10 = .int .i64 a_ ∧ ae (gG.l0 kq kN l0 (l0.length : Int) a_ = some r) ∧ ae (kq ≤ k) ∧ ae (Below w.heap.size w w'))
 case atStart => exact ⟨((l0.length : Int)), (0), (by first | rfl | (simp; done) | (simp [*]; done)), (by first | rfl | (simp; done) | (simp [*]; done)), H', ⟨Nat.le_refl _⟩, ⟨by repeat (first | (with_reducible first | exact HB.out | apply aX | apply aV | apply bQ) | exact HB.out)⟩⟩
 case round =>
  clear H'
  obtain ⟨kN, a_, rfl, rfl, HA, qJ, HB⟩ := hrel
  cases gk with
  | zero => exact absurd HA.out (by simp [gG.l0])
  | succ k1 =>
   have H := HA.out
   clear HA
   simp only [gG.l0] at H
   by_cases c2 : a_ < (l0.length : Int)
   ·rw [if_pos c2] at H
    have Gw : decide (a_ < (l0.length : Int)) = true := decide_eq_true c2
    clear c2
    by_cases c3 : 0 ≤ a_
    ·rw [if_pos c3] at H
     have vz : decide (0 ≤ a_) = true := decide_eq_true c3
     clear c3
     by_cases c4 : a_ < (l0.length : Int)
     ·rw [if_pos c4] at H
      have oJ : decide (a_ < (l0.length : Int)) = true := decide_eq_true c4
      clear c4
      replace H := Option.bind_eq_some_iff.mp H
      obtain ⟨PN, A50, H⟩ := H
      replace H : (gG.l0 k1 (wrap64 (kN + PN)) l0 (l0.length : Int) (wrap64 (a_ + 1))) = some r := H
      have A5 := ae.mk A50
      clear A50
      have H' := ae.mk H
      clear H
      have X9 : 0 ≤ (a_ : Int) := of_decide_eq_true (by first | (with_reducible assumption) | assumption)
      have Ya : a_ < (l0.length : Int) := of_decide_eq_true (by first | (with_reducible assumption) | assumption)
      obtain ⟨ak8, Ub, UH, ahS, J4, J5, J6, J7, J8, J9, J_, Q4, QZ⟩ := pG HR0.out a_ X9 Ya
      cases ahS
      replace J4 := (HB.out.cell (World.block_lt_of_cell? w _ J4)).trans J4
      replace J5 := (HB.out.cell (World.block_lt_of_cell? w _ J5)).trans J5
      replace J6 := (HB.out.cell (World.block_lt_of_cell? w _ J6)).trans J6
      replace J7 := (HB.out.cell (World.block_lt_of_cell? w _ J7)).trans J7
      replace J8 := (HB.out.cell (World.block_lt_of_cell? w _ J8)).trans J8
      replace J9 := (HB.out.cell (World.block_lt_of_cell? w _ J9)).trans J9
      replace J_ := (HB.out.cell (World.block_lt_of_cell? w _ J_)).trans J_
      have Zp := ae.mk QZ
      have Zn := ae.mk Q4
      clear QZ Q4
      replace X9 := eq_true X9
      replace Ya := eq_true Ya
      go_wp2_with (first | ((with_reducible refine au (N := 5) rfl ?_); refine aG ?hg (N := 5) ?hd (cs := #[.int .u8 0, .int .i64 0, .int .i64 0, .int .i64 0, .int .i64 0, .int .i64 0, .slice none 0 0]) (t := 26) ?hr ?_; (case hd => rfl); (case hg => rfl); (case hr => first | (go_simp; done) | (go_simp; rfl)); intro xQ hg w6 hbox hb; have qN := ae.mk (ak (by repeat (first | (with_reducible first | exact HB.out | apply aX | apply aV | apply bQ) | exact HB.out)) hb); have qO := ae.mk (hbox); have tq := ae.mk ((by rw [hg]; exact (dI (by repeat (first | (with_reducible first | exact HB.out | apply aX | apply aV | apply bQ) | exact HB.out))) : w.heap.size ≤ xQ)); have vU := ae.mk ((by rw [hg]; exact (dI (by repeat (first | (with_reducible first | exact HB.out | apply aX | apply aV | apply bQ) | exact HB.out))) : w.heap.size ≤ xQ)); clear HB; have HB := qN; have pz := qO; have ak4 := tq; have RH := vU; clear qN qO tq vU; clear hb hbox hg; have Vh : w6.cell? ⟨xQ, 0, none⟩ = some (.int .u8 0) := (af pz.out 0).trans rfl; have Vj : w6.cell? ⟨xQ, 1, none⟩ = some (.int .i64 0) := (af pz.out 1).trans rfl; have Vk : w6.cell? ⟨xQ, 2, none⟩ = some (.int .i64 0) := (af pz.out 2).trans rfl; have Vl : w6.cell? ⟨xQ, 3, none⟩ = some (.int .i64 0) := (af pz.out 3).trans rfl; have akA : w6.cell? ⟨xQ, 4, none⟩ = some (.int .i64 0) := (af pz.out 4).trans rfl; have akB : w6.cell? ⟨xQ, 5, none⟩ = some (.int .i64 0) := (af pz.out 5).trans rfl; have akC : w6.cell? ⟨xQ, 6, none⟩ = some (.slice none 0 0) := (af pz.out 6).trans rfl; have VB := ah pz.out 0; have VC := ah pz.out 1; have VD := ah pz.out 2; have VE := ah pz.out 3; have akD := ah pz.out 4; have akE := ah pz.out 5; have akF := ah pz.out 6) | ((with_reducible refine lK (f := 82) rfl ?_); refine nR (some 17) rfl rfl Try.func82 (by kernel_rfl) rfl #[.slice Ub ((aj l0 a_).f3).length UH] rfl (by (try simp only [List.map_toArray, List.map_cons, List.map_nil]); first | done | rfl | (simp only [List.length_drop, List.length_take]; rfl)) ?_; (with_reducible refine (ih k1 (by have := qJ.out; omega) _ _ ((aj l0 a_).f3) PN _ ?rC ?wY A5.out).mono ?_); (case rC => exact Kd.eY Zp.out (by repeat (first | (with_reducible first | exact HB.out | apply aX | apply aV | apply bQ | refine ig ?_ RH.out) | exact HB.out))); (case wY => exact Zn.out); rintro e w8 ⟨rfl, hb⟩; refine ⟨_, rfl, ?_⟩; have qN := ae.mk (aN (g := xQ) (o := .cells #[.int .u8 ((aj l0 a_).f0), .int .i64 ((aj l0 a_).f1.f0), .int .i64 ((aj l0 a_).f1.f1), .int .i64 ((aj l0 a_).f1.f2), .int .i64 ((aj l0 a_).f1.f3), .int .i64 ((aj l0 a_).f2), .slice Ub ((aj l0 a_).f3).length UH] 26 (0, 0)) (by (with_reducible repeat (first | refine fO ?_ _ | refine fA ?_ | refine fM ?_ _)); refine d_ (cs := #[.int .u8 ((aj l0 a_).f0), .int .i64 ((aj l0 a_).f1.f0), .int .i64 ((aj l0 a_).f1.f1), .int .i64 ((aj l0 a_).f1.f2), .int .i64 ((aj l0 a_).f1.f3), .int .i64 ((aj l0 a_).f2), .slice none 0 0]) ?_ 6 _ rfl; (with_reducible repeat (first | refine fO ?_ _ | refine fA ?_ | refine fM ?_ _)); refine d_ (cs := #[.int .u8 ((aj l0 a_).f0), .int .i64 ((aj l0 a_).f1.f0), .int .i64 ((aj l0 a_).f1.f1), .int .i64 ((aj l0 a_).f1.f2), .int .i64 ((aj l0 a_).f1.f3), .int .i64 0, .slice none 0 0]) ?_ 5 _ rfl; (with_reducible repeat (first | refine fO ?_ _ | refine fA ?_ | refine fM ?_ _)); refine d_ (cs := #[.int .u8 ((aj l0 a_).f0), .int .i64 ((aj l0 a_).f1.f0), .int .i64 ((aj l0 a_).f1.f1), .int .i64 ((aj l0 a_).f1.f2), .int .i64 0, .int .i64 0, .slice none 0 0]) ?_ 4 _ rfl; (with_reducible repeat (first | refine fO ?_ _ | refine fA ?_ | refine fM ?_ _)); refine d_ (cs := #[.int .u8 ((aj l0 a_).f0), .int .i64 ((aj l0 a_).f1.f0), .int .i64 ((aj l0 a_).f1.f1), .int .i64 0, .int .i64 0, .int .i64 0, .slice none 0 0]) ?_ 3 _ rfl; (with_reducible repeat (first | refine fO ?_ _ | refine fA ?_ | refine fM ?_ _)); refine d_ (cs := #[.int .u8 ((aj l0 a_).f0), .int .i64 ((aj l0 a_).f1.f0), .int .i64 0, .int .i64 0, .int .i64 0, .int .i64 0, .slice none 0 0]) ?_ 2 _ rfl; (with_reducible repeat (first | refine fO ?_ _ | refine fA ?_ | refine fM ?_ _)); refine d_ (cs := #[.int .u8 ((aj l0 a_).f0), .int .i64 0, .int .i64 0, .int .i64 0, .int .i64 0, .int .i64 0, .slice none 0 0]) ?_ 1 _ rfl; (with_reducible repeat (first | refine fO ?_ _ | refine fA ?_ | refine fM ?_ _)); refine d_ (cs := #[.int .u8 0, .int .i64 0, .int .i64 0, .int .i64 0, .int .i64 0, .int .i64 0, .slice none 0 0]) ?_ 0 _ rfl; (with_reducible repeat (first | refine fO ?_ _ | refine fA ?_ | refine fM ?_ _)); exact pz.out) hb); have qO := ae.mk (ak (by repeat (first | (with_reducible first | exact HB.out | apply aX | apply aV | apply bQ | refine ig ?_ RH.out) | exact HB.out)) hb); clear pz; clear HB; have pz := qN; have HB := qO; clear qN qO; (try clear hb); (try clear hb2); (try clear hk); (try clear hi)))
      go_roundg k1
      case measure => have := qJ.out; omega
      case rel => exact ⟨(wrap64 (kN + PN)), (wrap64 (a_ + 1)), (by first | rfl | (simp; done) | (simp [*]; done)), (by first | rfl | (simp; done) | (simp [*]; done)), H', ⟨by have := qJ.out; omega⟩, ⟨by repeat (first | (with_reducible first | exact HB.out | apply aX | apply aV | apply bQ | refine ig ?_ RH.out) | exact HB.out)⟩⟩
     ·rw [if_neg c4] at H
      exact absurd H (by simp)
    ·rw [if_neg c3] at H
     exact absurd H (by simp)
   ·rw [if_neg c2] at H
    have Gw : decide (a_ < (l0.length : Int)) = false := decide_eq_false c2
    clear c2
    obtain rfl := Option.some.inj H
    go_wp2
    go_ret
    exact ⟨by first | rfl | (simp [mJ, mM] <;> rfl) | (simp [*, mJ, mM] <;> rfl), by repeat (first | (with_reducible first | exact HB.out | apply aX | apply aV | apply bQ) | exact HB.out)⟩
end Go.Proofs.Ytfdmfgaiblfbhaa.P
namespace Go.Proofs.Ytfdmfgaiblfbhaa.P
open Go.RowKit Go.Proofs.ag.aA Go.Proofs.ag.bg Go.Proofs.ag.bG
theorem Om : ∀ (N : Nat) (l : List ai), dO l ≤ N → N ≤ 1048576000 → Ev (fun k => gG.f k l) (dO l : Int) := by
 intro N
 induction N with
 | zero =>
  intro l h _
  cases l with
  | nil =>
   refine ⟨2, fun k hk => ?_⟩
   obtain ⟨m, rfl⟩ : ∃ m, k = m + 2 := ⟨k - 2, by omega⟩
   simp [gG.f, gG.l0, nK]
  | cons x xs => rw [bJ, bP] at h; omega
 | succ N ih =>
  intro l hl hN
  have hlen := jY l
  have key : ∀ (rest pre : List ai), pre ++ rest = l → Ev (fun k => gG.l0 k ((l.length : Int) + ((dO pre : Int) - (pre.length : Int))) l (l.length : Int) (pre.length : Int)) (dO l : Int) := by
   intro rest
   induction rest with
   | nil =>
    intro pre hp
    rw [List.append_nil] at hp
    refine Ev.step (f := fun _ => some (dO l : Int)) (fun k => ?_) (Ev.now _)
    simp only [gG.l0]
    rw [if_neg (by rw [hp]; omega), hp]
    congr 1
    omega
   | cons x xs ihr =>
    intro pre hp
    have hs := bP x
    have hlt : (pre.length : Int) < (l.length : Int) := by rw [← hp, List.length_append, List.length_cons]; omega
    have hsum : dO l = dO pre + (sz x + dO xs) := by rw [← hp, jX, bJ]
    have hpl := jY pre
    have e2 := ihr (pre ++ [x]) (by rw [List.append_assoc]; exact hp)
    have hr : aj l (pre.length : Int) = x := by rw [← hp]; exact lD pre x xs
    have hu : wrap64 ((pre.length : Int) + 1) = ((pre ++ [x]).length : Int) := FU pre x xs (by rw [hp]; omega)
    have hpn : dO (pre ++ [x]) = dO pre + sz x := by rw [jX, bJ, nK]; omega
    have hw : wrap64 ((l.length : Int) + ((dO pre : Int) - (pre.length : Int)) + (dO x.f3 : Int)) = (l.length : Int) + ((dO (pre ++ [x]) : Int) - ((pre ++ [x]).length : Int)) := by
     rw [wq (by omega) (by omega), hpn, List.length_append, List.length_singleton]
     omega
    refine Ev.step (f := fun k => (gG.f k x.f3).bind fun t => gG.l0 k (wrap64 ((l.length : Int) + ((dO pre : Int) - (pre.length : Int)) + t)) l (l.length : Int) ((pre ++ [x]).length : Int)) (fun k => ?_) (Ev.bind (ih x.f3 (by omega) (by omega)) ?_)
    ·simp only [gG.l0]
     rw [if_pos hlt, if_pos (by omega), if_pos hlt, hr, hu]
    ·rw [hw]
     exact e2
  have e := key l [] rfl
  rw [nK] at e
  refine Ev.step (fun k => ?_) e
  simp only [gG.f]
  rw [show (l.length : Int) + (((0 : Nat) : Int) - (([] : List ai).length : Int)) = (l.length : Int) by simp]
  rfl
def zG.T2 : Bool × List (List Nat × List Nat) := (true, [([], []), ([], []), ([1], [1]), ([], []), ([3, 2], [3]), ([2, 4], [2, 4]), ([0, 5], [0, 5]), ([], []), ([7, 6, 4, 0, 1, 2, 3, 4, 5, 6, 7], [6, 7])])
def zG.B2 : List Nat := [0, 0, 2, 0, 14, 30, 63, 0, 255]
theorem zG.Yr : iY .any (opsOf Try.f75 2) = zG.T2 := by kernel_rfl
theorem zG.Sj : jA zG.T2.2 zG.B2 = true := by kernel_rfl
def Y4.f : Option Bool := some true
def yc.T6 : Bool × List (List Nat × List Nat) := (true, [([], []), ([0], [0]), ([], []), ([1, 2], [1, 2]), ([3], [3]), ([], []), ([5], [5]), ([], []), ([6, 7], [6, 7]), ([8], [8]), ([4, 9], [4, 9]), ([10], [10])])
def yc.B6 : List Nat := [0, 1, 0, 7, 15, 0, 32, 0, 224, 480, 1023, 2047]
theorem yc.tab6 : iY .any (opsOf Try.f64 6) = yc.T6 := by kernel_rfl
theorem yc.AU : jA yc.T6.2 yc.B6 = true := by kernel_rfl
theorem Wu {x y : ai} {v : Bool} {args : Array Value} {W : World} (h : u_ x y = v) (hc : Calls Try.prog 64 args W fun e w' => e = .returned (.bool (u_ x y)) ∧ Below W.heap.size W w') : Calls Try.prog 64 args W fun e w' => e = .returned (.bool v) ∧ Below W.heap.size W w' := by
 rw [h] at hc
 exact hc
theorem LW : ∀ (a a' b b' : List ai), a.length = a'.length → ui (a ++ b) (a' ++ b') = (ui a a' && ui b b') := by
 intro a
 induction a with
 | nil => intro a' b b' h; cases a' with
  | nil => rw [yD]; rfl
  | cons y ys => simp at h
 | cons x xs ih =>
  intro a' b b' h
  cases a' with
  | nil => simp at h
  | cons y ys => rw [List.cons_append, List.cons_append, wW, wW, ih ys b b' (by simpa using h), Bool.and_assoc]
theorem afa : ∀ (N : Nat) (c : ai), sz c ≤ N → N ≤ 1048576 → ∀ (d : ai) (P : Nat → Prop) (A : Option Addr) (cc : Nat) (A' : Option Addr) (cc' : Nat) (w : World), Kd.V k26 26 w w.heap.size P (.slice A c.f3.length cc) c.f3 → Kd.V k26 26 w w.heap.size P (.slice A' d.f3.length cc') d.f3 →
  Calls Try.prog 64 #[.agg #[.int .u8 c.f0, .int .i64 c.f1.f0, .int .i64 c.f1.f1, .int .i64 c.f1.f2, .int .i64 c.f1.f3, .int .i64 c.f2, .slice A c.f3.length cc], .agg #[.int .u8 d.f0, .int .i64 d.f1.f0, .int .i64 d.f1.f1, .int .i64 d.f1.f2, .int .i64 d.f1.f3, .int .i64 d.f2, .slice A' d.f3.length cc']] w fun e w' => e = .returned (.bool (u_ c d)) ∧ Below w.heap.size w w' := by
 intro N
 induction N with
 | zero => intro c h; rw [bP] at h; omega
 | succ N ih =>
  intro c hc hN d P A cc A' cc' w hv hv'
  have hsz := bP c
  have hlen := jY c.f3
  have S := ae.mk (St.start (ts := [(.slice A c.f3.length cc, c.f3), (.slice A' d.f3.length cc', d.f3)]) (b0 := w.heap.size) (w := w) (P := P) (fun t ht => by
   rcases List.mem_cons.1 ht with rfl | ht
   ·exact hv
   ·rw [List.mem_singleton.1 ht]; exact hv'))
  have kF := ae.mk (show c.f3.length ≤ 1048576 by omega)
  have IH := ae.mk fun (k : ai) (hk : k ∈ c.f3) d P A cc A' cc' w h h' => ih k (by have := Rn hk; omega) (by omega) d P A cc A' cc' w h h'
  have H8 := ae.mk (PI c d)
  obtain ⟨ck, ⟨cx, cy, cw, ch⟩, aQ, l⟩ := c
  obtain ⟨dk, ⟨dx, dy, dw, dh⟩, did, m⟩ := d
  simp only [] at S IH kF H8 ⊢
  clear ih hc hN hv hv' hsz hlen
  by_cases hk : ck = dk
  case neg =>
   have hkb : (ck == dk) = false := beq_eq_false_iff_ne.mpr hk
   have hkc : (ck != dk) = true := bne_iff_ne.mpr hk
   have hkd : decide (ck = dk) = false := decide_eq_false hk
   have HB := ae.mk hkb
   clear hk
   go_enter Try.func64, Try.ntmps64
   go_wp2_with (first | (refine boxS 2 _ 26 S ?_; clear S; intro b2 eU S) | (refine boxS 3 _ 26 S ?_; clear S; intro b3 fV S; have qR := (S.out.at bf 0).trans rfl; have dJ := (S.out.at (.head _) 0).trans rfl))
   clear qR dJ
   go_ret
   refine ⟨?_, S.out.below⟩
   rw [H8.out]
   rw [HB.out, Bool.false_and]
   rfl
  subst hk
  have hkb : (ck != ck) = false := bne_self_eq_false _
  by_cases hr : nI ⟨cx, cy, cw, ch⟩ ⟨dx, dy, dw, dh⟩ = true
  case neg =>
   have HB := ae.mk (Bool.eq_false_iff.mpr hr)
   clear hr
   go_enter Try.func64, Try.ntmps64
   go_wp2_with (first | (refine boxS 2 _ 26 S ?_; clear S; intro b2 eU S) | (refine boxS 3 _ 26 S ?_; clear S; intro b3 fV S; have qR := (S.out.at bf 0).trans rfl; have dJ := (S.out.at (.head _) 0).trans rfl; have qU := (S.out.at bf 1).trans rfl; have qV := (S.out.at bf 2).trans rfl; have qW := (S.out.at bf 3).trans rfl; have tY := (S.out.at bf 4).trans rfl; have dR := (S.out.at (.head _) 1).trans rfl; have dU := (S.out.at (.head _) 2).trans rfl; have dV := (S.out.at (.head _) 3).trans rfl; have jU := (S.out.at (.head _) 4).trans rfl))
   clear qR dJ qU qV qW tY dR dU dV jU
   all_goals (first | (exfalso; have h := HB.out; clear S; simp [nI, *] at h; done) | (go_ret; refine ⟨?_, S.out.below⟩; rw [H8.out, HB.out, Bool.false_and, Bool.and_false]; rfl))
  have HR := ae.mk hr
  unfold nI at hr
  simp only [Bool.and_eq_true, beq_iff_eq] at hr
  obtain ⟨rfl, rfl, rfl, rfl⟩ := hr
  by_cases hi : aQ = did
  case neg =>
   have hib : (aQ == did) = false := beq_eq_false_iff_ne.mpr hi
   have hic : (aQ != did) = true := bne_iff_ne.mpr hi
   have hid : decide (aQ = did) = false := decide_eq_false hi
   have HB := ae.mk hib
   clear hi
   go_enter Try.func64, Try.ntmps64
   go_wp2_with (first | (refine boxS 2 _ 26 S ?_; clear S; intro b2 eU S) | (refine boxS 3 _ 26 S ?_; clear S; intro b3 fV S; have qR := (S.out.at bf 0).trans rfl; have dJ := (S.out.at (.head _) 0).trans rfl; have qU := (S.out.at bf 1).trans rfl; have qV := (S.out.at bf 2).trans rfl; have qW := (S.out.at bf 3).trans rfl; have tY := (S.out.at bf 4).trans rfl; have dR := (S.out.at (.head _) 1).trans rfl; have dU := (S.out.at (.head _) 2).trans rfl; have dV := (S.out.at (.head _) 3).trans rfl; have jU := (S.out.at (.head _) 4).trans rfl; have zo := (S.out.at bf 5).trans rfl; have kJ := (S.out.at (.head _) 5).trans rfl))
   clear qR dJ qU qV qW tY dR dU dV jU zo kJ
   go_ret
   refine ⟨?_, S.out.below⟩
   rw [H8.out]
   rw [HB.out, Bool.false_and, Bool.and_false, Bool.and_false]
   rfl
  subst hi
  have hib : (aQ != aQ) = false := bne_self_eq_false _
  by_cases hl : l.length = m.length
  case neg =>
   have hl2 : ¬ ((l.length : Int) = (m.length : Int)) := by omega
   have aeG : ((l.length : Int) == (m.length : Int)) = false := beq_eq_false_iff_ne.mpr hl2
   have aeH : ((l.length : Int) != (m.length : Int)) = true := bne_iff_ne.mpr hl2
   have aeI : decide ((l.length : Int) = (m.length : Int)) = false := decide_eq_false hl2
   have hl3 : (l.length == m.length) = false := beq_eq_false_iff_ne.mpr hl
   have hl4 : decide (l.length = m.length) = false := decide_eq_false hl
   have hl5 : (l.length != m.length) = true := bne_iff_ne.mpr hl
   have HB := ae.mk hl3
   clear hl hl2
   go_enter Try.func64, Try.ntmps64
   go_wp2_with (first | (refine boxS 2 _ 26 S ?_; clear S; intro b2 eU S) | (refine boxS 3 _ 26 S ?_; clear S; intro b3 fV S; obtain ⟨dJ, dR, dU, dV, jU, kJ, gu⟩ := St.dS S (.head _); obtain ⟨qR, qU, qV, qW, tY, zo, tZ⟩ := St.dS S bf))
   clear dJ dR dU dV jU kJ gu qR qU qV qW tY zo tZ
   go_ret
   refine ⟨?_, S.out.below⟩
   rw [H8.out]
   rw [HB.out, Bool.false_and, Bool.and_false, Bool.and_false, Bool.and_false]
   rfl
  have HL := ae.mk hl
  have hl2 : (l.length : Int) = (m.length : Int) := by omega
  have aeG : ((l.length : Int) == (m.length : Int)) = true := beq_iff_eq.mpr hl2
  have aeH : ((l.length : Int) != (m.length : Int)) = false := bne_eq_false_iff_eq.mpr hl2
  have aeI : decide ((l.length : Int) = (m.length : Int)) = true := decide_eq_true hl2
  have hl4 : decide (l.length = m.length) = true := decide_eq_true hl
  have hl5 : (l.length != m.length) = false := bne_eq_false_iff_eq.mpr hl
  clear hl hl2
  go_enter Try.func64, Try.ntmps64
  go_wp2_with (first | (refine boxS 2 _ 26 S ?_; clear S; intro b2 eU S) | (refine boxS 3 _ 26 S ?_; clear S; intro b3 fV S; obtain ⟨dJ, dR, dU, dV, jU, kJ, gu⟩ := St.dS S (.head _); obtain ⟨qR, qU, qV, qW, tY, zo, tZ⟩ := St.dS S bf))
  clear dJ dR dU dV jU kJ gu qR qU qV qW tY zo tZ
  clear hkb hib aeG aeH aeI hl4 hl5
  go_loopg [37] l.length (fun gg v37 wr => ∃ (pre rest pb rb : List ai), v37 = .int .i64 (pre.length : Int) ∧ ae (pre ++ rest = l) ∧ ae (pb ++ rb = m) ∧ ae (pre.length = pb.length) ∧ ae (ui pre pb = true) ∧ rest.length ≤ gg ∧ ae (St w P [(some b3, .cells #[.int .u8 ck, .int .i64 cx, .int .i64 cy, .int .i64 cw, .int .i64 ch, .int .i64 aQ, .slice A' m.length cc'] 26 (0, 0)), (some b2, .cells #[.int .u8 ck, .int .i64 cx, .int .i64 cy, .int .i64 cw, .int .i64 ch, .int .i64 aQ, .slice A l.length cc] 26 (0, 0))] [] [(.slice A l.length cc, l), (.slice A' m.length cc', m)] [] wr))
  case atStart => exact ⟨[], l, [], m, rfl, ⟨rfl⟩, ⟨rfl⟩, ⟨rfl⟩, ⟨yD _⟩, Nat.le_refl _, ⟨S.out⟩⟩
  case round =>
   clear S
   obtain ⟨pre, rest, pb, rb, rfl, HE, HE2, yg, Qm, hgg, S⟩ := hrel
   have hlr : rest.length = rb.length := by have h1 := congrArg List.length HE.out; have h2 := congrArg List.length HE2.out; rw [List.length_append] at h1 h2; have := yg.out; have := HL.out; omega
   cases rest with
   | nil =>
    have hE := HE.out
    rw [List.append_nil] at hE
    have hE2 := hE.symm
    subst hE2
    have hrb := List.eq_nil_of_length_eq_zero hlr.symm
    subst hrb
    have QH := HE2.out
    rw [List.append_nil] at QH
    subst QH
    clear hE HE HE2 hgg hlr
    have hlt : ¬ ((l.length : Int) < (l.length : Int)) := by omega
    go_wp2
    go_ret
    refine ⟨?_, S.out.below⟩
    rw [H8.out, HR.out, Qm.out, beq_iff_eq.mpr HL.out, beq_self_eq_true, beq_self_eq_true]
    rfl
   | cons k rest =>
    cases rb with
    | nil => simp at hlr
    | cons q rb =>
     have hk : k ∈ l := by rw [← HE.out]; simp
     have hlt : (pre.length : Int) < (l.length : Int) := by rw [← HE.out, List.length_append, List.length_cons]; omega
     have hlt2 : (pre.length : Int) < (m.length : Int) := by rw [← HE2.out, List.length_append, List.length_cons]; have := yg.out; omega
     have hlt3 : pre.length < m.length := by omega
     have hw1 : wrap64 ((pre.length : Int) + 1) = ((pre ++ [k]).length : Int) := by have := kF.out; rw [List.length_append, List.length_singleton]; unfold wrap64; omega
     have HW1 := ae.mk hw1
     have kY := ae.mk hgg
     have HK := ae.mk hk
     obtain ⟨lu, ua, uc, ek, S1⟩ := S.out.elem (.head _) (pre.length : Int) (Int.natCast_nonneg _) hlt
     subst ek
     have hrd : aj l (pre.length : Int) = k := by rw [← HE.out]; exact lD pre k rest
     rw [hrd] at S1
     simp only [Int.toNat_natCast] at S1
     obtain ⟨adq, va, vc, U1, S2⟩ := S1.elem eF (pre.length : Int) (Int.natCast_nonneg _) hlt2
     subst U1
     have aeM : aj m (pre.length : Int) = q := by rw [← HE2.out, yg.out]; exact lD pb q rb
     rw [aeM] at S2
     simp only [Int.toNat_natCast] at S2
     replace S := ae.mk S2
     clear S1 S2 hrd aeM hk hgg hw1 hlr
     cases hsm : u_ k q with
     | false =>
      have HS := ae.mk hsm
      clear hsm
      go_wp2
      refine kX (n := 12) (S := fun w' => St w _ _ _ _ _ w') (ds := []) (bA 12 0) (by kernel_rfl) rfl rfl (S.out.call (bz (Below.refl _ _))) (fun hHeld => ?_); refine ik yc.tab6 yc.AU (fun az fZ => ?_)
      replace S := ae.mk (S.out.call (bz (Below.refl _ _)))
      generalize wr.drew = wd3 at S hHeld ⊢
      refine aJ 0 40 (bA 12 1) az ?_
      refine eQ 1 41 (bA 12 3) az fZ hHeld ?_ (hv := by intro w' hs_; have tZ := (hs_.at bf 6).trans rfl; go_simp; with_reducible rfl)
      refine aJ 2 42 (bA 12 7) az ?_
      refine aJ 3 43 (bA 12 15) az ?_
      refine eQ 4 44 (bA 12 31) az fZ hHeld ?_ (hv := by intro w' hs_; have y7_ := (hs_.cell _ mm7).1; have y8_ := (hs_.cell _ mm8).1; have y9_ := (hs_.cell _ Dw).1; have ais := (hs_.cell _ (.tail _ Dw)).1; have ait := (hs_.cell _ (.tail _ (.tail _ Dw))).1; have PW := (hs_.cell _ (.tail _ (.tail _ (.tail _ Dw)))).1; have aiu := (hs_.cell _ (.tail _ (.tail _ (.tail _ (.tail _ Dw))))).1; go_simp; with_reducible rfl)
      refine aJ 5 45 (bA 12 63) az ?_
      refine eQ 6 46 (bA 12 127) az fZ hHeld ?_ (hv := by intro w' hs_; have gu := (hs_.at (.head _) 6).trans rfl; go_simp; with_reducible rfl)
      refine aJ 7 47 (bA 12 255) az ?_
      refine aJ 8 48 (bA 12 511) az ?_
      refine eQ 9 49 (bA 12 1023) az fZ hHeld ?_ (hv := by intro w' hs_; have jZ := (hs_.cell _ (.head _)).1; have ku := (hs_.cell _ bf).1; have kz := (hs_.cell _ eF).1; have jE := (hs_.cell _ jM).1; have jF := (hs_.cell _ qg).1; have kG := (hs_.cell _ zh).1; have lJ := (hs_.cell _ Ew).1; go_simp; with_reducible rfl)
      refine kW 10 (some 50) (bA 12 2047) az (fun K hK => ?_)
      refine zu Try.func64 (by kernel_rfl) rfl #[.agg #[.int .u8 k.f0, .int .i64 k.f1.f0, .int .i64 k.f1.f1, .int .i64 k.f1.f2, .int .i64 k.f1.f3, .int .i64 k.f2, .slice ua k.f3.length uc], .agg #[.int .u8 q.f0, .int .i64 q.f1.f0, .int .i64 q.f1.f1, .int .i64 q.f1.f2, .int .i64 q.f1.f3, .int .i64 q.f2, .slice va q.f3.length vc]] (by rfl) rfl rfl (by (try simp only [List.map_toArray, List.map_cons, List.map_nil]); rfl) ?_
      refine (Wu HS.out (IH.out k HK.out q _ ua uc va vc _ (dX (S.out.tree _ bf)) (dX (S.out.tree _ (.head _))))).mono ?_
      rintro e lI ⟨rfl, hb⟩
      refine ⟨_, rfl, ?_⟩
      replace S := ae.mk (S.out.call hb)
      clear hb
      refine hK.out _ _ S.out (fun hHeld => ?_)
      clear hK K
      refine fJ 50 ?_
      refine aJ 11 51 (bA 12 4095) az ?_
      refine nz (jK az.out (by kernel_rfl)) ?_
      clear hHeld
      go_wp2
      go_ret
      refine ⟨?_, S.out.below⟩
      rw [H8.out, ← HE.out, ← HE2.out, LW _ _ _ _ yg.out, wW, HS.out, Bool.false_and, Bool.and_false, Bool.and_false, Bool.and_false, Bool.and_false, Bool.and_false]
      rfl
     | true =>
      have HS := ae.mk hsm
      clear hsm
      go_wp2
      refine kX (n := 12) (S := fun w' => St w _ _ _ _ _ w') (ds := []) (bA 12 0) (by kernel_rfl) rfl rfl (S.out.call (bz (Below.refl _ _))) (fun hHeld => ?_); refine ik yc.tab6 yc.AU (fun az fZ => ?_)
      replace S := ae.mk (S.out.call (bz (Below.refl _ _)))
      generalize wr.drew = wd5 at S hHeld ⊢
      refine aJ 0 40 (bA 12 1) az ?_
      refine eQ 1 41 (bA 12 3) az fZ hHeld ?_ (hv := by intro w' hs_; have tZ := (hs_.at bf 6).trans rfl; go_simp; with_reducible rfl)
      refine aJ 2 42 (bA 12 7) az ?_
      refine aJ 3 43 (bA 12 15) az ?_
      refine eQ 4 44 (bA 12 31) az fZ hHeld ?_ (hv := by intro w' hs_; have y7_ := (hs_.cell _ mm7).1; have y8_ := (hs_.cell _ mm8).1; have y9_ := (hs_.cell _ Dw).1; have ais := (hs_.cell _ (.tail _ Dw)).1; have ait := (hs_.cell _ (.tail _ (.tail _ Dw))).1; have PW := (hs_.cell _ (.tail _ (.tail _ (.tail _ Dw)))).1; have aiu := (hs_.cell _ (.tail _ (.tail _ (.tail _ (.tail _ Dw))))).1; go_simp; with_reducible rfl)
      refine aJ 5 45 (bA 12 63) az ?_
      refine eQ 6 46 (bA 12 127) az fZ hHeld ?_ (hv := by intro w' hs_; have gu := (hs_.at (.head _) 6).trans rfl; go_simp; with_reducible rfl)
      refine aJ 7 47 (bA 12 255) az ?_
      refine aJ 8 48 (bA 12 511) az ?_
      refine eQ 9 49 (bA 12 1023) az fZ hHeld ?_ (hv := by intro w' hs_; have jZ := (hs_.cell _ (.head _)).1; have ku := (hs_.cell _ bf).1; have kz := (hs_.cell _ eF).1; have jE := (hs_.cell _ jM).1; have jF := (hs_.cell _ qg).1; have kG := (hs_.cell _ zh).1; have lJ := (hs_.cell _ Ew).1; go_simp; with_reducible rfl)
      refine kW 10 (some 50) (bA 12 2047) az (fun K hK => ?_)
      refine zu Try.func64 (by kernel_rfl) rfl #[.agg #[.int .u8 k.f0, .int .i64 k.f1.f0, .int .i64 k.f1.f1, .int .i64 k.f1.f2, .int .i64 k.f1.f3, .int .i64 k.f2, .slice ua k.f3.length uc], .agg #[.int .u8 q.f0, .int .i64 q.f1.f0, .int .i64 q.f1.f1, .int .i64 q.f1.f2, .int .i64 q.f1.f3, .int .i64 q.f2, .slice va q.f3.length vc]] (by rfl) rfl rfl (by (try simp only [List.map_toArray, List.map_cons, List.map_nil]); rfl) ?_
      refine (Wu HS.out (IH.out k HK.out q _ ua uc va vc _ (dX (S.out.tree _ bf)) (dX (S.out.tree _ (.head _))))).mono ?_
      rintro e o6 ⟨rfl, hb⟩
      refine ⟨_, rfl, ?_⟩
      replace S := ae.mk (S.out.call hb)
      clear hb
      refine hK.out _ _ S.out (fun hHeld => ?_)
      clear hK K
      refine fJ 50 ?_
      refine aJ 11 51 (bA 12 4095) az ?_
      refine nz (jK az.out (by kernel_rfl)) ?_
      clear hHeld
      go_wp2
      have hw1 := HW1.out
      go_wp2
      go_roundg rest.length
      case measure => exact Nat.lt_of_lt_of_le (Nat.lt_succ_self _) kY.out
      case rel => exact ⟨pre ++ [k], rest, pb ++ [q], rb, (by rw [hw1]), ⟨by rw [List.append_assoc]; exact HE.out⟩, ⟨by rw [List.append_assoc]; exact HE2.out⟩, ⟨by rw [List.length_append, List.length_append, yg.out]; rfl⟩, ⟨by rw [LW _ _ _ _ yg.out, Qm.out, wW, HS.out, yD]; rfl⟩, Nat.le_refl _, ⟨S.out.dC.dC.aU.aU.aU.aU.aU.aU.aU.aU.aU.aU.aU.aU.aU.aU⟩⟩
def AtN (w : World) (P : Nat → Prop) : Option ai → Ending → World → Prop
 | none, e, w' => ∃ A2 c2, e = .returned (.tuple #[.agg #[.int .u8 0, .int .i64 0, .int .i64 0, .int .i64 0, .int .i64 0, .int .i64 0, .slice A2 0 c2], .bool false]) ∧ Kd.N k26 26 w' w.heap.size (fun k => P k ∨ w.heap.size ≤ k) (.slice A2 0 c2) [] ∧ Below w.heap.size w w'
 | some z, e, w' => ∃ A2 c2, e = .returned (.tuple #[.agg #[.int .u8 z.f0, .int .i64 z.f1.f0, .int .i64 z.f1.f1, .int .i64 z.f1.f2, .int .i64 z.f1.f3, .int .i64 z.f2, .slice A2 z.f3.length c2], .bool true]) ∧ Kd.N k26 26 w' w.heap.size (fun k => P k ∨ w.heap.size ≤ k) (.slice A2 z.f3.length c2) z.f3 ∧ Below w.heap.size w w'
theorem ahI (c : ai) (path : List Int) (r : Option ai) (hr : jT c path = r) (hp : path.length ≤ 1048576) (hc : sz c ≤ 1000000) (b : Nat) (P : Nat → Prop) (A : Option Addr) (cc : Nat) (B : Option Addr) (cb : Nat) (w : World) (hv : Kd.V k26 26 w b P (.slice A c.f3.length cc) c.f3) (hi : Kd.C (Kd.int .i64) w B path.length path) :
  Calls Try.prog 91 #[.agg #[.int .u8 c.f0, .int .i64 c.f1.f0, .int .i64 c.f1.f1, .int .i64 c.f1.f2, .int .i64 c.f1.f3, .int .i64 c.f2, .slice A c.f3.length cc], .slice B path.length cb] w (AtN w P r) := by
 have S := ae.mk (St.start (ts := [(.slice A c.f3.length cc, c.f3)]) (b0 := w.heap.size) (w := w) (P := P) (fun t ht => by rw [List.mem_singleton.1 ht]; exact dX hv))
 have HI := ae.mk hi
 have kF := ae.mk hp
 have HZ := ae.mk hc
 have HR := ae.mk hr
 clear hi hp hc hr hv
 go_enter Try.func91, Try.ntmps91
 go_wp2_with (first
  | (refine boxS 2 _ 26 S ?_; clear S; intro b2 eU S)
  | (refine boxS 4 _ 26 S ?_; clear S; intro b4 fV S)
  | fail)
 go_loopg [10] path.length (fun gg v10 wr => ∃ (pre rest : List Int) (z : ai) (Az : Option Addr) (cz : Nat), v10 = .int .i64 (pre.length : Int) ∧ ae (pre ++ rest = path) ∧ ae (jT z rest = r) ∧ ae (sz z ≤ 1000000) ∧ rest.length ≤ gg ∧ ae (St w P [(some b4, .cells #[.int .u8 0, .int .i64 0, .int .i64 0, .int .i64 0, .int .i64 0, .int .i64 0, .slice none 0 0] 26 (0, 0)), (some b2, .cells #[.int .u8 z.f0, .int .i64 z.f1.f0, .int .i64 z.f1.f1, .int .i64 z.f1.f2, .int .i64 z.f1.f3, .int .i64 z.f2, .slice Az z.f3.length cz] 26 (0, 0))] [] [(.slice Az z.f3.length cz, z.f3)] [] wr))
 case atStart => exact ⟨[], path, c, A, cc, rfl, ⟨rfl⟩, HR, HZ, Nat.le_refl _, S⟩
 case round =>
  clear S HR HZ
  obtain ⟨pre, rest, z, Az, cz, rfl, HE, HR, HZ, hgg, S⟩ := hrel
  cases rest with
  | nil =>
   have hr := HR.out
   simp only [jT] at hr
   subst hr
   clear HR
   have hE := HE.out
   rw [List.append_nil] at hE
   have hE2 := hE.symm
   subst hE2
   clear hE HE hgg
   have hlt : ¬ ((path.length : Int) < (path.length : Int)) := by omega
   obtain ⟨qR, qU, qV, qW, tY, zo, tZ⟩ := St.dS S bf
   go_wp2_with (first
    | (refine nG (some 31) Try.func151 (Gx 1000000 z HZ.out (Nat.le_refl _) _ Az cz _ (S.out.tree _ (.head _))) ?_; rintro e gz ⟨v, rfl, h1, hb⟩; refine ⟨_, rfl, ?_⟩; obtain ⟨Ac, cc', ev⟩ := Kd.jJ h1; subst ev; replace S := ae.mk (S.out.xK h1 hb); clear h1 hb; clear qR qU qV qW tY zo tZ)
    | (refine fC 26 4 31 #[.int .u8 z.f0, .int .i64 z.f1.f0, .int .i64 z.f1.f1, .int .i64 z.f1.f2, .int .i64 z.f1.f3, .int .i64 z.f2, .slice Ac z.f3.length cc'] 0 7 S ?_; clear S; intro lI S)
    | fail)
   refine bodyPost_ret (dY rfl _ _ b4 26 _ (0, 0) _ rfl (S.out.blk _ (.head _) _ rfl) Try.underlying26 rfl (by kernel_rfl)) rfl ?_
   exact ⟨_, _, rfl, S.out.yY, S.out.below⟩
  | cons i is =>
   have hlt : (pre.length : Int) < (path.length : Int) := by rw [← HE.out, List.length_append, List.length_cons]; omega
   have aeJ : pre.length < path.length := by omega
   have hw1 : wrap64 ((pre.length : Int) + 1) = ((pre ++ [i]).length : Int) := by have := kF.out; rw [List.length_append, List.length_singleton]; unfold wrap64; omega
   have HW1 := ae.mk hw1
   have kY := ae.mk hgg
   have Qk := ae.mk hlt
   have hrd : rd path (pre.length : Int) = i := by rw [← HE.out]; simp [rd, List.getD_eq_getElem?_getD]
   obtain ⟨FY, ek, xi⟩ := Kd.sS (Kd.eY HI.out S.out.below) (pre.length : Int) (Int.natCast_nonneg _) hlt
   subst ek
   have y9 := ae.mk (fun (W : World) (h : Below w.heap.size w W) => (show W.cell? (FY.add pre.length) = some (.int .i64 i) by have h2 := Kd.sS (Kd.eY HI.out h) (pre.length : Int) (Int.natCast_nonneg _) Qk.out; obtain ⟨ad, e1, e2⟩ := h2; injection e1 with e1; subst e1; simp only [Int.toNat_natCast] at e2; rw [e2, hrd]))
   clear hrd xi hgg hw1
   have hr := HR.out
   simp only [jT] at hr
   by_cases h0 : i < 0
   case pos =>
    rw [if_pos (.inl h0)] at hr
    subst hr
    clear HR
    obtain ⟨F6, D6⟩ := o5 (a := i) (b := 0) (by omega)
    have xi := y9.out _ S.out.below
    go_wp2_with (first
     | (refine fC 26 4 23 #[.int .u8 0, .int .i64 0, .int .i64 0, .int .i64 0, .int .i64 0, .int .i64 0, .slice none 0 0] 0 7 S ?_; clear S; intro eU S; clear xi)
     | fail)
    refine bodyPost_ret (dY rfl _ _ b4 26 _ (0, 0) _ rfl (S.out.blk _ (.head _) _ rfl) Try.underlying26 rfl (by kernel_rfl)) rfl ?_
    exact ⟨none, 0, rfl, Kd.ni _ _ _ _ _, S.out.below⟩
   by_cases h1 : i ≥ (z.f3.length : Int)
   case pos =>
    rw [if_pos (.inr h1)] at hr
    subst hr
    clear HR
    obtain ⟨F6, D6⟩ := gU (a := i) (b := 0) (by omega)
    have h1b : decide (i ≥ (z.f3.length : Int)) = true := decide_eq_true h1
    have h1c : decide ((z.f3.length : Int) ≤ i) = true := decide_eq_true h1
    have xi := y9.out _ S.out.below
    have tZ := (S.out.at bf 6).trans rfl
    go_wp2_with (first
     | (refine fC 26 4 23 #[.int .u8 0, .int .i64 0, .int .i64 0, .int .i64 0, .int .i64 0, .int .i64 0, .slice none 0 0] 0 7 S ?_; clear S; intro eU S; clear xi tZ)
     | fail)
    refine bodyPost_ret (dY rfl _ _ b4 26 _ (0, 0) _ rfl (S.out.blk _ (.head _) _ rfl) Try.underlying26 rfl (by kernel_rfl)) rfl ?_
    exact ⟨none, 0, rfl, Kd.ni _ _ _ _ _, S.out.below⟩
   rw [if_neg (fun h => h.elim h0 h1)] at hr
   obtain ⟨F6, D6⟩ := gU (a := i) (b := 0) (by omega)
   have h1b : decide (i ≥ (z.f3.length : Int)) = false := decide_eq_false h1
   have h1c : decide ((z.f3.length : Int) ≤ i) = false := decide_eq_false h1
   have hi0 : 0 ≤ i := by omega
   have hi1 : i < (z.f3.length : Int) := by omega
   obtain ⟨lu, ua, uc, ek, S1⟩ := S.out.elem (.head _) i hi0 hi1
   subst ek
   have hkz : sz (aj z.f3 i) ≤ 1000000 := by have h2 := yF (ED z.f3 i hi0 hi1); have h3 := bP z; have := HZ.out; omega
   obtain ⟨k, hk⟩ : ∃ k, k = aj z.f3 i := ⟨_, rfl⟩
   rw [← hk] at S1 hr hkz
   replace S := ae.mk S1
   replace HR := ae.mk hr
   have y8 := ae.mk hkz
   clear S1 hk hr hkz
   obtain ⟨jZ, ku, kz, jE, jF, kG, lJ⟩ := St.Dv S
   have xi := y9.out _ S.out.below
   have tZ := (S.out.at bf 6).trans rfl
   go_wp2_with (first
    | (refine ru 26 2 28 #[.int .u8 k.f0, .int .i64 k.f1.f0, .int .i64 k.f1.f1, .int .i64 k.f1.f2, .int .i64 k.f1.f3, .int .i64 k.f2, .slice ua k.f3.length uc] 0 7 S ?_; clear S; intro eU S; clear jZ ku kz jE jF kG lJ xi tZ)
    | fail)
   have hw1 := HW1.out
   go_wp2
   go_roundg is.length
   case measure => exact Nat.lt_of_lt_of_le (Nat.lt_succ_self _) kY.out
   case rel => exact ⟨pre ++ [i], is, k, ua, uc, (by rw [hw1]), ⟨by rw [List.append_assoc]; exact HE.out⟩, HR, y8, Nat.le_refl _, ⟨S.out.aU.aU.aU.aU.aU.aU.aU.agD (.head _)⟩⟩
section
variable {W : World} {b : Nat} {P : Nat → Prop} {A : Option Addr} {cc cb : Nat}
theorem Bf (c : ai) (path : List Int) (z : ai) (hz : jT c path = some z) (hp : path.length ≤ 1048576) (hc : sz c ≤ 1000000) {B : Option Addr} (hV : Kd.V k26 26 W b P (.slice A c.f3.length cc) c.f3) (hi : Kd.C (Kd.int .i64) W B path.length path) (_ : path.length ≤ cb) :
  Calls Try.prog 91 #[.agg #[.int .u8 c.f0, .int .i64 c.f1.f0, .int .i64 c.f1.f1, .int .i64 c.f1.f2, .int .i64 c.f1.f3, .int .i64 c.f2, .slice A c.f3.length cc], .slice B path.length cb] W fun e w' => ∃ A2 c2, e = .returned (.tuple #[.agg #[.int .u8 z.f0, .int .i64 z.f1.f0, .int .i64 z.f1.f1, .int .i64 z.f1.f2, .int .i64 z.f1.f3, .int .i64 z.f2, .slice A2 z.f3.length c2], .bool true]) ∧ Kd.N k26 26 w' W.heap.size (fun k => P k ∨ W.heap.size ≤ k) (.slice A2 z.f3.length c2) z.f3 ∧ Below W.heap.size W w' := ahI c path (some z) hz hp hc b P A cc B cb W hV hi
end
section
variable {W : World} {b b' : Nat} {P P' : Nat → Prop} {A A' : Option Addr} {cc cc' : Nat}
theorem QG (c : ai) (g : Bool) (hg : ∃ k, kU.f k c.f0 c.f1.f0 c.f1.f1 c.f1.f2 c.f1.f3 c.f2 c.f3 = some g) (hV : Kd.V k26 26 W b P (.slice A c.f3.length cc) c.f3) :
  Calls Try.prog 34 #[.agg #[.int .u8 c.f0, .int .i64 c.f1.f0, .int .i64 c.f1.f1, .int .i64 c.f1.f2, .int .i64 c.f1.f3, .int .i64 c.f2, .slice A c.f3.length cc]] W fun e w' => e = .returned (.bool g) ∧ Below W.heap.size W w' := by
 obtain ⟨k, hk⟩ := hg
 have h := Kd.oI hV
 exact kU.calls k _ _ _ _ _ _ A cc c.f3 g W h.2.2 h.2.1 hk
theorem afb (x y : ai) (hx : sz x ≤ 1048576) (hV : Kd.V k26 26 W b P (.slice A x.f3.length cc) x.f3) (hV' : Kd.V k26 26 W b' P' (.slice A' y.f3.length cc') y.f3) :
  Calls Try.prog 64 #[.agg #[.int .u8 x.f0, .int .i64 x.f1.f0, .int .i64 x.f1.f1, .int .i64 x.f1.f2, .int .i64 x.f1.f3, .int .i64 x.f2, .slice A x.f3.length cc], .agg #[.int .u8 y.f0, .int .i64 y.f1.f0, .int .i64 y.f1.f1, .int .i64 y.f1.f2, .int .i64 y.f1.f3, .int .i64 y.f2, .slice A' y.f3.length cc']] W fun e w' => e = .returned (.bool (u_ x y)) ∧ Below W.heap.size W w' := by
 exact afa (sz x) x (Nat.le_refl _) hx y (fun _ => True) A cc A' cc' W (Kd.iQ (dX hV) (fun _ _ => trivial)) (Kd.iQ (dX hV') (fun _ _ => trivial))
theorem Ws (x : ai) (_ : sz x ≤ 1048576) : u_ x x = true := (TK (sz x)).1 x (Nat.le_refl _)
theorem afc (x : ai) (hx : sz x ≤ 1048576) (hV : Kd.V k26 26 W b P (.slice A x.f3.length cc) x.f3) (hV' : Kd.V k26 26 W b' P' (.slice A' x.f3.length cc') x.f3) :
  Calls Try.prog 64 #[.agg #[.int .u8 x.f0, .int .i64 x.f1.f0, .int .i64 x.f1.f1, .int .i64 x.f1.f2, .int .i64 x.f1.f3, .int .i64 x.f2, .slice A x.f3.length cc], .agg #[.int .u8 x.f0, .int .i64 x.f1.f0, .int .i64 x.f1.f1, .int .i64 x.f1.f2, .int .i64 x.f1.f3, .int .i64 x.f2, .slice A' x.f3.length cc']] W fun e w' => e = .returned (.bool true) ∧ Below W.heap.size W w' := by
 have h := afb x x hx hV hV'
 rw [Ws x hx] at h
 exact h
end
section
variable {Pr : Program} {ops : Array Oper} {rest : List Oper} {op : Oper} {a : Act} {Q : Exit → Act → World → Prop} {w W : World} {P : Nat → Prop} {bs : List (Option Nat × Obj)} {ts : List (Value × List ai)} {ro : List (Addr × Value)}
end
def afn.T5 : Bool × List (List Nat × List Nat) := (true, [([], []), ([0], [0]), ([], []), ([2], [2]), ([3], [3]), ([1, 4], [1, 4]), ([5], [5]), ([], []), ([], []), ([8], [8]), ([6, 7, 9], [6, 7, 9]), ([10], [10]), ([11], [11]), ([11], [11]), ([], []), ([14, 12, 10, 0, 1, 2, 3, 4, 5, 6, 7, 8, 9, 10, 11, 12, 14], [12, 14]), ([13, 15, 0, 1, 2, 3, 4, 5, 6, 7, 8, 9, 10, 11, 12, 13, 14, 15], [13])])
def afn.B5 : List Nat := [0, 1, 0, 4, 12, 31, 63, 0, 0, 256, 1023, 2047, 4095, 4095, 0, 24575, 65535]
def afo.T9 : Bool × List (List Nat × List Nat) := (true, [([], []), ([], []), ([1], [1]), ([2], [2]), ([], []), ([0, 3, 0, 1, 2, 3, 4], [0, 3]), ([5, 4, 0, 1, 2, 3, 4], [4, 5])])
def afo.B9 : List Nat := [0, 0, 2, 6, 0, 31, 63]
section
variable {Pr : Program} {ops : Array Oper} {rest : List Oper} {op : Oper} {a : Act} {Q : Exit → Act → World → Prop} {w W : World} {P : Nat → Prop} {bs : List (Option Nat × Obj)} {ow : List (Value × List ai)} {ts : List (Value × List ai)} {ro : List (Addr × Value)}
end
abbrev RY (W : World) (p : List Int) (t : Bool) (e : Ending) (w' : World) : Prop := ∃ A c, e = .returned (.tuple #[.slice A p.length c, .bool t]) ∧ (Kd.int .i64).R 3 w' W.heap.size (fun _ => True) (.slice A p.length c) p ∧ Below W.heap.size W w'
def agK.T3 : Bool × List (List Nat × List Nat) := (true, [([], []), ([0], [0]), ([1], [1]), ([2], [2]), ([3], [3]), ([4], [4]), ([5, 4], [4, 5]), ([6, 4], [4, 6]), ([4], [4]), ([8, 4], [4, 8]), ([9, 4], [4, 9]), ([7, 10, 4], [4, 7, 10]), ([4, 11], [4, 11])])
def agK.B3 : List Nat := [0, 1, 3, 7, 15, 31, 63, 127, 31, 287, 799, 2047, 4095]
def agL.T5 : Bool × List (List Nat × List Nat) := (true, [([], []), ([0], [0]), ([], []), ([2], [2]), ([3], [3]), ([1, 4], [1, 4]), ([5], [5]), ([], []), ([7], [7]), ([6, 8], [6, 8]), ([9], [9]), ([9], [9]), ([10, 9, 0, 1, 2, 3, 4, 5, 6, 7, 8, 9, 10, 11], [10]), ([11, 12, 0, 1, 2, 3, 4, 5, 6, 7, 8, 9, 10, 11, 12], [11])])
def agL.B5 : List Nat := [0, 1, 0, 4, 12, 31, 63, 0, 128, 511, 1023, 1023, 4095, 8191]
section
variable {W : World} {b : Nat} {P : Nat → Prop} {A B : Option Addr} {cc cb : Nat}
end
theorem abw : ∀ (is : List Int) (c kid : ai) (P : Nat → Prop) (A : Option Addr) (cc : Nat) (Ak : Option Addr) (BD : Nat) (B : Option Addr) (cb : Nat) (w : World), sz c ≤ 1000000 → sz kid ≤ 1000000 →
  Kd.V k26 26 w w.heap.size P (.slice A c.f3.length cc) c.f3 → Kd.V k26 26 w w.heap.size P (.slice Ak kid.f3.length BD) kid.f3 → Kd.C (Kd.int .i64) w B is.length is → is.length ≤ cb → wS kid is c ≠ none →
  Calls Try.prog 102 #[.agg #[.int .u8 c.f0, .int .i64 c.f1.f0, .int .i64 c.f1.f1, .int .i64 c.f1.f2, .int .i64 c.f1.f3, .int .i64 c.f2, .slice A c.f3.length cc], .agg #[.int .u8 kid.f0, .int .i64 kid.f1.f0, .int .i64 kid.f1.f1, .int .i64 kid.f1.f2, .int .i64 kid.f1.f3, .int .i64 kid.f2, .slice Ak kid.f3.length BD], .slice B is.length cb] w (WX w P (wS kid is c)) := by
 intro is
 induction is with
 | nil =>
  intro c kid P A cc Ak BD B cb w hz VK hv hvk hi hb _
  show Calls Try.prog 102 #[.agg #[.int .u8 c.f0, .int .i64 c.f1.f0, .int .i64 c.f1.f1, .int .i64 c.f1.f2, .int .i64 c.f1.f3, .int .i64 c.f2, .slice A c.f3.length cc], .agg #[.int .u8 kid.f0, .int .i64 kid.f1.f0, .int .i64 kid.f1.f1, .int .i64 kid.f1.f2, .int .i64 kid.f1.f3, .int .i64 kid.f2, .slice Ak kid.f3.length BD], .slice B 0 cb] w (WX w P (some kid))
  have S := ae.mk (St.start (ts := [(.slice A c.f3.length cc, c.f3), (.slice Ak kid.f3.length BD, kid.f3)]) (b0 := w.heap.size) (w := w) (P := P) (fun t ht => by
   rcases List.mem_cons.1 ht with rfl | ht
   ·exact hv
   ·rw [List.mem_singleton.1 ht]; exact hvk))
  have HZ := ae.mk hz
  have HZK := ae.mk VK
  clear hz VK hv hvk hi hb
  obtain ⟨ck, ⟨cx, cy, cw, ch⟩, aQ, l⟩ := c
  obtain ⟨kk, ⟨kx, ky, kw, kh⟩, kid, m⟩ := kid
  simp only [] at S ⊢
  go_enter Try.func102, Try.ntmps102
  go_wp2_with (first
   | (refine boxS 3 _ 26 S ?_; clear S; intro b3 eU S)
   | (refine boxS 4 _ 26 S ?_; clear S; intro b4 fV S)
   | (refine boxS 6 _ 26 S ?_; clear S; intro b6 gz S; obtain ⟨oV, ql, qm, qo, uV, uX, oW⟩ := St.dS S bf)
   | (refine nG (some 15) Try.func151 (Gx 1000000 ⟨kk, ⟨kx, ky, kw, kh⟩, kid, m⟩ HZK.out (Nat.le_refl _) _ Ak BD _ (S.out.tree _ bf)) ?_; rintro e lI ⟨v, rfl, h1, hb⟩; refine ⟨_, rfl, ?_⟩; obtain ⟨ahx, ahM, ev⟩ := Kd.jJ h1; subst ev; replace S := ae.mk (S.out.xK h1 hb); clear h1 hb; clear oV ql qm qo uV uX oW)
   | (refine fC 26 6 15 #[.int .u8 kk, .int .i64 kx, .int .i64 ky, .int .i64 kw, .int .i64 kh, .int .i64 kid, .slice ahx m.length ahM] 0 7 S ?_; clear S; intro mQ S)
   | fail)
  refine bodyPost_ret (dY rfl _ _ b6 26 _ (0, 0) _ rfl (S.out.blk _ (.head _) _ rfl) Try.underlying26 rfl (by kernel_rfl)) rfl ?_
  exact ⟨_, _, rfl, S.out.yY, S.out.below⟩
 | cons i is ih =>
  intro c kid P A cc Ak BD B cb w hz VK hv hvk hi hb hne
  have IH := ae.mk ih
  have HI := ae.mk hi
  have LI := ae.mk hb
  have S := ae.mk (St.start (ts := [(.slice A c.f3.length cc, c.f3), (.slice Ak kid.f3.length BD, kid.f3)]) (b0 := w.heap.size) (w := w) (P := P) (fun t ht => by
   rcases List.mem_cons.1 ht with rfl | ht
   ·exact hv
   ·rw [List.mem_singleton.1 ht]; exact hvk))
  obtain ⟨UD, rfl, xi⟩ := Kd.sS hi 0 (by omega) (by simp)
  rw [show ((0 : Int)).toNat = 0 from rfl, Addr.add_zero'] at xi
  have xi : w.cell? UD = some (.int .i64 i) := xi
  replace S := ae.mk (S.out.Zu xi)
  have hlen0 : (0 : Int) < ((is.length : Int) + 1) := by omega
  have hl0 : ((is.length + 1 : Nat) : Int) = (is.length : Int) + 1 := by omega
  have HZ := ae.mk hz
  have HZK := ae.mk VK
  have Ui := ae.mk hne
  clear ih hv hvk hi hb hne xi hz VK
  simp only [wS] at Ui ⊢
  obtain ⟨ck, ⟨cx, cy, cw, ch⟩, aQ, l⟩ := c
  obtain ⟨kk, ⟨kx, ky, kw, kh⟩, kid, m⟩ := kid
  simp only [] at S Ui ⊢
  simp only [List.length_cons] at HI LI ⊢
  have h0 : ¬ i < 0 := fun h => Ui.out (if_pos (.inl h))
  by_cases h1 : i ≥ (l.length : Int)
  ·exact absurd (if_pos (.inr h1)) Ui.out
  ·rw [if_neg (fun h => h.elim h0 h1)]
   have hne := Ui.out
   rw [if_neg (fun h => h.elim h0 h1)] at hne
   have D6 : decide (i < 0) = false := decide_eq_false h0
   have h1b : decide (i ≥ (l.length : Int)) = false := decide_eq_false h1
   have h1c : decide ((l.length : Int) ≤ i) = false := decide_eq_false h1
   have h0z : 0 ≤ i := by omega
   have h1z : i < (l.length : Int) := by omega
   obtain ⟨lu, ua, uc, ek, S1⟩ := S.out.elem (.head _) i h0z h1z
   subst ek
   replace S := ae.mk S1
   have y8 := ae.mk (show sz (aj l i) ≤ 1000000 by have := yF (ED l i h0z h1z); have := HZ.out; rw [bP] at this; simp only [] at this; omega)
   clear S1
   generalize aj l i = k at S y8 hne ⊢
   obtain ⟨i0, hi0, _, hsz, _⟩ := info_parts info3
   have hcut := Xw (P := Try.prog) 41 3 .i64 Try.underlying41 hi0 1 hsz (some UD) (is.length + 1) cb 1 (by omega) (by omega)
   have hdrop := Kd.acf HI.out (m := 1) (by rw [List.length_cons]; omega) LI.out
   obtain ⟨A2, hA2⟩ : ∃ A2, A2 = (if cb = (1 : Int).toNat then (some UD) else ((some UD) : Option Addr).map (·.add ((1 : Int).toNat * 1))) := ⟨_, rfl⟩
   obtain ⟨c2, hc2⟩ : ∃ c2, c2 = cb - (1 : Int).toNat := ⟨_, rfl⟩
   rw [← hA2, ← hc2, show is.length + 1 - (1 : Int).toNat = is.length by simp] at hcut
   have HI2 := ae.mk (show Kd.C (Kd.int .i64) w A2 is.length is by rw [hA2]; exact hdrop)
   have LI2 := ae.mk (show is.length ≤ c2 by have h3 := LI.out; rw [hc2]; simp; omega)
   have ahA := ae.mk hcut
   clear hdrop hA2 hc2 hi0 hsz hcut h0 h1
   have H0Z := ae.mk h0z
   have H1Z := ae.mk h1z
   cases hp : wS ⟨kk, ⟨kx, ky, kw, kh⟩, kid, m⟩ is k with
   | none => rw [hp] at hne; exact absurd rfl hne
   | some z =>
    have IHk := fun Q W h1 h2 h3 => IH.out k ⟨kk, ⟨kx, ky, kw, kh⟩, kid, m⟩ Q ua uc Ak BD A2 c2 W y8.out HZK.out h1 h2 h3 LI2.out (by rw [hp]; simp)
    simp only [hp] at IHk ⊢
    clear hne
    have hcut := ahA.out
    go_enter Try.func102, Try.ntmps102
    go_wp2_with (first
     | (refine boxS 3 _ 26 S ?_; clear S; intro b3 eU S)
     | (refine boxS 4 _ 26 S ?_; clear S; intro b4 fV S)
     | (refine boxS 6 _ 26 S ?_; clear S; intro b6 gz S; have y7_ := (S.out.cell _ mm7).1; have gu := (S.out.at eF 6).trans rfl)
     | fail)
    clear y7_ gu
    refine kX (n := 15) (S := fun w' => St w _ _ _ _ _ w') (ds := [13]) (bA 15 0) (by kernel_rfl) rfl rfl (S.out.call (bz (Below.refl _ _))) (fun hHeld => ?_); refine ik yG.tab6 yG.AU (fun az fZ => ?_)
    replace S := ae.mk (S.out.call (bz (Below.refl _ _)))
    generalize gz.drew = wd4 at S hHeld ⊢
    refine aJ 0 30 (bA 15 1) az ?_
    refine eQ 1 31 (bA 15 3) az fZ hHeld ?_ (hv := by intro w' hs_; have gu := (hs_.at eF 6).trans rfl; go_simp; with_reducible rfl)
    refine aJ 2 32 (bA 15 7) az ?_
    refine aJ 3 33 (bA 15 15) az ?_
    refine eQ 4 34 (bA 15 31) az fZ hHeld ?_ (hv := by intro w' hs_; have jZ := (hs_.cell _ (.head _)).1; have ku := (hs_.cell _ bf).1; have kz := (hs_.cell _ eF).1; have jE := (hs_.cell _ jM).1; have jF := (hs_.cell _ qg).1; have kG := (hs_.cell _ zh).1; have lJ := (hs_.cell _ Ew).1; go_simp; with_reducible rfl)
    refine eQ 5 35 (bA 15 63) az fZ hHeld ?_ (hv := by intro w' hs_; have oV := (hs_.at bf 0).trans rfl; have ql := (hs_.at bf 1).trans rfl; have qm := (hs_.at bf 2).trans rfl; have qo := (hs_.at bf 3).trans rfl; have uV := (hs_.at bf 4).trans rfl; have uX := (hs_.at bf 5).trans rfl; have oW := (hs_.at bf 6).trans rfl; go_simp; with_reducible rfl)
    refine aJ 6 36 (bA 15 127) az ?_
    refine aJ 7 37 (bA 15 255) az ?_
    refine FI (σ := Option Addr × Nat × Nat) 2 (bA 15 8191) (fun s_ => [(38, .tuple #[.agg #[.int .u8 z.f0, .int .i64 z.f1.f0, .int .i64 z.f1.f1, .int .i64 z.f1.f2, .int .i64 z.f1.f3, .int .i64 z.f2, .slice s_.1 z.f3.length s_.2.1], .bool true]), (29, .tuple #[.agg #[.int .u8 z.f0, .int .i64 z.f1.f0, .int .i64 z.f1.f1, .int .i64 z.f1.f2, .int .i64 z.f1.f3, .int .i64 z.f2, .slice s_.1 z.f3.length s_.2.1], .bool true]), (39, .agg #[.int .u8 z.f0, .int .i64 z.f1.f0, .int .i64 z.f1.f1, .int .i64 z.f1.f2, .int .i64 z.f1.f3, .int .i64 z.f2, .slice s_.1 z.f3.length s_.2.1]), (40, .bool true), (9, .pointer (some ⟨s_.2.2, 0, none⟩))]) (fun s_ w' => St w P [(some s_.2.2, .cells #[.int .u8 0, .int .i64 0, .int .i64 0, .int .i64 0, .int .i64 0, .int .i64 0, .slice none 0 0] 26 (0, 0)), (some b6, .cells #[.int .u8 0, .int .i64 0, .int .i64 0, .int .i64 0, .int .i64 0, .int .i64 0, .slice none 0 0] 26 (0, 0)), (some b4, .cells #[.int .u8 kk, .int .i64 kx, .int .i64 ky, .int .i64 kw, .int .i64 kh, .int .i64 kid, .slice Ak m.length BD] 26 (0, 0)), (some b3, .cells #[.int .u8 ck, .int .i64 cx, .int .i64 cy, .int .i64 cw, .int .i64 ch, .int .i64 aQ, .slice (some lu) l.length cc] 26 (0, 0))] [] [(.slice s_.1 z.f3.length s_.2.1, z.f3), (.slice ua k.f3.length uc, k.f3), (.slice (some lu) l.length cc, l), (.slice Ak m.length BD, m)] [((lu.add (i.toNat * 7)), .int .u8 k.f0), (⟨(lu.add (i.toNat * 7)).block, (lu.add (i.toNat * 7)).off + 1, none⟩, .int .i64 k.f1.f0), (⟨(lu.add (i.toNat * 7)).block, (lu.add (i.toNat * 7)).off + 2, none⟩, .int .i64 k.f1.f1), (⟨(lu.add (i.toNat * 7)).block, (lu.add (i.toNat * 7)).off + 3, none⟩, .int .i64 k.f1.f2), (⟨(lu.add (i.toNat * 7)).block, (lu.add (i.toNat * 7)).off + 4, none⟩, .int .i64 k.f1.f3), (⟨(lu.add (i.toNat * 7)).block, (lu.add (i.toNat * 7)).off + 5, none⟩, .int .i64 k.f2), (⟨(lu.add (i.toNat * 7)).block, (lu.add (i.toNat * 7)).off + 6, none⟩, .slice ua k.f3.length uc), (UD, .int .i64 i)] w') ?_ ?_
    rotate_left
    ·intro nZ
     refine ER (i := 8) (j := 12) (Ni := some 38) (Nj := some 9) (bA 15 511) (bA 15 4351) rfl rfl rfl rfl (yN az.out (by kernel_rfl)) (by decide) (by decide) (fun K hK => ?_) (fun K hK => ?_)
     ·skip
      refine lU Try.func102 #[.agg #[.int .u8 k.f0, .int .i64 k.f1.f0, .int .i64 k.f1.f1, .int .i64 k.f1.f2, .int .i64 k.f1.f3, .int .i64 k.f2, .slice ua k.f3.length uc], .agg #[.int .u8 kk, .int .i64 kx, .int .i64 ky, .int .i64 kw, .int .i64 kh, .int .i64 kid, .slice Ak m.length BD], .slice A2 is.length c2] ?_
      refine (IHk _ _ (dX (S.out.tree _ (.head _))) (dX (S.out.tree _ eF)) (Kd.eY HI2.out S.out.below)).mono ?_
      rintro e mQ ⟨Gi, Gy, rfl, h1, hb⟩
      refine ⟨_, rfl, ?_⟩
      replace S := ae.mk (S.out.res (Kd.Du (base' := 0) h1) hb)
      clear h1 hb
      refine hK.out _ _ S.out.dC (fun hHeld => ?_)
      clear hK K
      refine fJ 38 ?_
      refine aJ 9 29 (bA 15 1023) az ?_
      refine aJ 10 39 (bA 15 2047) az ?_
      refine aJ 11 40 (bA 15 4095) az ?_
      refine kW 12 (some 9) (bA 15 8191) az (fun K hK => ?_)
      refine lM ?hg (N := 9) ?hd (cs := #[.int .u8 0, .int .i64 0, .int .i64 0, .int .i64 0, .int .i64 0, .int .i64 0, .slice none 0 0]) (t := 26) ?hr ?_; (case hd => rfl); (case hg => rfl); (case hr => first | (go_simp; done) | (go_simp; rfl))
      intro b9 hg o6 hbox hb
      replace S := ae.mk (S.out.box hg hbox hb)
      clear hg hbox hb
      refine hK.out _ _ S.out.f_.dC (fun hHeld => ?_)
      clear hK K
      refine fJ 9 ?_
      exact pM (by simp only [kE, Act.put, List.setIfInBounds_toArray, List.set_cons_zero, List.set_cons_succ] <;> rfl) (nZ (Gi, Gy, b9) _ S.out)
     ·skip
      refine lM ?hg (N := 9) ?hd (cs := #[.int .u8 0, .int .i64 0, .int .i64 0, .int .i64 0, .int .i64 0, .int .i64 0, .slice none 0 0]) (t := 26) ?hr ?_; (case hd => rfl); (case hg => rfl); (case hr => first | (go_simp; done) | (go_simp; rfl))
      intro b9 hg uy hbox hb
      replace S := ae.mk (S.out.box hg hbox hb)
      clear hg hbox hb
      refine hK.out _ _ S.out.f_ (fun hHeld => ?_)
      clear hK K
      refine fJ 9 ?_
      refine kW 8 (some 38) (bA 15 4607) az (fun K hK => ?_)
      refine lU Try.func102 #[.agg #[.int .u8 k.f0, .int .i64 k.f1.f0, .int .i64 k.f1.f1, .int .i64 k.f1.f2, .int .i64 k.f1.f3, .int .i64 k.f2, .slice ua k.f3.length uc], .agg #[.int .u8 kk, .int .i64 kx, .int .i64 ky, .int .i64 kw, .int .i64 kh, .int .i64 kid, .slice Ak m.length BD], .slice A2 is.length c2] ?_
      refine (IHk _ _ (dX (S.out.tree _ (.head _))) (dX (S.out.tree _ eF)) (Kd.eY HI2.out S.out.below)).mono ?_
      rintro e xe ⟨Gi, Gy, rfl, h1, hb⟩
      refine ⟨_, rfl, ?_⟩
      replace S := ae.mk (S.out.res (Kd.Du (base' := 0) h1) hb)
      clear h1 hb
      refine hK.out _ _ S.out.f_.dC (fun hHeld => ?_)
      clear hK K
      refine fJ 38 ?_
      refine aJ 9 29 (bA 15 5119) az ?_
      refine aJ 10 39 (bA 15 6143) az ?_
      refine aJ 11 40 (bA 15 8191) az ?_
      exact pM (by simp only [kE, Act.put, List.setIfInBounds_toArray, List.set_cons_zero, List.set_cons_succ] <;> rfl) (nZ (Gi, Gy, b9) _ S.out)
    rintro ⟨Gi, Gy, b9⟩ wj9 S1
    simp only [kE, Act.put, List.setIfInBounds_toArray, List.set_cons_zero, List.set_cons_succ]
    replace S := ae.mk S1
    clear S1 hHeld
    have hHeld := S.out.f_.dC
    refine uZ 13 none (bA 15 16383) az (fun K hK => ?_)
    refine xH 0 rfl 26 (.tmp 9) (.tmp 39) rfl #[.int .u8 z.f0, .int .i64 z.f1.f0, .int .i64 z.f1.f1, .int .i64 z.f1.f2, .int .i64 z.f1.f3, .int .i64 z.f2, .slice Gi z.f3.length Gy] (j := 0) (u := .agg #[.int .u8 z.f0, .int .i64 z.f1.f0, .int .i64 z.f1.f1, .int .i64 z.f1.f2, .int .i64 z.f1.f3, .int .i64 z.f2, .slice Gi z.f3.length Gy]) (bu := [.int .u8 z.f0, .int .i64 z.f1.f0, .int .i64 z.f1.f1, .int .i64 z.f1.f2, .int .i64 z.f1.f3, .int .i64 z.f2, .slice Gi z.f3.length Gy]) S.out (by rfl) rfl rfl rfl rfl (by kernel_rfl) (by simp [Value.oneCell']) (by first | decide | simp) rfl ?_
    intro uB S1
    simp only [List.set_cons_zero, List.set_cons_succ] at S1
    replace S := ae.mk S1
    clear S1
    refine hK.out _ _ ?_
    clear hK K
    refine aJ 14 10 (bA 15 32767) az ?_
    refine nz (jK az.out (by kernel_rfl)) ?_
    clear hHeld
    obtain ⟨dJ, dR, dU, dV, jU, kJ, gu⟩ := St.dS S jM
    go_wp2_with (first
     | (refine nG (some 45) Try.func151 (Gx 1000000 ⟨ck, ⟨cx, cy, cw, ch⟩, aQ, l⟩ HZ.out (Nat.le_refl _) _ (some lu) cc _ (dX (S.out.tree _ eF))) ?_; rintro e Dq ⟨v, rfl, h1, hb⟩; refine ⟨_, rfl, ?_⟩; obtain ⟨g45, YQ, ev, _⟩ := Kd.sN h1 (by have := H1Z.out; have := H0Z.out; simp only []; omega); subst ev; replace S := ae.mk (S.out.xK h1 hb); clear h1 hb; clear dJ dR dU dV jU kJ gu)
     | (refine TB 26 3 45 #[.int .u8 ck, .int .i64 cx, .int .i64 cy, .int .i64 cw, .int .i64 ch, .int .i64 aQ, .slice (some ⟨g45, 0, none⟩) l.length YQ] 0 7 S ?_; clear S; intro EW S; obtain ⟨wP, Iw, zq, Iy, age, agf, agh⟩ := St.dS S (.head _); have gu := (S.out.at jM 6).trans rfl)
     | ((with_reducible refine mO (.store 26 (.tmp 50) (.tmp 49)) rfl ?_); go_loud (refine afe i z (.tmp 50) (.tmp 49) rfl S.out H0Z.out H1Z.out ?sA ?sX (by kernel_rfl) (.head _) rfl rfl ?_; (case sA => first | rfl | (go_simp; rfl)); (case sX => rfl); intro Kz S1; replace S := ae.mk S1; clear S1); clear wP Iw zq Iy age agf agh gu; obtain ⟨dJ, dR, dU, dV, jU, kJ, gu⟩ := St.dS S jM)
     | (refine ru 26 6 51 #[.int .u8 ck, .int .i64 cx, .int .i64 cy, .int .i64 cw, .int .i64 ch, .int .i64 aQ, .slice (some ⟨g45, 0, none⟩) l.length YQ] 0 7 S ?_; clear S; intro KA S; clear dJ dR dU dV jU kJ gu)
     | fail)
    refine bodyPost_ret (dY rfl _ _ b6 26 _ (0, 0) _ rfl (S.out.blk _ bf _ rfl) Try.underlying26 rfl (by kernel_rfl)) rfl ?_
    simp only [WX, List.length_set]
    exact ⟨_, _, rfl, S.out.yY, S.out.below⟩
def abM.T5 : Bool × List (List Nat × List Nat) := (true, [([], []), ([0], [0]), ([], []), ([2], [2]), ([3], [3]), ([1, 4], [1, 4]), ([5], [5]), ([], []), ([], []), ([8], [8]), ([6, 7, 9], [6, 7, 9]), ([10], [10]), ([11], [11]), ([11], [11]), ([], []), ([14, 12, 10, 0, 1, 2, 3, 4, 5, 6, 7, 8, 9, 10, 11, 12, 14], [12, 14]), ([13, 15, 0, 1, 2, 3, 4, 5, 6, 7, 8, 9, 10, 11, 12, 13, 14, 15], [13])])
def abM.B5 : List Nat := [0, 1, 0, 4, 12, 31, 63, 0, 0, 256, 1023, 2047, 4095, 4095, 0, 24575, 65535]
def abN.T9 : Bool × List (List Nat × List Nat) := (true, [([], []), ([], []), ([1], [1]), ([2], [2]), ([], []), ([0, 3, 0, 1, 2, 3, 4], [0, 3]), ([5, 4, 0, 1, 2, 3, 4], [4, 5])])
def abN.B9 : List Nat := [0, 0, 2, 6, 0, 31, 63]
section
variable {W : World} {b b' : Nat} {P : Nat → Prop} {A A' B : Option Addr} {cc cc' cb : Nat}
theorem MO (c kid : ai) (path : List Int) (z : ai) (hz : wS kid path c = some z) (hc : sz c ≤ 1000000) (hk : sz kid ≤ 1000000) (hV : Kd.V k26 26 W b P (.slice A c.f3.length cc) c.f3) (hV' : Kd.V k26 26 W b' P (.slice A' kid.f3.length cc') kid.f3) (hi : Kd.C (Kd.int .i64) W B path.length path) (hb : path.length ≤ cb) :
  Calls Try.prog 102 #[.agg #[.int .u8 c.f0, .int .i64 c.f1.f0, .int .i64 c.f1.f1, .int .i64 c.f1.f2, .int .i64 c.f1.f3, .int .i64 c.f2, .slice A c.f3.length cc], .agg #[.int .u8 kid.f0, .int .i64 kid.f1.f0, .int .i64 kid.f1.f1, .int .i64 kid.f1.f2, .int .i64 kid.f1.f3, .int .i64 kid.f2, .slice A' kid.f3.length cc'], .slice B path.length cb] W fun e w' => ∃ A2 c2, e = .returned (.tuple #[.agg #[.int .u8 z.f0, .int .i64 z.f1.f0, .int .i64 z.f1.f1, .int .i64 z.f1.f2, .int .i64 z.f1.f3, .int .i64 z.f2, .slice A2 z.f3.length c2], .bool true]) ∧ Kd.N k26 26 w' W.heap.size (fun k => P k ∨ W.heap.size ≤ k) (.slice A2 z.f3.length c2) z.f3 ∧ Below W.heap.size W w' := by
 have h := abw path c kid P A cc A' cc' B cb W hc hk (dX hV) (dX hV') hi hb (by rw [hz]; simp)
 rw [hz] at h
 exact h
theorem U3 (id : Int) (c : ai) (r : Option (List Int)) (h : dQ id c = r) (hc : sz c ≤ 1000000) (hV : Kd.V k26 26 W b P (.slice A c.f3.length cc) c.f3) :
  Calls Try.prog 89 #[.agg #[.int .u8 c.f0, .int .i64 c.f1.f0, .int .i64 c.f1.f1, .int .i64 c.f1.f2, .int .i64 c.f1.f3, .int .i64 c.f2, .slice A c.f3.length cc], .int .i64 id] W (RY W (r.getD []) r.isSome) := by
 have h2 := Kd.oI hV
 refine (adJ id 1000000 c hc (Nat.le_refl _) A cc W h2.2.2 h2.2.1).mono (fun e w' ⟨v, he, hR, hB⟩ => ?_)
 rw [h] at he hR
 obtain ⟨A2, c2, rfl⟩ := Kd.jw hR
 exact ⟨A2, c2, he, hR, hB⟩
theorem AY (id : Int) (c : ai) (p : List Int) (h : dQ id c = some p) (hc : sz c ≤ 1000000) (hV : Kd.V k26 26 W b P (.slice A c.f3.length cc) c.f3) :
  Calls Try.prog 89 #[.agg #[.int .u8 c.f0, .int .i64 c.f1.f0, .int .i64 c.f1.f1, .int .i64 c.f1.f2, .int .i64 c.f1.f3, .int .i64 c.f2, .slice A c.f3.length cc], .int .i64 id] W (RY W p true) := U3 id c (some p) h hc hV
theorem QF (id : Int) (c : ai) (h : dQ id c = none) (hc : sz c ≤ 1000000) (hV : Kd.V k26 26 W b P (.slice A c.f3.length cc) c.f3) :
  Calls Try.prog 89 #[.agg #[.int .u8 c.f0, .int .i64 c.f1.f0, .int .i64 c.f1.f1, .int .i64 c.f1.f2, .int .i64 c.f1.f3, .int .i64 c.f2, .slice A c.f3.length cc], .int .i64 id] W (RY W [] false) := U3 id c none h hc hV
end
section
variable {Pr : Program} {ops : Array Oper} {rest : List Oper} {op : Oper} {a : Act} {Q : Exit → Act → World → Prop} {w W : World} {P : Nat → Prop} {bs : List (Option Nat × Obj)} {ow : List (Value × List ai)} {ts : List (Value × List ai)} {ro : List (Addr × Value)}
theorem Fz (N : Option Tmp) {f : FuncId} {fn : Func} (hf : Pr.funcs[f]? = some fn) {ar : Array Operand} {ES : Array TypeId} {args : Array Value} {l : List Int} {F : Option Addr → Nat → Value} (S : ae (St w P bs ow ts ro W))
  (hc : Calls Pr f args W fun e w' => ∃ A c, e = .returned (F A c) ∧ (Kd.int .i64).R 3 w' W.heap.size (fun _ => True) (.slice A l.length c) l ∧ Below W.heap.size W w')
  (h : ∀ A c o w1, ae (St w P (((Value.slice A l.length c).ownBlock, o) :: bs) ow ts ro w1) → ae (IR w.heap.size (.slice A l.length c) l o) → wpList Pr ops Q rest (a.put N (F A c)) w1) (hd : op.dst = N := by rfl) (hg : op.guard = none := by rfl) (hop : op.op = .call { callee := .value (.func f), args := ar, argTypes := ES } := by rfl)
  (hname : (fn.name == "runtime.NumGoroutine") = false := by kernel_rfl) (hb : fn.body.isSome = true := by rfl) (hargs : ar.map a.eval = args := by ((try simp only [List.map_toArray, List.map_cons, List.map_nil]); first | done | rfl)) : wpList Pr ops Q (op :: rest) a W :=
 nR N hd hg hf hname hb args hop hargs (hc.mono fun e w1 ⟨A, c, he, h1, hb⟩ => by
  obtain ⟨o, S1, HI⟩ := S.out.ah9 h1 hb
  exact ⟨_, he, h A c o w1 ⟨S1⟩ ⟨HI⟩⟩)
end
section
variable {base : Nat} {W : World} {A : Option Addr} {c : Nat} {l : List Int} {o : Obj} {w : World} {P : Nat → Prop} {bs : List (Option Nat × Obj)} {ow : List (Value × List ai)} {ts : List (Value × List ai)} {ro : List (Addr × Value)}
theorem xk (HI : IR base (.slice A l.length c) l o) (S : St w P bs ow ts ro W) (hm : ((Value.slice A l.length c).ownBlock, o) ∈ bs) : Kd.C (Kd.int .i64) W A l.length l ∧ l.length ≤ c :=
 have h := Kd.gy (HI W (S.blk _ hm))
 ⟨h.2.2, h.2.1⟩
end
section
end
mutual
def yw (id ax : Int) (L : List ai) : ai → ai
 | ⟨a, r, d, l⟩ => if a = 1 then (if d = id then ⟨ax + 1, r, 0, L⟩ else ⟨a, r, d, l⟩) else ⟨a, r, d, qM id ax L (iH ax a) l⟩
def qM (id ax : Int) (L : List ai) (al : Bool) : List ai → List ai
 | [] => []
 | k :: ks => (if k.f0 = 1 ∧ k.f2 = id ∧ al = true then L else [yw id ax L k]) ++ qM id ax L al ks
end
theorem Ag (id ax : Int) (L : List ai) (c : ai) : yw id ax L c = if c.f0 = 1 then (if c.f2 = id then ⟨ax + 1, c.f1, 0, L⟩ else c) else ⟨c.f0, c.f1, c.f2, qM id ax L (iH ax c.f0) c.f3⟩ := by cases c; simp [yw]
theorem vS (id ax : Int) (L : List ai) (al : Bool) : qM id ax L al [] = [] := by simp [qM]
theorem rf (id ax : Int) (L : List ai) (al : Bool) (k : ai) (ks : List ai) : qM id ax L al (k :: ks) = (if k.f0 = 1 ∧ k.f2 = id ∧ al = true then L else [yw id ax L k]) ++ qM id ax L al ks := by simp [qM]
theorem FH (id ax : Int) (L : List ai) (al : Bool) : ∀ a b : List ai, qM id ax L al (a ++ b) = qM id ax L al a ++ qM id ax L al b := by
 intro a
 induction a with
 | nil => intro b; rw [vS, List.nil_append, List.nil_append]
 | cons k ks ih => intro b; rw [List.cons_append, rf, rf, ih, List.append_assoc]
def CZ (ax : Int) (leaf : ai) (L : List ai) : ai := ⟨ax + 1, leaf.f1, 0, L⟩
def xY (l : List ai) (i : Nat) (L : List ai) : List ai := l.take i ++ L ++ l.drop (i + 1)
def CU (ax : Int) (L : List ai) (c : ai) (p : List Int) (leaf : ai) : Option ai :=
 if p.length = 0 then wS (CZ ax leaf L) p c else match jT c (p.take (p.length - 1)) with
 | none => none
 | some par => if iH ax par.f0 = true then wS ⟨par.f0, par.f1, par.f2, xY par.f3 (rd p ((p.length - 1 : Nat) : Int)).toNat L⟩ (p.take (p.length - 1)) c else wS (CZ ax leaf L) p c
theorem wQ {id : Int} {c : ai} (h : dQ id c = none) : ¬ (c.f0 = 1 ∧ c.f2 = id) ∧ oZ id 0 c.f3 = none := by
 rw [qY] at h
 split at h
 ·cases h
 ·rename_i hh; exact ⟨hh, h⟩
theorem Sz {id : Int} : ∀ {l : List ai} {i : Nat}, oZ id i l = none → ∀ k, k ∈ l → dQ id k = none := by
 intro l
 induction l with
 | nil => intro i _ k h; cases h
 | cons x xs ih =>
  intro i h k hk
  rw [nX] at h
  cases hx : dQ id x with
  | some p => rw [hx] at h; cases h
  | none =>
   rw [hx] at h
   rcases List.mem_cons.1 hk with rfl | hk
   ·exact hx
   ·exact ih h k hk
theorem CG {id : Int} : ∀ {l : List ai} {i : Nat} {p : List Int}, oZ id i l = some p → ∃ pre k post q, l = pre ++ k :: post ∧ (∀ x, x ∈ pre → dQ id x = none) ∧ dQ id k = some q ∧ p = ((i + pre.length : Nat) : Int) :: q := by
 intro l
 induction l with
 | nil => intro i p h; rw [ou] at h; cases h
 | cons x xs ih =>
  intro i p h
  rw [nX] at h
  cases hx : dQ id x with
  | some q =>
   rw [hx] at h
   injection h with h
   exact ⟨[], x, xs, q, rfl, fun y hy => (by cases hy), hx, by rw [← h]; simp⟩
  | none =>
   rw [hx] at h
   obtain ⟨pre, k, post, q, e, h1, h2, h3⟩ := ih h
   refine ⟨x :: pre, k, post, q, by rw [e]; rfl, fun y hy => ?_, h2, by rw [h3, List.length_cons]; congr 1; omega⟩
   rcases List.mem_cons.1 hy with rfl | hy
   ·exact hx
   ·exact h1 y hy
theorem abg (id ax : Int) (L : List ai) : ∀ (N : Nat) (c : ai), sz c ≤ N → dQ id c = none → yw id ax L c = c := by
 intro N
 induction N with
 | zero => intro c h; rw [bP] at h; omega
 | succ N ih =>
  intro c hc h
  obtain ⟨h1, h2⟩ := wQ h
  rw [Ag]
  by_cases h0 : c.f0 = 1
  ·rw [if_pos h0, if_neg (fun e => h1 ⟨h0, e⟩)]
  ·rw [if_neg h0]
   have key : ∀ l : List ai, (∀ k, k ∈ l → sz k ≤ N ∧ dQ id k = none) → qM id ax L (iH ax c.f0) l = l := by
    intro l
    induction l with
    | nil => intro _; exact vS ..
    | cons k ks ihl =>
     intro hk
     have hk1 := hk k (by simp)
     rw [rf, if_neg (fun e => (wQ hk1.2).1 ⟨e.1, e.2.1⟩), ih k hk1.1 hk1.2, ihl (fun x hx => hk x (by simp [hx]))]
     rfl
   rw [key c.f3 (fun k hk => ⟨by have := yF hk; have := bP c; omega, Sz h2 k hk⟩)]
   cases c
   rfl
theorem CS (id ax : Int) (L : List ai) (al : Bool) : ∀ l : List ai, (∀ k, k ∈ l → dQ id k = none) → qM id ax L al l = l := by
 intro l
 induction l with
 | nil => intro _; exact vS ..
 | cons k ks ihl =>
  intro hk
  have hk1 := hk k (by simp)
  rw [rf, if_neg (fun e => (wQ hk1).1 ⟨e.1, e.2.1⟩), abg id ax L _ k (Nat.le_refl _) hk1, ihl (fun x hx => hk x (by simp [hx]))]
  rfl
theorem at_mem : ∀ (p : List Int) (c z : ai), jT c p = some z → z ∈ fK c := by
 intro p
 induction p with
 | nil => intro c z h; simp only [jT] at h; injection h with h; rw [← h, lC]; simp
 | cons i is ih =>
  intro c z h
  simp only [jT] at h
  split at h
  ·cases h
  ·rename_i hi
   have hm := ED c.f3 i (by omega) (by omega)
   obtain ⟨a, b, e⟩ := List.append_of_mem hm
   have := ih _ z h
   rw [lC, e, pX, iK]
   simp [this]
theorem Js : ∀ (a b : List ai), dL (a ++ b) = true → ∀ x y, x ∈ a → y ∈ b → x.f2 ≠ y.f2 := by
 intro a
 induction a with
 | nil => intro b _ x y h; cases h
 | cons z zs ih =>
  intro b h x y hx hy
  rw [List.cons_append] at h
  simp only [dL, Bool.and_eq_true] at h
  rcases List.mem_cons.1 hx with rfl | hx
  ·have h1 := List.all_eq_true.1 h.1 y (by simp [hy])
   simpa [eq_comm] using of_decide_eq_true h1
  ·exact ih b h.2 x y hx hy
theorem Le {id : Int} {c : ai} {p : List Int} (h : dQ id c = some p) : ∃ z, z ∈ (fK c).filter (fun x => decide (x.f0 = 1)) ∧ z.f2 = id := by
 obtain ⟨z, h1, h2, h3⟩ := (xn id _).1 c (Nat.le_refl _) p h
 exact ⟨z, List.mem_filter.2 ⟨at_mem p c z h1, decide_eq_true h2⟩, h3⟩
theorem OA {id : Int} {pre post : List ai} {k : ai} {q : List Int} (hd : dL ((allL (pre ++ k :: post)).filter fun x => decide (x.f0 = 1)) = true) (hk : dQ id k = some q) : ∀ x, x ∈ post → dQ id x = none := by
 intro x hx
 cases hf : dQ id x with
 | none => rfl
 | some r =>
  obtain ⟨z1, m1, e1⟩ := Le hk
  obtain ⟨z2, m2, e2⟩ := Le hf
  obtain ⟨a, b, e⟩ := List.append_of_mem hx
  rw [e, pX, iK, pX, iK, List.filter_append, List.filter_append] at hd
  have h1 := Pure.uY _ _ hd
  have h2 := Js _ _ h1 z1 z2 m1 (by rw [List.filter_append, List.filter_append]; simp [m2])
  rw [e1, e2] at h2
  exact absurd rfl h2
theorem G5 {kid c z : ai} {i : Nat} {is : List Int} (hi : i < c.f3.length) (h : wS kid is (kd c.f3 i) = some z) : wS kid ((i : Int) :: is) c = some ⟨c.f0, c.f1, c.f2, c.f3.set i z⟩ := by
 simp only [wS]
 rw [if_neg (by omega), IM, h, Int.toNat_natCast]
theorem YY (pre : List ai) (k : ai) (post : List ai) : kd (pre ++ k :: post) pre.length = k := by
 unfold kd
 simp [List.getD_eq_getElem?_getD]
theorem Ku (pre : List ai) (k z : ai) (post : List ai) : (pre ++ k :: post).set pre.length z = pre ++ z :: post := by simp
theorem WH (i : Int) (q : List Int) (h : q ≠ []) : (i :: q).take ((i :: q).length - 1) = i :: q.take (q.length - 1) := by
 cases q with
 | nil => exact absurd rfl h
 | cons x xs => simp
theorem abA (i : Int) (q : List Int) (h : q ≠ []) : rd (i :: q) (((i :: q).length - 1 : Nat) : Int) = rd q ((q.length - 1 : Nat) : Int) := by
 cases q with
 | nil => exact absurd rfl h
 | cons x xs => unfold rd; simp
theorem abf (id ax : Int) (L : List ai) : ∀ (N : Nat) (c : ai), sz c ≤ N → (fK c).all mP = true → dL ((fK c).filter fun x => decide (x.f0 = 1)) = true → ∀ p leaf, dQ id c = some p → jT c p = some leaf → CU ax L c p leaf = some (yw id ax L c) := by
 intro N
 induction N with
 | zero => intro c h; rw [bP] at h; omega
 | succ N ih =>
  intro c hc hok hd p leaf hf hl
  have hoc := o9 hok
  rw [qY] at hf
  split at hf
  ·rename_i h1
   injection hf with hf
   subst hf
   simp only [jT] at hl
   injection hl with hl
   subst hl
   unfold CU
   rw [if_pos (show ([] : List Int).length = 0 from rfl), Ag, if_pos h1.1, if_pos h1.2]
   rfl
  ·rename_i h1
   have h0 : c.f0 ≠ 1 := by
    intro e
    rcases xG hoc with ⟨_, h3⟩ | ⟨h3, _⟩
    ·rw [List.eq_nil_of_length_eq_zero h3, ou] at hf; cases hf
    ·omega
   obtain ⟨pre, k, post, q, e, hpre, hk, rfl⟩ := CG hf
   rw [Nat.zero_add] at hl ⊢
   have O3 : k ∈ c.f3 := by rw [e]; simp
   have hdl : dL ((allL (pre ++ k :: post)).filter fun x => decide (x.f0 = 1)) = true := by
    rw [← e]
    rw [lC, List.filter_cons, if_neg (by simpa using h0)] at hd
    exact hd
   have hpost := OA hdl hk
   have hin : qM id ax L (iH ax c.f0) c.f3 = pre ++ ((if k.f0 = 1 ∧ k.f2 = id ∧ iH ax c.f0 = true then L else [yw id ax L k]) ++ post) := by
    rw [e, FH, rf, CS id ax L _ pre hpre, CS id ax L _ post hpost]
   have hil : pre.length < c.f3.length := by rw [e]; simp
   have hkd : kd c.f3 pre.length = k := by rw [e]; exact YY pre k post
   have hak : jT k q = some leaf := by
    simp only [jT] at hl
    rw [if_neg (by omega), IM, hkd] at hl
    exact hl
   rw [Ag, if_neg h0, hin]
   by_cases hq : q = []
   ·subst hq
    simp only [jT] at hak
    injection hak with hak
    subst hak
    have ML : k.f0 = 1 ∧ k.f2 = id := by
     rw [qY] at hk
     split at hk
     ·assumption
     ·obtain ⟨_, _, _, _, _, _, _, h⟩ := CG hk
      cases h
    unfold CU
    rw [if_neg (by simp)]
    have e1 : ([(pre.length : Int)] : List Int).take ([(pre.length : Int)].length - 1) = [] := rfl
    have e2 : rd [(pre.length : Int)] (([(pre.length : Int)].length - 1 : Nat) : Int) = (pre.length : Int) := rfl
    rw [e1, e2]
    simp only [jT]
    by_cases ha : iH ax c.f0 = true
    ·rw [if_pos ha, if_pos ⟨ML.1, ML.2, ha⟩]
     simp only [wS]
     unfold xY
     rw [Int.toNat_natCast, e]
     simp
    ·rw [if_neg ha, if_neg (fun h => ha h.2.2)]
     have hp : wS (CZ ax k L) [] (kd c.f3 pre.length) = some (CZ ax k L) := rfl
     rw [G5 hil hp, e, Ku, Ag, if_pos ML.1, if_pos ML.2]
     rfl
   ·have hnl : ¬ (k.f0 = 1 ∧ k.f2 = id) := by
     intro h
     rw [qY, if_pos h] at hk
     injection hk with hk
     exact hq hk.symm
    have hks : sz k ≤ N := by have := yF O3; have := bP c; omega
    have hdk : dL ((fK k).filter fun x => decide (x.f0 = 1)) = true := by
     rw [pX, iK, List.filter_append, List.filter_append] at hdl
     exact Pure.yX _ _ (Pure.uY _ _ hdl)
    have hj := ih k hks (FM hok O3) hdk q leaf hk hak
    rw [if_neg (fun h => hnl ⟨h.1, h.2.1⟩)]
    unfold CU at hj ⊢
    rw [if_neg (by simpa using hq)] at hj
    rw [if_neg (by simp), WH _ _ hq, abA _ _ hq]
    have hat : jT c ((pre.length : Int) :: q.take (q.length - 1)) = jT k (q.take (q.length - 1)) := by
     simp only [jT]
     rw [if_neg (by omega), IM, hkd]
    rw [hat]
    cases hp : jT k (q.take (q.length - 1)) with
    | none => rw [hp] at hj; cases hj
    | some par =>
     rw [hp] at hj
     simp only [] at hj ⊢
     split at hj
     ·rename_i ha
      rw [if_pos ha, G5 hil (by rw [hkd]; exact hj), e, Ku]
      rfl
     ·rename_i ha
      rw [if_neg ha, G5 hil (by rw [hkd]; exact hj), e, Ku]
      rfl
theorem YJ {W : World} {base g n cap : Nat} {ok : Nat → Prop} {xs : List ai} (HN : Kd.N k26 26 W base ok (.slice (some ⟨g, 0, none⟩) n cap) xs) : ∃ cur : Array Value, W.heap[g]? = some (.cells cur 26 (0, 0)) ∧ n ≤ cap ∧ cap ≤ maxLen ∧ cur.size = cap * 7 := by
 obtain ⟨h0, rows, hl, ⟨_, inner, ho, hr⟩, hf⟩ := HN
 rcases ho.2 with ⟨hv, _⟩ | ⟨g', cap', cur, hv, hb, hh, h1, h2, h3, h4⟩
 ·cases hv
 ·injection hv with hv1 hv2 hv3
  injection hv1 with hv1
  injection hv1 with hv1
  subst hv1 hv2 hv3
  exact ⟨cur, hh, h1, h2, h3⟩
theorem Yg {l L : List ai} {i : Nat} (hi : i < l.length) : (xY l i L).length = i + L.length + (l.length - (i + 1)) := by
 unfold xY
 rw [List.length_append, List.length_append, List.length_take, List.length_drop]
 omega
theorem abD {w W : World} {P : Nat → Prop} {bs : List (Option Nat × Obj)} {ts : List (Value × List ai)} {ro : List (Addr × Value)} {gr ga cap i c : Nat} {ca : Array Value} {l L : List ai} (hi : i < l.length) (hl : l.length ≤ 900000) (hL : L.length = 2) (hga : w.heap[ga]? = some (.cells ca 26 (0, 0))) (hca : ca.size ≠ 0)
  (S0 : St w P bs [(.slice (some ⟨gr, 0, none⟩) l.length cap, l)] ts ro W) (hm0 : (.slice (some ⟨ga, 0, none⟩) L.length c, L) ∈ ts) :
  Calls Try.prog 189 #[.slice (some ⟨gr, 0, none⟩) l.length cap, .int .i64 (i : Int), .int .i64 ((i : Int) + 1), .slice (some ⟨ga, 0, none⟩) L.length c] W fun e w' => ∃ A c', e = .returned (.slice A (xY l i L).length c') ∧ St w P bs [(.slice A (xY l i L).length c', xY l i L)] ts ro w' := by
 obtain ⟨cr, _, hcap, hmx, _⟩ := YJ S0.AZ
 have hmx : cap ≤ 9223372036854775807 := hmx
 have hgr := (S0.new gr (fF.2 (.inr rfl))).1
 have hgl : ga < w.heap.size := (Array.getElem?_eq_some_iff.1 hga).1
 have hgW : W.heap[ga]? = some (.cells ca 26 (0, 0)) := aN hga S0.below
 rw [Yg hi, hL]
 rw [hL] at hm0
 by_cases he : i + 1 = l.length
 ·have h := Yf he (by omega) hcap hL S0 hm0
  rw [show i + 2 + (l.length - (i + 1)) = l.length + 1 by omega]
  exact h
 ·obtain ⟨q, hq⟩ : ∃ q, l.length = i + 1 + q := ⟨l.length - (i + 1), by omega⟩
  rw [hq] at S0 hcap ⊢
  rw [show i + 2 + (i + 1 + q - (i + 1)) = i + 2 + q by omega]
  by_cases hr : i + 2 + q ≤ cap
  ·exact Wn (by omega) (by omega) hr hmx hL S0 hm0 hgW (by omega) hca
  ·exact Wl (by omega) (by omega) hcap (by omega) hL S0 hm0
end Go.Proofs.Ytfdmfgaiblfbhaa.P
namespace Go.Proofs.Ytfdmfgaiblfbhaa.P
open Go.RowKit Go.Proofs.ag.aA Go.Proofs.ag.bg Go.Proofs.ag.bG
attribute [local go_sem] jD jQ kM kV jo jq kC kD
def iM.j0 : Nat → Int → Int → Bool → Option (Int × Int × Bool)
 | 0, _, _, _ => none
 | k + 1, x0, x1, BV => if BV = true then (some (0, 0, false)) else (if x1 = 0 then (some (wrap64 ((wrap64 (x0 - 1)) - (wrap64 ((wrap64 ((wrap64 (Int.tdiv x0 2)) + (Int.tmod x0 2))) - 1))), wrap64 ((wrap64 ((wrap64 (Int.tdiv x0 2)) + (Int.tmod x0 2))) - 1), true)) else (some (wrap64 ((wrap64 (x0 - 1)) - (mx 1 (mn x1 (wrap64 (x0 - 2))))), mx 1 (mn x1 (wrap64 (x0 - 2))), true)))
def iM.f (k : Nat) (a0 : Int) (a1 : Int) : Option (Int × Int × Bool) := if a0 < 3 then (iM.j0 k a0 a1 true) else (iM.j0 k a0 a1 (decide (a1 < 0)))
theorem iM.calls (k : Nat) (a0 : Int) (a1 : Int) (r1 : Int) (r2 : Int) (r3 : Bool) (w : World) (h : iM.f k a0 a1 = some (r1, r2, r3)) :
  Calls Try.prog 104 #[.int .i64 a0, .int .i64 a1] w fun e w' => e = .returned (.tuple #[.int .i64 r1, .int .i64 r2, .bool r3]) ∧ Below w.heap.size w w' := by
 have HB := ae.mk (Below.refl w.heap.size w)
 have H : (if a0 < 3 then (iM.j0 k a0 a1 true) else (iM.j0 k a0 a1 (decide (a1 < 0)))) = some (r1, r2, r3) := h
 clear h
 have DD := ae.mk H
 clear H
 go_enter Try.func104, Try.ntmps104
 go_upto_region 1 with (fail)
 go_cut [13] (fun v13 wc => ∃ (kq : Nat) (zB : Bool), v13 = .bool zB ∧ ae (iM.j0 kq a0 a1 zB = some (r1, r2, r3)) ∧ ae (kq ≤ k) ∧ ae (Below w.heap.size w wc))
 case first =>
  have H := DD.out
  clear DD
  by_cases c4 : a0 < 3
  ·rw [if_pos c4] at H
   have oJ : decide (a0 < 3) = true := decide_eq_true c4
   clear c4
   (first | rw [oJ] | (simp only [lW, lV]; rw [oJ]) | skip)
   have H' := ae.mk H
   clear H
   go_wp2
   go_meet
   case rel => exact ⟨_, (true), (by first | rfl | (simp; done) | (simp [*]; done)), H', ⟨by first | omega | exact Nat.le_refl _⟩, ⟨by repeat (first | (with_reducible first | exact HB.out | apply aX | apply aV | apply bQ) | exact HB.out)⟩⟩
  ·rw [if_neg c4] at H
   have oJ : decide (a0 < 3) = false := decide_eq_false c4
   clear c4
   (first | rw [oJ] | (simp only [lW, lV]; rw [oJ]) | skip)
   have H' := ae.mk H
   clear H
   go_wp2
   go_meet
   case rel => exact ⟨_, (decide (a1 < 0)), (by first | rfl | (simp; done) | (simp [*]; done)), H', ⟨by first | omega | exact Nat.le_refl _⟩, ⟨by repeat (first | (with_reducible first | exact HB.out | apply aX | apply aV | apply bQ) | exact HB.out)⟩⟩
 case rest =>
  clear DD
  try clear c1
  try clear p2
  try clear c4
  try clear oJ
  obtain ⟨kq, zB, rfl, HA, HJ2, HB⟩ := hcut
  cases kq with
  | zero => exact absurd HA.out (by simp [iM.j0])
  | succ VQ =>
   have H := HA.out
   clear HA
   simp only [iM.j0] at H
   by_cases c5 : zB = true
   ·subst c5
    have H1 : (some (0, 0, false)) = some (r1, r2, r3) := by rw [if_pos rfl] at H; exact H
    clear H
    have H := H1
    clear H1
    simp only [Option.some.injEq, Prod.mk.injEq] at H
    obtain ⟨rfl, rfl, rfl⟩ := H
    go_wp2
    go_ret3
    exact ⟨by first | rfl | (simp [mJ, mM] <;> rfl) | (simp [*, mJ, mM] <;> rfl), by repeat (first | (with_reducible first | exact HB.out | apply aX | apply aV | apply bQ) | exact HB.out)⟩
   ·replace c5 := Bool.eq_false_iff.mpr c5
    subst c5
    have H1 : (if a1 = 0 then (some (wrap64 ((wrap64 (a0 - 1)) - (wrap64 ((wrap64 ((wrap64 (Int.tdiv a0 2)) + (Int.tmod a0 2))) - 1))), wrap64 ((wrap64 ((wrap64 (Int.tdiv a0 2)) + (Int.tmod a0 2))) - 1), true)) else (some (wrap64 ((wrap64 (a0 - 1)) - (mx 1 (mn a1 (wrap64 (a0 - 2))))), mx 1 (mn a1 (wrap64 (a0 - 2))), true))) = some (r1, r2, r3) := by rw [if_neg (show ¬ (false = true) by decide)] at H; exact H
    clear H
    have H := H1
    clear H1
    obtain ⟨Q7, OZ⟩ : ∃ j_ : Int, (mn a1 (wrap64 (a0 - 2))) = j_ := ⟨_, rfl⟩
    replace H : (if a1 = 0 then (some (wrap64 ((wrap64 (a0 - 1)) - (wrap64 ((wrap64 ((wrap64 (Int.tdiv a0 2)) + (Int.tmod a0 2))) - 1))), wrap64 ((wrap64 ((wrap64 (Int.tdiv a0 2)) + (Int.tmod a0 2))) - 1), true)) else (some (wrap64 ((wrap64 (a0 - 1)) - (mx 1 (Q7))), mx 1 (Q7), true))) = some (r1, r2, r3) := by first | (rw [OZ] at H; exact H) | (simp only [OZ] at H ⊢; exact H)
    have ala : (if (wrap64 (a0 - 2)) < a1 then (wrap64 (a0 - 2)) else a1) = Q7 := OZ
    obtain ⟨ji7, O0⟩ : ∃ j_ : Int, (mx 1 (Q7)) = j_ := ⟨_, rfl⟩
    replace H : (if a1 = 0 then (some (wrap64 ((wrap64 (a0 - 1)) - (wrap64 ((wrap64 ((wrap64 (Int.tdiv a0 2)) + (Int.tmod a0 2))) - 1))), wrap64 ((wrap64 ((wrap64 (Int.tdiv a0 2)) + (Int.tmod a0 2))) - 1), true)) else (some (wrap64 ((wrap64 (a0 - 1)) - (ji7)), ji7, true))) = some (r1, r2, r3) := by first | (rw [O0] at H; exact H) | (simp only [O0] at H ⊢; exact H)
    have alb : (if 1 < (Q7) then (Q7) else 1) = ji7 := O0
    by_cases c8 : a1 = 0
    ·rw [if_pos c8] at H
     have Bh : (a1 == 0) = true := beq_iff_eq.mpr c8
     have Sl : (a1 != 0) = false := bne_eq_false_iff_eq.mpr c8
     clear c8
     simp only [Option.some.injEq, Prod.mk.injEq] at H
     obtain ⟨rfl, rfl, rfl⟩ := H
     go_wp2
     go_ret3
     exact ⟨by first | rfl | (simp [mJ, mM] <;> rfl) | (simp only [← OZ, ← O0]; first | rfl | (simp [mJ, mM] <;> rfl)) | (simp [*, mJ, mM] <;> rfl), by repeat (first | (with_reducible first | exact HB.out | apply aX | apply aV | apply bQ) | exact HB.out)⟩
    ·rw [if_neg c8] at H
     have Bh : (a1 == 0) = false := beq_eq_false_iff_ne.mpr c8
     have Sl : (a1 != 0) = true := bne_iff_ne.mpr c8
     simp only [Option.some.injEq, Prod.mk.injEq] at H
     obtain ⟨rfl, rfl, rfl⟩ := H
     go_wp2
     go_ret3
     exact ⟨by first | rfl | (simp [mJ, mM] <;> rfl) | (simp only [← OZ, ← O0]; first | rfl | (simp [mJ, mM] <;> rfl)) | (simp [*, mJ, mM] <;> rfl), by repeat (first | (with_reducible first | exact HB.out | apply aX | apply aV | apply bQ) | exact HB.out)⟩
mutual
def bD.j0 : Nat → Int → Int → Bool → Option (Int × Int × Bool)
 | 0, _, _, _ => none
 | k + 1, x0, x1, BV => if BV = true then (some (0, 0, false)) else (if x1 = 0 then (if (Int.tmod x0 2) = 1 then (bD.j1 k x0 (wrap64 (Int.tdiv x0 2))) else (bD.j1 k x0 (wrap64 ((wrap64 (Int.tdiv x0 2)) - 1)))) else (bD.j1 k x0 x1))
def bD.j1 : Nat → Int → Int → Option (Int × Int × Bool)
 | 0, _, _ => none
 | k + 1, x0, x7 => if x7 < 1 then (if 1 > (wrap64 (x0 - 2)) then (some (wrap64 ((wrap64 (x0 - 1)) - (wrap64 (x0 - 2))), wrap64 (x0 - 2), true)) else (some (wrap64 ((wrap64 (x0 - 1)) - 1), 1, true))) else (if x7 > (wrap64 (x0 - 2)) then (some (wrap64 ((wrap64 (x0 - 1)) - (wrap64 (x0 - 2))), wrap64 (x0 - 2), true)) else (some (wrap64 ((wrap64 (x0 - 1)) - x7), x7, true)))
end
def bD.f (k : Nat) (a0 : Int) (a1 : Int) : Option (Int × Int × Bool) := if a0 < 3 then (bD.j0 k a0 a1 true) else (bD.j0 k a0 a1 (decide (a1 < 0)))
theorem bD.calls (k : Nat) (a0 : Int) (a1 : Int) (r1 : Int) (r2 : Int) (r3 : Bool) (w : World) (h : bD.f k a0 a1 = some (r1, r2, r3)) :
  Calls Try.prog 105 #[.int .i64 a0, .int .i64 a1] w fun e w' => e = .returned (.tuple #[.int .i64 r1, .int .i64 r2, .bool r3]) ∧ eG w w' := by
 have H : (if a0 < 3 then (bD.j0 k a0 a1 true) else (bD.j0 k a0 a1 (decide (a1 < 0)))) = some (r1, r2, r3) := h
 clear h
 have DD := ae.mk H
 clear H
 go_enter Try.func105, Try.ntmps105
 go_upto_region 1 with (fail)
 go_cut [13] (fun v13 wc => ∃ (kq : Nat) (zB : Bool), v13 = .bool zB ∧ ae (bD.j0 kq a0 a1 zB = some (r1, r2, r3)) ∧ ae (kq ≤ k) ∧ eG w wc)
 case first =>
  have H := DD.out
  clear DD
  by_cases c4 : a0 < 3
  ·rw [if_pos c4] at H
   have oJ : decide (a0 < 3) = true := decide_eq_true c4
   clear c4
   (first | rw [oJ] | (simp only [lW, lV]; rw [oJ]) | skip)
   have H' := ae.mk H
   clear H
   go_wp2
   go_meet
   case rel => exact ⟨_, (true), (by first | rfl | (simp; done) | (simp [*]; done)), H', ⟨by first | omega | exact Nat.le_refl _⟩, by repeat (first | exact eG.refl _ | apply eG.step)⟩
  ·rw [if_neg c4] at H
   have oJ : decide (a0 < 3) = false := decide_eq_false c4
   clear c4
   (first | rw [oJ] | (simp only [lW, lV]; rw [oJ]) | skip)
   have H' := ae.mk H
   clear H
   go_wp2
   go_meet
   case rel => exact ⟨_, (decide (a1 < 0)), (by first | rfl | (simp; done) | (simp [*]; done)), H', ⟨by first | omega | exact Nat.le_refl _⟩, by repeat (first | exact eG.refl _ | apply eG.step)⟩
 case rest =>
  clear DD
  try clear c1
  try clear p2
  try clear c4
  try clear oJ
  obtain ⟨kq, zB, rfl, HA, HJ2, ⟨mc2, rfl⟩⟩ := hcut
  cases kq with
  | zero => exact absurd HA.out (by simp [bD.j0])
  | succ VQ =>
   have H := HA.out
   clear HA
   simp only [bD.j0] at H
   by_cases c5 : zB = true
   ·subst c5
    have H1 : (some (0, 0, false)) = some (r1, r2, r3) := by rw [if_pos rfl] at H; exact H
    clear H
    have H := H1
    clear H1
    simp only [Option.some.injEq, Prod.mk.injEq] at H
    obtain ⟨rfl, rfl, rfl⟩ := H
    go_wp2
    go_ret3
    exact ⟨by first | rfl | (simp; done) | (simp [*]; done), by repeat (first | exact eG.refl _ | apply eG.step)⟩
   ·replace c5 := Bool.eq_false_iff.mpr c5
    subst c5
    have H1 : (if a1 = 0 then (if (Int.tmod a0 2) = 1 then (bD.j1 VQ a0 (wrap64 (Int.tdiv a0 2))) else (bD.j1 VQ a0 (wrap64 ((wrap64 (Int.tdiv a0 2)) - 1)))) else (bD.j1 VQ a0 a1)) = some (r1, r2, r3) := by rw [if_neg (show ¬ (false = true) by decide)] at H; exact H
    clear H
    have H := H1
    clear H1
    have HC6 := ae.mk H
    clear H
    go_upto_if 16 with (fail)
    go_cut [7] (fun v7 wc => ∃ (kq : Nat) (Dt : Int), v7 = .int .i64 Dt ∧ ae (bD.j1 kq a0 Dt = some (r1, r2, r3)) ∧ ae (kq ≤ VQ) ∧ eG w wc)
    case first =>
     have H := HC6.out
     clear HC6
     by_cases c7 : a1 = 0
     ·rw [if_pos c7] at H
      have vC : (a1 == 0) = true := beq_iff_eq.mpr c7
      have Jo : (a1 != 0) = false := bne_eq_false_iff_eq.mpr c7
      clear c7
      (first | rw [vC] | (simp only [lW, lV]; rw [vC]) | skip)
      by_cases c8 : (Int.tmod a0 2) = 1
      ·rw [if_pos c8] at H
       have Bh : ((Int.tmod a0 2) == 1) = true := beq_iff_eq.mpr c8
       have Sl : ((Int.tmod a0 2) != 1) = false := bne_eq_false_iff_eq.mpr c8
       clear c8
       have H' := ae.mk H
       clear H
       go_wp2
       go_meet
       case rel => exact ⟨_, (wrap64 (Int.tdiv a0 2)), (by first | rfl | (simp; done) | (simp [*]; done)), H', ⟨by have := HJ2.out; first | omega | exact Nat.le_refl _⟩, by repeat (first | exact eG.refl _ | apply eG.step)⟩
      ·rw [if_neg c8] at H
       have Bh : ((Int.tmod a0 2) == 1) = false := beq_eq_false_iff_ne.mpr c8
       have Sl : ((Int.tmod a0 2) != 1) = true := bne_iff_ne.mpr c8
       have H' := ae.mk H
       clear H
       go_wp2
       go_meet
       case rel => exact ⟨_, (wrap64 ((wrap64 (Int.tdiv a0 2)) - 1)), (by first | rfl | (simp; done) | (simp [*]; done)), H', ⟨by have := HJ2.out; first | omega | exact Nat.le_refl _⟩, by repeat (first | exact eG.refl _ | apply eG.step)⟩
     ·rw [if_neg c7] at H
      have vC : (a1 == 0) = false := beq_eq_false_iff_ne.mpr c7
      have Jo : (a1 != 0) = true := bne_iff_ne.mpr c7
      (first | rw [vC] | (simp only [lW, lV]; rw [vC]) | skip)
      have H' := ae.mk H
      clear H
      go_wp2
      go_meet
      case rel => exact ⟨_, (a1), (by first | rfl | (simp; done) | (simp [*]; done)), H', ⟨by have := HJ2.out; first | omega | exact Nat.le_refl _⟩, by repeat (first | exact eG.refl _ | apply eG.step)⟩
    case rest =>
     clear HC6
     try clear c1
     try clear c2
     try clear p2
     try clear c4
     try clear oJ
     try clear c5
     try clear p6
     try clear c7
     try clear vC
     try clear Jo
     try clear c8
     try clear Bh
     try clear Sl
     try clear p2
     obtain ⟨kq, Dt, rfl, HA, HJ5, ⟨mc5, rfl⟩⟩ := hcut
     cases kq with
     | zero => exact absurd HA.out (by simp [bD.j1])
     | succ kj5 =>
      have H := HA.out
      clear HA
      simp only [bD.j1] at H
      by_cases c9 : Dt < 1
      ·rw [if_pos c9] at H
       have Jp : decide (Dt < 1) = true := decide_eq_true c9
       clear c9
       by_cases c10 : 1 > (wrap64 (a0 - 2))
       ·rw [if_pos c10] at H
        have YP : decide ((wrap64 (a0 - 2)) < 1) = true := decide_eq_true c10
        clear c10
        simp only [Option.some.injEq, Prod.mk.injEq] at H
        obtain ⟨rfl, rfl, rfl⟩ := H
        go_wp2
        go_ret3
        exact ⟨by first | rfl | (simp; done) | (simp [*]; done), by repeat (first | exact eG.refl _ | apply eG.step)⟩
       ·rw [if_neg c10] at H
        have YP : decide ((wrap64 (a0 - 2)) < 1) = false := decide_eq_false c10
        clear c10
        simp only [Option.some.injEq, Prod.mk.injEq] at H
        obtain ⟨rfl, rfl, rfl⟩ := H
        go_wp2
        go_ret3
        exact ⟨by first | rfl | (simp; done) | (simp [*]; done), by repeat (first | exact eG.refl _ | apply eG.step)⟩
      ·rw [if_neg c9] at H
       have Jp : decide (Dt < 1) = false := decide_eq_false c9
       clear c9
       by_cases c11 : Dt > (wrap64 (a0 - 2))
       ·rw [if_pos c11] at H
        have MJ : decide ((wrap64 (a0 - 2)) < Dt) = true := decide_eq_true c11
        clear c11
        simp only [Option.some.injEq, Prod.mk.injEq] at H
        obtain ⟨rfl, rfl, rfl⟩ := H
        go_wp2
        go_ret3
        exact ⟨by first | rfl | (simp; done) | (simp [*]; done), by repeat (first | exact eG.refl _ | apply eG.step)⟩
       ·rw [if_neg c11] at H
        have MJ : decide ((wrap64 (a0 - 2)) < Dt) = false := decide_eq_false c11
        clear c11
        simp only [Option.some.injEq, Prod.mk.injEq] at H
        obtain ⟨rfl, rfl, rfl⟩ := H
        go_wp2
        go_ret3
        exact ⟨by first | rfl | (simp; done) | (simp [*]; done), by repeat (first | exact eG.refl _ | apply eG.step)⟩
end Go.Proofs.Ytfdmfgaiblfbhaa.P
namespace Go.Proofs.Ytfdmfgaiblfbhaa.P
open Go.RowKit Go.Proofs.ag.aA Go.Proofs.ag.bg Go.Proofs.ag.bG
open Go.ChangeShapes Go.WideShapes Go.ChangeAt Go.Joins Go.Deep
def I64 (n : Int) : Prop := -9223372036854775808 ≤ n ∧ n ≤ 9223372036854775807
def U8 (n : Int) : Prop := 0 ≤ n ∧ n ≤ 255
def afx (r : dK) : Prop := I64 r.f0 ∧ I64 r.f1 ∧ I64 r.f2 ∧ I64 r.f3
def FV : Nat → ai → Prop
 | 0, _ => False
 | n + 1, c => U8 c.f0 ∧ afx c.f1 ∧ I64 c.f2 ∧ c.f3.length ≤ 9223372036854775807 ∧ ∀ k, k ∈ c.f3 → FV n k
def afy (c : ai) : Prop := ∃ n, FV n c
theorem PV : ∀ {n m : Nat} (_ : n ≤ m) {c : ai}, FV n c → FV m c
 | 0, _, _, _, h => h.elim
 | n + 1, 0, hm, _, _ => absurd hm (by omega)
 | n + 1, m + 1, hm, _, h => ⟨h.1, h.2.1, h.2.2.1, h.2.2.2.1, fun k hk => PV (by omega) (h.2.2.2.2 k hk)⟩
section
variable {H : Type} {enc : TypeId × Value → H} {P : Program} {w : World} {base : Nat} {spare : Nat → Bool} {held : Bool}
theorem row_of {α : Type} {Q : Nat → α → Prop} : ∀ (n : Nat), (∀ i, i < n → ∃ p, Q i p) → ∃ l : List α, l.length = n ∧ ∀ i p, l[i]? = some p → Q i p
 | 0, _ => ⟨[], rfl, fun i p h => by simp at h⟩
 | n + 1, h => by
  obtain ⟨l, hl, hq⟩ := row_of n fun i hi => h i (by omega)
  obtain ⟨p, hp⟩ := h n (by omega)
  refine ⟨l ++ [p], by simp [hl], fun i q hi => ?_⟩
  rcases Nat.lt_trichotomy i n with h1 | h1 | h1
  ·rw [List.getElem?_append_left (by omega)] at hi
   exact hq i q hi
  ·subst h1
   rw [List.getElem?_append_right (by omega), hl, Nat.sub_self] at hi
   obtain rfl : p = q := by simpa using hi
   exact hp
  ·rw [List.getElem?_eq_none (by simp; omega)] at hi
   cases hi
theorem cells_at {a : Addr} {n : Nat} {cs : List Value} (h : w.cells? base a n = some cs) : cs.length = n ∧ ∀ i u, cs[i]? = some u → w.cell? (a.add i) = some u := by
 obtain ⟨_, h1, h2⟩ := World.cells?_some h
 exact ⟨h1, fun i u hi => by
  have hlt : i < n := by rw [← h1]; exact (List.getElem?_eq_some_iff.1 hi).1
  rw [h2 i hlt, hi]⟩
end
section
variable {H : Type} {enc : TypeId × Value → H} {w : World} {base : Nat} {spare : Nat → Bool} {held : Bool}
theorem yu {n : Int} (h : (Lit.int .i64 n).wf = true) : I64 n := by
 have := bounds_i64 h
 unfold I64
 omega
theorem Za {n : Int} (h : (Lit.int .u8 n).wf = true) : U8 n := bounds_u8 h
theorem acV {a : Array Value} {l : List Value} (h : (Value.agg a).cells.toList = l) : a = l.toArray := by
 subst h
 simp [Value.cells]
theorem cells23 : Try.prog.cellsOf 23 = 4 := by kernel_rfl
theorem cells26 : Try.prog.cellsOf 26 = 7 := by kernel_rfl
theorem cells3 : Try.prog.cellsOf 3 = 1 := by kernel_rfl
theorem cells5 : Try.prog.cellsOf 5 = 1 := by kernel_rfl
theorem cells24 : Try.prog.cellsOf 24 = 1 := by kernel_rfl
theorem ae7 {fuel : Nat} {cs : List Value} {x : DataW H × List MemPlace} (h : DataW.trod enc Try.prog w base spare held fuel 23 cs = some x) : ∃ r : dK, k23.K w r cs ∧ afx r := by
 obtain ⟨y0, y1, y2, y3, n, _, hl, h0, h1, h2, h3⟩ := trod_struct4 Try.underlying23 h
 rw [cells23] at hl
 match cs, hl with
 | [c0, c1, c2, c3], _ =>
  simp only [cells3, List.drop_zero, List.take_succ_cons, List.take_zero, List.drop_succ_cons] at h0 h1 h2 h3
  obtain ⟨n0, e0, _, w0⟩ := DataW.trod_int Try.underlying3 h0
  obtain ⟨n1, e1, _, w1⟩ := DataW.trod_int Try.underlying3 h1
  obtain ⟨n2, e2, _, w2⟩ := DataW.trod_int Try.underlying3 h2
  obtain ⟨n3, e3, _, w3⟩ := DataW.trod_int Try.underlying3 h3
  simp only [List.cons.injEq, and_true] at e0 e1 e2 e3
  subst e0 e1 e2 e3
  exact ⟨⟨n0, n1, n2, n3⟩, O7 w ⟨n0, n1, n2, n3⟩, yu w0, yu w1, yu w2, yu w3⟩
end
end Go.Proofs.Ytfdmfgaiblfbhaa.P
namespace Go.Proofs.Ytfdmfgaiblfbhaa.P
open Go.RowKit Go.Proofs.ag.aA Go.Proofs.ag.bg Go.Proofs.ag.bG
def uz (s size : Int) : Int := if size = 0 then s / 2 + s % 2 - 1 else max 1 (min size (s - 2))
def tV (s size : Int) : Int × Int × Bool := if s < 3 ∨ size < 0 then (0, 0, false) else (s - 1 - uz s size, uz s size, true)
theorem abt {s size : Int} (h3 : 3 ≤ s) (_ : 0 ≤ size) : 1 ≤ uz s size ∧ uz s size ≤ s - 2 := by
 unfold uz
 split <;> omega
theorem Y8 {s : Int} (h : 0 ≤ s) : Int.tdiv s 2 = s / 2 := Int.tdiv_eq_ediv_of_nonneg h
theorem Y_ {s : Int} (h : 0 ≤ s) : Int.tmod s 2 = s % 2 := Int.tmod_eq_emod_of_nonneg h
theorem agA (a b : Int) : mx a b = max a b := by unfold mx; split <;> omega
theorem agy (a b : Int) : mn a b = min a b := by unfold mn; split <;> omega
theorem TM (s size : Int) (hs : I64 s) (hz : I64 size) : Ev (fun k => iM.f k s size) (tV s size) := by
 unfold I64 at hs hz
 have no : Ev (fun k => iM.j0 k s size true) (0, 0, false) := by
  refine Ev.step (f := fun _ => some (0, 0, false)) (fun k => ?_) (Ev.now _)
  simp only [iM.j0]
  rw [if_pos trivial]
 unfold tV iM.f
 by_cases h3 : s < 3
 ·rw [if_pos (.inl h3)]
  exact DZ h3 no
 ·refine U2 h3 ?_
  by_cases h0 : size < 0
  ·rw [if_pos (.inr h0), decide_eq_true h0]
   exact no
  ·rw [if_neg (fun h => h.elim h3 h0), decide_eq_false h0]
   have hb := abt (s := s) (size := size) (by omega) (by omega)
   refine Ev.step (f := fun _ => some (s - 1 - uz s size, uz s size, true)) (fun k => ?_) (Ev.now _)
   simp only [iM.j0]
   rw [if_neg (by simp)]
   unfold uz at hb ⊢
   by_cases hz0 : size = 0
   ·rw [if_pos hz0] at hb
    rw [if_pos hz0, if_pos hz0, Y8 (by omega), Y_ (by omega), wq (x := s / 2) (by omega) (by omega), wq (x := s / 2 + s % 2) (by omega) (by omega), wq (x := s / 2 + s % 2 - 1) (by omega) (by omega), wq (x := s - 1) (by omega) (by omega), wq (by omega) (by omega)]
   ·rw [if_neg hz0] at hb
    rw [if_neg hz0, if_neg hz0, agA, agy, wq (x := s - 2) (by omega) (by omega), wq (x := s - 1) (by omega) (by omega), wq (by omega) (by omega)]
theorem P9 (s size : Int) (hs : I64 s) (_ : I64 size) : Ev (fun k => bD.f k s size) (tV s size) := by
 unfold I64 at hs
 have no : Ev (fun k => bD.j0 k s size true) (0, 0, false) := by
  refine Ev.step (f := fun _ => some (0, 0, false)) (fun k => ?_) (Ev.now _)
  simp only [bD.j0]
  rw [if_pos trivial]
 unfold tV bD.f
 by_cases h3 : s < 3
 ·rw [if_pos (.inl h3)]
  exact DZ h3 no
 ·refine U2 h3 ?_
  by_cases h0 : size < 0
  ·rw [if_pos (.inr h0), decide_eq_true h0]
   exact no
  ·rw [if_neg (fun h => h.elim h3 h0), decide_eq_false h0]
   have j1 : ∀ n : Int, max 1 (min n (s - 2)) = uz s size → Ev (fun k => bD.j1 k s n) (s - 1 - uz s size, uz s size, true) := by
    intro n hn
    refine Ev.step (f := fun _ => some (s - 1 - uz s size, uz s size, true)) (fun k => ?_) (Ev.now _)
    have hw : wrap64 (s - 2) = s - 2 := wq (by omega) (by omega)
    have hw1 : wrap64 (s - 1) = s - 1 := wq (by omega) (by omega)
    simp only [bD.j1]
    rw [hw, hw1, ← hn]
    by_cases n1 : n < 1
    ·rw [if_pos n1, if_neg (by omega), wq (by omega) (by omega), show max 1 (min n (s - 2)) = 1 from by omega]
    ·rw [if_neg n1]
     by_cases n2 : n > s - 2
     ·rw [if_pos n2, wq (by omega) (by omega), show max 1 (min n (s - 2)) = s - 2 from by omega]
     ·rw [if_neg n2, wq (by omega) (by omega), show max 1 (min n (s - 2)) = n from by omega]
   by_cases hz0 : size = 0
   ·have ht := Y8 (s := s) (by omega)
    have hm := Y_ (s := s) (by omega)
    by_cases hodd : s % 2 = 1
    ·refine Ev.step (fun k => ?_) (j1 (s / 2) (by unfold uz; rw [if_pos hz0]; omega))
     simp only [bD.j0]
     rw [if_neg (by simp), if_pos hz0, ht, hm, if_pos hodd, wq (by omega) (by omega)]
    ·refine Ev.step (fun k => ?_) (j1 (s / 2 - 1) (by unfold uz; rw [if_pos hz0]; omega))
     simp only [bD.j0]
     rw [if_neg (by simp), if_pos hz0, ht, hm, if_neg hodd, wq (x := s / 2) (by omega) (by omega), wq (by omega) (by omega)]
   ·refine Ev.step (fun k => ?_) (j1 size (by unfold uz; rw [if_neg hz0]))
    simp only [bD.j0]
    rw [if_neg (by simp), if_neg hz0]
def AA (r : dK) (ax n id : Int) : ai := ⟨1, ⟨r.f0, r.f1, if ax = 1 then n else r.f2, if ax = 1 then r.f3 else n⟩, id, []⟩
def w_ (ax size fresh : Int) (ahead : Bool) (leaf : ai) : List ai :=
 if ahead = true then [AA leaf.f1 ax (tV (aK ax leaf.f1) size).2.1 fresh, AA leaf.f1 ax (tV (aK ax leaf.f1) size).1 leaf.f2]
 else [AA leaf.f1 ax (tV (aK ax leaf.f1) size).1 leaf.f2, AA leaf.f1 ax (tV (aK ax leaf.f1) size).2.1 fresh]
theorem Rq (ax size fresh : Int) (ahead : Bool) (leaf : ai) : (w_ ax size fresh ahead leaf).length = 2 := by unfold w_; split <;> rfl
theorem PL (r : dK) (ax n id : Int) : sz (AA r ax n id) = 1 := by rw [bP]; show 1 + dO [] = 1; rw [nK]
theorem PS (ax size fresh : Int) (ahead : Bool) (leaf : ai) : dO (w_ ax size fresh ahead leaf) = 2 := by
 unfold w_
 split <;> rw [bJ, bJ, nK, PL, PL]
def iq (id ax size fresh : Int) (c : ai) : Int :=
 if dF c = false ∨ ¬ (ax = 1 ∨ ax = 2) ∨ size < 0 ∨ fresh < 0 ∨ fresh > 2147483647 ∨ (dQ fresh c).isSome = true then 1 else match dQ id c with
 | none => 6
 | some p => match jT c p with
  | none => 6
  | some leaf => if aK ax leaf.f1 < 3 then 7 else 0
def Dl (id ax size fresh : Int) (ahead : Bool) (c : ai) : ai := if iq id ax size fresh c = 0 then fH (yw id ax (w_ ax size fresh ahead ((jT c ((dQ id c).getD [])).getD z26)) c) c.f1.f0 c.f1.f1 else z26
structure Splits (id ax size fresh : Int) (c : ai) (p : List Int) (leaf : ai) : Prop where
 wZ : dF c = true
 hax : ax = 1 ∨ ax = 2
 s0 : 0 ≤ size
 f0 : 0 ≤ fresh ∧ fresh ≤ 2147483647
 new : dQ fresh c = none
 find : dQ id c = some p
 at' : jT c p = some leaf
 big : 3 ≤ aK ax leaf.f1
theorem splits {id ax size fresh : Int} {c : ai} (h : iq id ax size fresh c = 0) : ∃ p leaf, Splits id ax size fresh c p leaf := by
 unfold iq at h
 split at h
 ·cases h
 ·rename_i h1
  simp only [not_or, Bool.not_eq_false, Bool.not_eq_true, Option.isSome_eq_false_iff, Option.isNone_iff_eq_none, Int.not_lt] at h1
  obtain ⟨a, b, s0, f0, f1, g⟩ := h1
  cases hf : dQ id c with
  | none => rw [hf] at h; cases h
  | some p =>
   rw [hf] at h
   simp only [] at h
   cases hx : jT c p with
   | none => rw [hx] at h; cases h
   | some leaf =>
    rw [hx] at h
    simp only [] at h
    split at h
    ·cases h
    ·rename_i h3
     exact ⟨p, leaf, a, by omega, s0, ⟨f0, by omega⟩, g, hf, hx, by omega⟩
theorem jR {id ax size fresh n : Int} {ahead : Bool} {c : ai} (h : iq id ax size fresh c = n) (h0 : n ≠ 0) : Dl id ax size fresh ahead c = z26 := by
 unfold Dl
 rw [if_neg (by rw [h]; exact h0)]
theorem Splits.z {id ax size fresh : Int} {ahead : Bool} {c : ai} {p : List Int} {leaf : ai} (h : Splits id ax size fresh c p leaf) (h0 : iq id ax size fresh c = 0) : Dl id ax size fresh ahead c = fH (yw id ax (w_ ax size fresh ahead leaf) c) c.f1.f0 c.f1.f1 := by
 unfold Dl
 rw [if_pos h0, h.find]
 simp only [Option.getD_some, h.at']
theorem Tc (id ax : Int) (L : List ai) : ∀ (N : Nat), (∀ c : ai, sz c ≤ N → ∀ p, dQ id c = some p → (fK c).all mP = true → dL ((fK c).filter fun x => decide (x.f0 = 1)) = true → sz (yw id ax L c) ≤ sz c + dO L) := by
 intro N
 induction N with
 | zero => intro c h; rw [bP] at h; omega
 | succ N ih =>
  intro c hc p hf hok hd
  have hoc := o9 hok
  have hcs := bP c
  rw [qY] at hf
  split at hf
  ·rename_i h1
   rw [Ag, if_pos h1.1, if_pos h1.2, bP]
   show 1 + dO L ≤ _
   omega
  ·have h0 : c.f0 ≠ 1 := by
    intro e
    rcases xG hoc with ⟨_, h3⟩ | ⟨h3, _⟩
    ·rw [List.eq_nil_of_length_eq_zero h3, ou] at hf; cases hf
    ·omega
   obtain ⟨pre, k, post, q, e, hpre, hk, rfl⟩ := CG hf
   have O3 : k ∈ c.f3 := by rw [e]; simp
   have hdl : dL ((allL (pre ++ k :: post)).filter fun x => decide (x.f0 = 1)) = true := by
    rw [← e]
    rw [lC, List.filter_cons, if_neg (by simpa using h0)] at hd
    exact hd
   have hpost := OA hdl hk
   rw [Ag, if_neg h0, bP]
   show 1 + dO (qM id ax L (iH ax c.f0) c.f3) ≤ _
   rw [e, FH, rf, CS id ax L _ pre hpre, CS id ax L _ post hpost, jX, jX]
   rw [e, jX, bJ] at hcs
   split
   ·omega
   ·have hks : sz k ≤ N := by have := yF O3; have := bP c; omega
    have hdk : dL ((fK k).filter fun x => decide (x.f0 = 1)) = true := by
     rw [pX, iK, List.filter_append, List.filter_append] at hdl
     exact Pure.yX _ _ (Pure.uY _ _ hdl)
    have := ih k hks q hk (FM hok O3) hdk
    rw [bJ, nK]
    omega
theorem zA {c : ai} (h : dF c = true) : (fK c).all mP = true ∧ dL ((fK c).filter fun x => decide (x.f0 = 1)) = true := by
 have hm := nD h
 have h1 := uN hm
 unfold lH at hm
 simp only [Bool.and_eq_true] at hm
 exact ⟨h1, hm.2.2⟩
theorem agG (k : ai) (x : Int) : vG 2 k x = wrap64 (wrap64 (x + k.f1.f2) + 1) := by
 unfold vG
 rw [if_pos rfl]
 unfold wrap64
 omega
theorem agH (k : ai) (y : Int) : vH 3 k y = wrap64 (wrap64 (y + k.f1.f3) + 1) := by
 unfold vH
 rw [if_neg (by decide), if_pos rfl]
 unfold wrap64
 omega
theorem ae_ : ∀ (N : Nat) (c : ai), sz c ≤ N → N ≤ 1000000 → ∀ (P : Nat → Prop) (A : Option Addr) (cc : Nat) (x y : Int) (w : World), Kd.V k26 26 w w.heap.size P (.slice A c.f3.length cc) c.f3 →
  Calls Try.prog 67 #[.agg #[.int .u8 c.f0, .int .i64 c.f1.f0, .int .i64 c.f1.f1, .int .i64 c.f1.f2, .int .i64 c.f1.f3, .int .i64 c.f2, .slice A c.f3.length cc], .int .i64 x, .int .i64 y] w (MI w P (fH c x y)) := by
 intro N
 induction N with
 | zero => intro c h; rw [bP] at h; omega
 | succ N ih =>
  intro c hc hN P A cc x y w hv
  have hsz := bP c
  have S := ae.mk (St.start (ts := [(.slice A c.f3.length cc, c.f3)]) (b0 := w.heap.size) (w := w) (P := P) (fun t ht => by rw [List.mem_singleton.1 ht]; exact hv))
  rw [m_]
  have hlen := jY c.f3
  have kF := ae.mk (show c.f3.length ≤ 1000000 by omega)
  have IH := ae.mk fun (k : ai) (hk : k ∈ c.f3) P A cc x y w h => ih k (by have := Rn hk; omega) (by omega) P A cc x y w h
  obtain ⟨ck, ⟨cx, cy, cw, ch⟩, aQ, l⟩ := c
  simp only [] at S IH kF ⊢
  clear ih hc hN hv hsz hlen
  go_enter Try.func67, Try.ntmps67
  go_wp2_with (first
   | (refine boxS 3 _ 26 S ?_; clear S; intro b3 eU S)
   | (refine boxS 6 _ 26 S ?_; clear S; intro b6 fV S)
   | (refine ru 3 11 9 #[.int .u8 ck, .int .i64 x, .int .i64 cy, .int .i64 cw, .int .i64 ch, .int .i64 aQ, .slice A l.length cc] 1 1 S ?_; clear S; intro gz S)
   | (refine ru 3 14 12 #[.int .u8 ck, .int .i64 x, .int .i64 y, .int .i64 cw, .int .i64 ch, .int .i64 aQ, .slice A l.length cc] 2 1 S ?_; clear S; intro lI S)
   | (refine fD 15 rfl ?_; refine VV (N := 15) rfl rfl S.out ?hr ?_; (case hr => first | (go_simp; done) | (go_simp; rfl)); intro MQ Oq mQ S1; replace S := ae.mk S1; clear S1; have gu := (S.out.at bf 6).trans rfl)
   | fail)
  clear gu
  go_loopg [7, 19, 1, 2] l.length (fun gg v7 v19 v1 v2 wr => ∃ (pre rest : List ai) (Ap : Option Addr) (cp : Nat), v7 = .slice Ap pre.length cp ∧ v19 = .int .i64 (pre.length : Int) ∧ v1 = .int .i64 (n_ ck pre x) ∧ v2 = .int .i64 (oh ck pre y) ∧ ae (pre ++ rest = l) ∧ rest.length ≤ gg ∧ ae (St w P [(some b6, .cells #[.int .u8 0, .int .i64 0, .int .i64 0, .int .i64 0, .int .i64 0, .int .i64 0, .slice none 0 0] 26 (0, 0)), (some b3, .cells #[.int .u8 ck, .int .i64 x, .int .i64 y, .int .i64 cw, .int .i64 ch, .int .i64 aQ, .slice A l.length cc] 26 (0, 0))] [(.slice Ap pre.length cp, (jW ck pre x y))] [(.slice A l.length cc, l)] [] wr))
  case atStart => exact ⟨[], l, _, _, rfl, rfl, rfl, rfl, ⟨rfl⟩, Nat.le_refl _, ⟨by rw [l_]; exact S.out⟩⟩
  case round =>
   clear S
   obtain ⟨pre, rest, Ap, cp, rfl, rfl, rfl, rfl, HE, hgg, S⟩ := hrel
   cases rest with
   | nil =>
    have hE := HE.out
    rw [List.append_nil] at hE
    have hE2 := hE.symm
    subst hE2
    clear hE HE hgg
    have hlt : ¬ ((l.length : Int) < (l.length : Int)) := by omega
    go_wp2_with (first
     | (refine ru 24 61 60 #[.int .u8 ck, .int .i64 x, .int .i64 y, .int .i64 cw, .int .i64 ch, .int .i64 aQ, .slice Ap l.length cp] 6 1 S ?_; clear S; intro o6 S; obtain ⟨dJ, dR, dU, dV, jU, kJ, gu⟩ := St.dS S bf)
     | (refine fC 26 6 62 #[.int .u8 ck, .int .i64 x, .int .i64 y, .int .i64 cw, .int .i64 ch, .int .i64 aQ, .slice Ap l.length cp] 0 7 S ?_; clear S; intro uy S; clear dJ dR dU dV jU kJ gu)
     | fail)
    refine bodyPost_ret (results_cell_row rfl _ _ b6 26 _ (0, 0) _ rfl (S.out.blk _ (.head _) _ rfl) Try.underlying26 rfl (by kernel_rfl)) rfl ?_
    have hN := S.out.yY
    simp only [MI, l9]
    exact ⟨_, _, rfl, hN, S.out.below⟩
   | cons k rest =>
    have hk : k ∈ l := by rw [← HE.out]; simp
    have hlt : (pre.length : Int) < (l.length : Int) := by rw [← HE.out, List.length_append, List.length_cons]; omega
    have hw1 : wrap64 ((pre.length : Int) + 1) = ((pre ++ [k]).length : Int) := by have := kF.out; rw [List.length_append, List.length_singleton]; unfold wrap64; omega
    have HW1 := ae.mk hw1
    have kY := ae.mk hgg
    have HK := ae.mk hk
    have DF := ae.mk (show pre.length ≤ 1000000 by have := kF.out; omega)
    obtain ⟨lu, ua, uc, ek, S1⟩ := S.out.elem (.head _) (pre.length : Int) (Int.natCast_nonneg _) hlt
    subst ek
    have hrd : aj l (pre.length : Int) = k := by rw [← HE.out]; exact lD pre k rest
    rw [hrd] at S1
    simp only [Int.toNat_natCast] at S1
    replace S := ae.mk S1
    clear S1 hrd hk hgg hw1
    by_cases h2 : ck = 2
    ·subst h2
     obtain ⟨jZ, ku, kz, jE, jF, kG, lJ⟩ := St.Dv S
     have gu := (S.out.at bf 6).trans rfl
     go_wp2_with (first
      | (refine qw (some 30) Try.func67 S (IH.out k HK.out _ ua uc _ _ _ (dX (S.out.tree _ (.head _)))) ?_; clear S; intro Ua ac7 xe S; clear jZ ku kz jE jF kG lJ gu)
      | (refine fD 32 rfl ?_; at_builtin; go_loud (refine zF (.tmp 22) (.tmp 31) rfl rfl Try.underlying24 info26 S.out (fH k (n_ 2 pre x) (oh 2 pre y)) (.head _) rfl (by first | (go_simp; done) | (go_simp; rfl)) (by have := DF.out; rw [l9]; omega) ?_); intro Aq cq BU S1; rw [← Bd 2 k pre x y] at S1 ⊢; rw [l9] at S1 ⊢; replace S := ae.mk S1; clear S1; have dJ := (S.out.at bf 0).trans rfl; have gu := (S.out.at bf 6).trans rfl; have jE := (S.out.cell _ jM).1)
      | fail)
     clear dJ gu jE
     have hw1 := HW1.out
     go_wp2
     go_roundg rest.length
     case measure => exact Nat.lt_of_lt_of_le (Nat.lt_succ_self _) kY.out
     case rel => exact ⟨pre ++ [k], rest, Aq, cq, (by simp), (by rw [hw1]), (by rw [uj]; rw [agG]), (by rw [uk]; simp [vH]), ⟨by rw [List.append_assoc]; exact HE.out⟩, Nat.le_refl _, ⟨S.out.dC.dC.aU.aU.aU.aU.aU.aU.aU⟩⟩
    ·have h2b : (ck == 2) = false := beq_eq_false_iff_ne.mpr h2
     have h2d : decide (ck = 2) = false := decide_eq_false h2
     by_cases h3 : ck = 3
     ·subst h3
      obtain ⟨jZ, ku, kz, jE, jF, kG, lJ⟩ := St.Dv S
      have gu := (S.out.at bf 6).trans rfl
      go_wp2_with (first
       | (refine qw (some 30) Try.func67 S (IH.out k HK.out _ ua uc _ _ _ (dX (S.out.tree _ (.head _)))) ?_; clear S; intro Ua ac7 uB S; clear jZ ku kz jE jF kG lJ gu)
       | (refine fD 32 rfl ?_; at_builtin; go_loud (refine zF (.tmp 22) (.tmp 31) rfl rfl Try.underlying24 info26 S.out (fH k (n_ 3 pre x) (oh 3 pre y)) (.head _) rfl (by first | (go_simp; done) | (go_simp; rfl)) (by have := DF.out; rw [l9]; omega) ?_); intro Aq cq Dq S1; rw [← Bd 3 k pre x y] at S1 ⊢; rw [l9] at S1 ⊢; replace S := ae.mk S1; clear S1; have dJ := (S.out.at bf 0).trans rfl; have gu := (S.out.at bf 6).trans rfl; have jF := (S.out.cell _ qg).1)
       | fail)
      clear dJ gu jF
      have hw1 := HW1.out
      go_wp2
      go_roundg rest.length
      case measure => exact Nat.lt_of_lt_of_le (Nat.lt_succ_self _) kY.out
      case rel => exact ⟨pre ++ [k], rest, Aq, cq, (by simp), (by rw [hw1]), (by rw [uj]; simp [vG]), (by rw [uk]; rw [agH]), ⟨by rw [List.append_assoc]; exact HE.out⟩, Nat.le_refl _, ⟨S.out.dC.dC.aU.aU.aU.aU.aU.aU.aU⟩⟩
     ·have h3b : (ck == 3) = false := beq_eq_false_iff_ne.mpr h3
      have h3d : decide (ck = 3) = false := decide_eq_false h3
      have H2 := ae.mk h2
      have H3 := ae.mk h3
      clear h2 h3
      obtain ⟨jZ, ku, kz, jE, jF, kG, lJ⟩ := St.Dv S
      have gu := (S.out.at bf 6).trans rfl
      go_wp2_with (first
       | (refine qw (some 30) Try.func67 S (IH.out k HK.out _ ua uc _ _ _ (dX (S.out.tree _ (.head _)))) ?_; clear S; intro Ua ac7 EW S; clear jZ ku kz jE jF kG lJ gu)
       | (refine fD 32 rfl ?_; at_builtin; go_loud (refine zF (.tmp 22) (.tmp 31) rfl rfl Try.underlying24 info26 S.out (fH k (n_ ck pre x) (oh ck pre y)) (.head _) rfl (by first | (go_simp; done) | (go_simp; rfl)) (by have := DF.out; rw [l9]; omega) ?_); intro Aq cq Kz S1; rw [← Bd ck k pre x y] at S1 ⊢; rw [l9] at S1 ⊢; replace S := ae.mk S1; clear S1; have dJ := (S.out.at bf 0).trans rfl)
       | fail)
      clear dJ
      have hw1 := HW1.out
      go_wp2
      go_roundg rest.length
      case measure => exact Nat.lt_of_lt_of_le (Nat.lt_succ_self _) kY.out
      case rel => exact ⟨pre ++ [k], rest, Aq, cq, (by simp), (by rw [hw1]), (by rw [uj]; unfold vG; rw [if_neg H2.out]), (by rw [uk]; unfold vH; rw [if_neg H2.out, if_neg H3.out]), ⟨by rw [List.append_assoc]; exact HE.out⟩, Nat.le_refl _, ⟨S.out.dC.dC.aU.aU.aU.aU.aU.aU.aU⟩⟩
end Go.Proofs.Ytfdmfgaiblfbhaa.P
namespace Go.Proofs.Ytfdmfgaiblfbhaa.Pure
open Go.RowKit Go.Proofs.Ytfdmfgaiblfbhaa.P Go.Proofs.ag.aA Go.Proofs.ag.bg Go.Proofs.ag.bG
end Go.Proofs.Ytfdmfgaiblfbhaa.Pure
namespace Go.Proofs.Ytfdmfgaiblfbhaa.P
open Go.RowKit Go.Proofs.ag.aA Go.Proofs.ag.bg Go.Proofs.ag.bG
section
variable {W : World} {b : Nat} {P : Nat → Prop} {A : Option Addr} {cc : Nat}
theorem zI (r : dK) (ax : Int) : Calls Try.prog 87 #[.agg #[.int .i64 r.f0, .int .i64 r.f1, .int .i64 r.f2, .int .i64 r.f3], .int .u8 ax] W fun e w' => e = .returned (.int .i64 (aK ax r)) ∧ Below W.heap.size W w' :=
 qF.calls r.f0 r.f1 r.f2 r.f3 ax _ W (TJ r ax)
theorem Yc (c : ai) (ax : Int) (hV : Kd.V k26 26 W b P (.slice A c.f3.length cc) c.f3) :
  Calls Try.prog 88 #[.agg #[.int .u8 c.f0, .int .i64 c.f1.f0, .int .i64 c.f1.f1, .int .i64 c.f1.f2, .int .i64 c.f1.f3, .int .i64 c.f2, .slice A c.f3.length cc], .int .u8 ax] W fun e w' => e = .returned (.bool (iH ax c.f0)) ∧ Below W.heap.size W w' := by
 have h := Kd.oI hV
 exact su.calls _ _ _ _ _ _ A cc c.f3 ax _ W h.2.2 h.2.1 (P7 c ax)
theorem ae' (c : ai) (x y : Int) (hz : sz c ≤ 1000000) (hV : Kd.V k26 26 W b P (.slice A c.f3.length cc) c.f3) :
  Calls Try.prog 67 #[.agg #[.int .u8 c.f0, .int .i64 c.f1.f0, .int .i64 c.f1.f1, .int .i64 c.f1.f2, .int .i64 c.f1.f3, .int .i64 c.f2, .slice A c.f3.length cc], .int .i64 x, .int .i64 y] W (MI W P (fH c x y)) := by
 exact ae_ 1000000 c hz (Nat.le_refl _) P A cc x y W (dX hV)
end
section
variable {Pr : Program} {ops : Array Oper} {rest : List Oper} {op : Oper} {a : Act} {Q : Exit → Act → World → Prop} {w W : World} {P : Nat → Prop} {bs : List (Option Nat × Obj)} {ow : List (Value × List ai)} {ts : List (Value × List ai)} {ro : List (Addr × Value)}
end
abbrev Ur (w : World) (P : Nat → Prop) (z : ai) (e : Ending) (w' : World) : Prop := ∃ A c, e = .returned (.agg #[.int .u8 z.f0, .int .i64 z.f1.f0, .int .i64 z.f1.f1, .int .i64 z.f1.f2, .int .i64 z.f1.f3, .int .i64 z.f2, .slice A z.f3.length c]) ∧ Kd.V k26 26 w' w.heap.size (fun k => P k ∨ w.heap.size ≤ k) (.slice A z.f3.length c) z.f3 ∧ Below w.heap.size w w'
theorem abd (id ax : Int) (L : List ai) (al : Bool) : ∀ l : List ai, (qM id ax L al l).length ≤ l.length * (L.length + 1) := by
 intro l
 induction l with
 | nil => rw [vS]; simp
 | cons k ks ih =>
  rw [rf, List.length_append, List.length_cons, Nat.add_mul, Nat.one_mul]
  split
  ·omega
  ·simp only [List.length_singleton]; omega
theorem abe {id ax : Int} {L : List ai} {al : Bool} {pre : List ai} {k : ai} (h : k.f0 = 1 ∧ k.f2 = id ∧ al = true) : qM id ax L al pre ++ L = qM id ax L al (pre ++ [k]) := by rw [FH, rf, if_pos h, vS, List.append_nil]
theorem Ko {id ax : Int} {L : List ai} {al : Bool} {pre : List ai} {k : ai} (h : ¬ (k.f0 = 1 ∧ k.f2 = id ∧ al = true)) : qM id ax L al pre ++ [yw id ax L k] = qM id ax L al (pre ++ [k]) := by rw [FH, rf, if_neg h, vS, List.append_nil]
theorem PD {c : ai} {ax : Int} {v : Bool} {b : Nat} {P : Nat → Prop} {A : Option Addr} {cc : Nat} {W : World} (h : iH ax c.f0 = v) (hV : Kd.V k26 26 W b P (.slice A c.f3.length cc) c.f3) :
  Calls Try.prog 88 #[.agg #[.int .u8 c.f0, .int .i64 c.f1.f0, .int .i64 c.f1.f1, .int .i64 c.f1.f2, .int .i64 c.f1.f3, .int .i64 c.f2, .slice A c.f3.length cc], .int .u8 ax] W fun e w' => e = .returned (.bool v) ∧ Below W.heap.size W w' := by
 have h2 := Yc c ax hV
 rw [h] at h2
 exact h2
theorem S_ (id ax : Int) (hax : ax = 1 ∨ ax = 2) (L : List ai) (hL : L.length ≤ 1000) : ∀ (N : Nat) (c : ai), sz c ≤ N → N ≤ 100000 → ∀ (P : Nat → Prop) (A : Option Addr) (cc : Nat) (B : Option Addr) (cb : Nat) (w : World), Kd.V k26 26 w w.heap.size P (.slice A c.f3.length cc) c.f3 → Kd.V k26 26 w w.heap.size P (.slice B L.length cb) L →
  Calls Try.prog 168 #[.agg #[.int .u8 c.f0, .int .i64 c.f1.f0, .int .i64 c.f1.f1, .int .i64 c.f1.f2, .int .i64 c.f1.f3, .int .i64 c.f2, .slice A c.f3.length cc], .int .i64 id, .int .u8 ax, .slice B L.length cb] w (Ur w P (yw id ax L c)) := by
 intro N
 induction N with
 | zero => intro c h; rw [bP] at h; omega
 | succ N ih =>
  intro c hc hN P A cc B cb w hv hvL
  have hsz := bP c
  have S := ae.mk (St.start (ts := [(.slice A c.f3.length cc, c.f3), (.slice B L.length cb, L)]) (b0 := w.heap.size) (w := w) (P := P) (fun t ht => by
   rcases List.mem_cons.1 ht with rfl | ht
   ·exact hv
   ·rw [List.mem_singleton.1 ht]; exact hvL))
  rw [Ag]
  have hlen := jY c.f3
  have kF := ae.mk (show c.f3.length ≤ 100000 by omega)
  have HL := ae.mk hL
  have IH := ae.mk fun (k : ai) (hk : k ∈ c.f3) P A cc B cb w h h2 => ih k (by have := yF hk; omega) (by omega) P A cc B cb w h h2
  obtain ⟨ck, ⟨cx, cy, cw, ch⟩, aQ, l⟩ := c
  simp only [] at S IH kF ⊢
  have hm : (ax + 1) % 256 = ax + 1 := by omega
  clear ih hc hN hv hvL hsz hlen
  by_cases h0 : ck = 1
  case pos =>
   rw [if_pos h0]
   obtain ⟨F6, D6, OB⟩ := vN (a := ck) (b := 1) (by omega)
   have HCK := ae.mk h0
   clear h0
   by_cases hd : aQ = id
   case pos =>
    rw [if_pos hd]
    obtain ⟨Vr, Vs, hdd⟩ := vN (a := aQ) (b := id) (by omega)
    clear hd
    go_enter Try.func168, Try.ntmps168
    go_wp2_with (first
     | (refine boxS 4 _ 26 S ?_; clear S; intro b4 eU S)
     | (refine boxS 8 _ 26 S ?_; clear S; intro b8 fV S; have oV := (S.out.at bf 0).trans rfl; have uX := (S.out.at bf 5).trans rfl; have ql := (S.out.at bf 1).trans rfl; have qm := (S.out.at bf 2).trans rfl; have qo := (S.out.at bf 3).trans rfl; have uV := (S.out.at bf 4).trans rfl)
     | (refine fC 26 8 24 #[.int .u8 (ax + 1), .int .i64 cx, .int .i64 cy, .int .i64 cw, .int .i64 ch, .int .i64 0, .slice B L.length cb] 0 7 S ?_; clear S; intro gz S; clear oV uX ql qm qo uV)
     | fail)
    refine bodyPost_ret (results_cell_row rfl _ _ b8 26 _ (0, 0) _ rfl (S.out.blk _ (.head _) _ rfl) Try.underlying26 rfl (by kernel_rfl)) rfl ?_
    exact ⟨_, _, rfl, S.out.GY (b0 := w.heap.size) bf, S.out.below⟩
   case neg =>
    rw [if_neg hd]
    obtain ⟨Vr, Vs, hdd⟩ := eqF (a := aQ) (b := id) (by omega)
    clear hd
    go_enter Try.func168, Try.ntmps168
    go_wp2_with (first
     | (refine boxS 4 _ 26 S ?_; clear S; intro b4 eU S)
     | (refine boxS 8 _ 26 S ?_; clear S; intro b8 fV S; obtain ⟨oV, ql, qm, qo, uV, uX, oW⟩ := St.dS S bf)
     | (refine fC 26 8 18 #[.int .u8 ck, .int .i64 cx, .int .i64 cy, .int .i64 cw, .int .i64 ch, .int .i64 aQ, .slice A l.length cc] 0 7 S ?_; clear S; intro gz S; clear oV ql qm qo uV uX oW)
     | fail)
    refine bodyPost_ret (results_cell_row rfl _ _ b8 26 _ (0, 0) _ rfl (S.out.blk _ (.head _) _ rfl) Try.underlying26 rfl (by kernel_rfl)) rfl ?_
    exact ⟨_, _, (by first | rfl | (rw [HCK.out]; rfl)), S.out.GY (b0 := w.heap.size) (.head _), S.out.below⟩
  case neg =>
   rw [if_neg h0]
   obtain ⟨F6, D6, OB⟩ := eqF (a := ck) (b := 1) (by omega)
   obtain ⟨al, hal⟩ : ∃ v, iH ax ck = v := ⟨_, rfl⟩
   rw [hal]
   have KZ := ae.mk (show iH ax (⟨ck, ⟨cx, cy, cw, ch⟩, aQ, l⟩ : ai).f0 = al from hal)
   clear h0 hal
   go_enter Try.func168, Try.ntmps168
   go_wp2_with (first
    | (refine boxS 4 _ 26 S ?_; clear S; intro b4 eU S)
    | (refine boxS 8 _ 26 S ?_; clear S; intro b8 fV S; have oV := (S.out.at bf 0).trans rfl)
    | (refine fD 25 rfl ?_; refine VV (N := 25) rfl rfl S.out ?hr ?_; (case hr => first | (go_simp; done) | (go_simp; rfl)); intro Ao co gz S1; replace S := ae.mk S1; clear S1; clear oV; have oW := (S.out.at bf 6).trans rfl)
    | fail)
   clear oW
   go_loopg [9, 29] l.length (fun gg v9 v29 wr => ∃ (pre rest : List ai) (Ao : Option Addr) (co : Nat), v9 = .slice Ao (qM id ax L al pre).length co ∧ v29 = .int .i64 (pre.length : Int) ∧ ae (pre ++ rest = l) ∧ rest.length ≤ gg ∧ ae (St w P [(some b8, .cells #[.int .u8 0, .int .i64 0, .int .i64 0, .int .i64 0, .int .i64 0, .int .i64 0, .slice none 0 0] 26 (0, 0)), (some b4, .cells #[.int .u8 ck, .int .i64 cx, .int .i64 cy, .int .i64 cw, .int .i64 ch, .int .i64 aQ, .slice A l.length cc] 26 (0, 0))] [(.slice Ao ((qM id ax L al pre).length) co, (qM id ax L al pre))] [(.slice A l.length cc, l), (.slice B L.length cb, L)] [] wr))
   case atStart => exact ⟨[], l, Ao, co, (by rw [vS]; rfl), rfl, ⟨rfl⟩, Nat.le_refl _, ⟨by rw [vS]; exact S.out⟩⟩
   case round =>
    clear S
    obtain ⟨pre, rest, Ao, co, rfl, rfl, HE, hgg, S⟩ := hrel
    cases rest with
    | nil =>
     have hE := HE.out
     rw [List.append_nil] at hE
     have hE2 := hE.symm
     subst hE2
     clear hE HE hgg
     have hlt : ¬ ((l.length : Int) < (l.length : Int)) := by omega
     go_wp2_with (first
      | (refine ru 24 71 70 #[.int .u8 ck, .int .i64 cx, .int .i64 cy, .int .i64 cw, .int .i64 ch, .int .i64 aQ, .slice Ao ((qM id ax L al l).length) co] 6 1 S ?_; clear S; intro eU S; obtain ⟨oV, ql, qm, qo, uV, uX, oW⟩ := St.dS S bf)
      | (refine fC 26 8 72 #[.int .u8 ck, .int .i64 cx, .int .i64 cy, .int .i64 cw, .int .i64 ch, .int .i64 aQ, .slice Ao ((qM id ax L al l).length) co] 0 7 S ?_; clear S; intro fV S; clear oV ql qm qo uV uX oW)
      | fail)
     refine bodyPost_ret (results_cell_row rfl _ _ b8 26 _ (0, 0) _ rfl (S.out.blk _ (.head _) _ rfl) Try.underlying26 rfl (by kernel_rfl)) rfl ?_
     exact ⟨_, _, rfl, by have h := S.out.free.GY (b0 := w.heap.size) (.head _); exact h, S.out.below⟩
    | cons k rest =>
     have hk : k ∈ l := by rw [← HE.out]; simp
     have hlt : (pre.length : Int) < (l.length : Int) := by rw [← HE.out, List.length_append, List.length_cons]; omega
     have hw1 : wrap64 ((pre.length : Int) + 1) = ((pre ++ [k]).length : Int) := by have := kF.out; rw [List.length_append, List.length_singleton]; unfold wrap64; omega
     have HW1 := ae.mk hw1
     have kY := ae.mk hgg
     have HK := ae.mk hk
     have DF := ae.mk (show pre.length ≤ 1048576 by have := kF.out; omega)
     obtain ⟨lu, ua, uc, ek, S1⟩ := S.out.elem (.head _) (pre.length : Int) (Int.natCast_nonneg _) hlt
     subst ek
     have hrd : aj l (pre.length : Int) = k := by rw [← HE.out]; exact lD pre k rest
     rw [hrd] at S1
     simp only [Int.toNat_natCast] at S1
     replace S := ae.mk S1
     clear S1 hrd hk hgg hw1
     have hlen := abd id ax L al pre
     have hpq : (qM id ax L al pre).length ≤ 101000000 := by
      have h1 := kF.out
      have h2 := HL.out
      have h3 : pre.length ≤ 100000 := by rw [← HE.out] at h1; simp at h1; omega
      exact Nat.le_trans hlen (Nat.le_trans (Nat.mul_le_mul h3 (Nat.add_le_add_right h2 1)) (by decide))
     have YF := ae.mk hpq
     clear hpq
     clear hlen
     by_cases hk0 : k.f0 = 1
     case pos =>
      by_cases hk2 : k.f2 = id
      case pos =>
       cases al with
       | true =>
        have HQ := ae.mk (show k.f0 = 1 ∧ k.f2 = id ∧ true = true from ⟨hk0, hk2, rfl⟩)
        obtain ⟨XM, XN, hk0d⟩ := vN (a := k.f0) (b := 1) (by omega)
        obtain ⟨aeD, aeE, aeF⟩ := vN (a := k.f2) (b := id) (by omega)
        clear hk0 hk2
        obtain ⟨oV, ql, qm, qo, uV, uX, oW⟩ := St.dS S bf
        have jZ := (S.out.cell _ (.head _)).1
        have kG := (S.out.cell _ zh).1
        go_wp2_with (first
         | (refine fD 52 rfl ?_; (refine dM (by rfl) ?_; dsimp only); refine bI (some 52) Try.func88 S (PD (c := ⟨ck, ⟨cx, cy, cw, ch⟩, aQ, l⟩) KZ.out (S.out.tree _ bf)) ?_; clear S; intro eU S; clear oV ql qm qo uV uX oW jZ kG)
         | (refine fD 56 rfl ?_; at_builtin; refine BC 24 (.tmp 54) (.tmp 55) rfl rfl Try.underlying24 info26 S.out eF rfl rfl (by have := YF.out; have := HL.out; omega) ?_; intro Aq cq fV S1; rw [abe HQ.out] at S1 ⊢; replace S := ae.mk S1; clear S1)
         | fail)
        have hw1 := HW1.out
        go_wp2
        go_roundg rest.length
        case measure => exact Nat.lt_of_lt_of_le (Nat.lt_succ_self _) kY.out
        case rel => exact ⟨pre ++ [k], rest, _, _, rfl, (by rw [hw1]), ⟨by rw [List.append_assoc]; exact HE.out⟩, Nat.le_refl _, ⟨S.out.dC.aU.aU.aU.aU.aU.aU.aU⟩⟩
       | false =>
        have HQ := ae.mk (show ¬ (k.f0 = 1 ∧ k.f2 = id ∧ false = true) from fun h => by cases h.2.2)
        obtain ⟨XM, XN, hk0d⟩ := vN (a := k.f0) (b := 1) (by omega)
        obtain ⟨aeD, aeE, aeF⟩ := vN (a := k.f2) (b := id) (by omega)
        clear hk0 hk2
        obtain ⟨oV, ql, qm, qo, uV, uX, oW⟩ := St.dS S bf
        have jZ := (S.out.cell _ (.head _)).1
        have kG := (S.out.cell _ zh).1
        go_wp2_with (first
         | (refine fD 52 rfl ?_; (refine dM (by rfl) ?_; dsimp only); refine bI (some 52) Try.func88 S (PD (c := ⟨ck, ⟨cx, cy, cw, ch⟩, aQ, l⟩) KZ.out (S.out.tree _ bf)) ?_; clear S; intro eU S; clear oV ql qm qo uV uX oW jZ kG; obtain ⟨jZ, ku, kz, jE, jF, kG, lJ⟩ := St.Dv S; have oW := (S.out.at bf 6).trans rfl)
         | (refine SC (some 66) Try.func168 S (IH.out k HK.out _ ua uc _ _ _ (dX (S.out.tree _ (.head _))) (dX (S.out.tree _ eF))) ?_; clear S; intro Ar cr fV S; clear jZ ku kz jE jF kG lJ oW)
         | (refine fD 68 rfl ?_; at_builtin; go_loud (refine zF (.tmp 57) (.tmp 67) rfl rfl Try.underlying24 info26 S.out (yw id ax L k) (.head _) rfl (by first | (go_simp; done) | (go_simp; rfl)) (by have := YF.out; omega) ?_); intro Aq cq gz S1; rw [Ko HQ.out] at S1 ⊢; replace S := ae.mk S1; clear S1)
         | fail)
        have hw1 := HW1.out
        go_wp2
        go_roundg rest.length
        case measure => exact Nat.lt_of_lt_of_le (Nat.lt_succ_self _) kY.out
        case rel => exact ⟨pre ++ [k], rest, _, _, rfl, (by rw [hw1]), ⟨by rw [List.append_assoc]; exact HE.out⟩, Nat.le_refl _, ⟨S.out.dC.dC.aU.aU.aU.aU.aU.aU.aU⟩⟩
      case neg =>
       have HQ := ae.mk (show ¬ (k.f0 = 1 ∧ k.f2 = id ∧ al = true) from fun h => hk2 h.2.1)
       obtain ⟨XM, XN, hk0d⟩ := vN (a := k.f0) (b := 1) (by omega)
       obtain ⟨aeD, aeE, aeF⟩ := eqF (a := k.f2) (b := id) (by omega)
       clear hk0 hk2
       obtain ⟨jZ, ku, kz, jE, jF, kG, lJ⟩ := St.Dv S
       have oW := (S.out.at bf 6).trans rfl
       go_wp2_with (first
        | (refine SC (some 66) Try.func168 S (IH.out k HK.out _ ua uc _ _ _ (dX (S.out.tree _ (.head _))) (dX (S.out.tree _ eF))) ?_; clear S; intro Ar cr eU S; clear jZ ku kz jE jF kG lJ oW)
        | (refine fD 68 rfl ?_; at_builtin; go_loud (refine zF (.tmp 57) (.tmp 67) rfl rfl Try.underlying24 info26 S.out (yw id ax L k) (.head _) rfl (by first | (go_simp; done) | (go_simp; rfl)) (by have := YF.out; omega) ?_); intro Aq cq fV S1; rw [Ko HQ.out] at S1 ⊢; replace S := ae.mk S1; clear S1)
        | fail)
       have hw1 := HW1.out
       go_wp2
       go_roundg rest.length
       case measure => exact Nat.lt_of_lt_of_le (Nat.lt_succ_self _) kY.out
       case rel => exact ⟨pre ++ [k], rest, _, _, rfl, (by rw [hw1]), ⟨by rw [List.append_assoc]; exact HE.out⟩, Nat.le_refl _, ⟨S.out.dC.dC.aU.aU.aU.aU.aU.aU.aU⟩⟩
     case neg =>
      have HQ := ae.mk (show ¬ (k.f0 = 1 ∧ k.f2 = id ∧ al = true) from fun h => hk0 h.1)
      obtain ⟨XM, XN, hk0d⟩ := eqF (a := k.f0) (b := 1) (by omega)
      clear hk0
      obtain ⟨jZ, ku, kz, jE, jF, kG, lJ⟩ := St.Dv S
      have oW := (S.out.at bf 6).trans rfl
      go_wp2_with (first
       | (refine SC (some 66) Try.func168 S (IH.out k HK.out _ ua uc _ _ _ (dX (S.out.tree _ (.head _))) (dX (S.out.tree _ eF))) ?_; clear S; intro Ar cr eU S; clear jZ ku kz jE jF kG lJ oW)
       | (refine fD 68 rfl ?_; at_builtin; go_loud (refine zF (.tmp 57) (.tmp 67) rfl rfl Try.underlying24 info26 S.out (yw id ax L k) (.head _) rfl (by first | (go_simp; done) | (go_simp; rfl)) (by have := YF.out; omega) ?_); intro Aq cq fV S1; rw [Ko HQ.out] at S1 ⊢; replace S := ae.mk S1; clear S1)
       | fail)
      have hw1 := HW1.out
      go_wp2
      go_roundg rest.length
      case measure => exact Nat.lt_of_lt_of_le (Nat.lt_succ_self _) kY.out
      case rel => exact ⟨pre ++ [k], rest, _, _, rfl, (by rw [hw1]), ⟨by rw [List.append_assoc]; exact HE.out⟩, Nat.le_refl _, ⟨S.out.dC.dC.aU.aU.aU.aU.aU.aU.aU⟩⟩
def uP.T3 : Bool × List (List Nat × List Nat) := (true, [([], []), ([], []), ([], []), ([1, 2], [1, 2]), ([0, 3], [0, 3]), ([4], [4]), ([5], [5]), ([5], [5]), ([], []), ([8, 6, 4, 0, 1, 2, 3, 4, 5, 6, 8], [6, 8]), ([7, 9, 0, 1, 2, 3, 4, 5, 6, 7, 8, 9], [7])])
def uP.B3 : List Nat := [0, 0, 0, 6, 15, 31, 63, 63, 0, 383, 1023]
theorem uP.Hr : iY .any (opsOf Try.f166 3) = uP.T3 := by kernel_rfl
theorem uP.Cj : jA uP.T3.2 uP.B3 = true := by kernel_rfl
def yH.T5 : Bool × List (List Nat × List Nat) := (true, [([], []), ([0], [0]), ([], []), ([], []), ([2, 3], [2, 3]), ([4], [4]), ([], []), ([], []), ([6, 7], [6, 7]), ([8], [8]), ([9], [9]), ([], []), ([1, 5, 10, 11], [1, 5, 10, 11]), ([0, 1, 2, 3, 4, 5, 6, 7, 8, 9, 10, 11, 12], []), ([13, 12, 12, 0, 1, 2, 3, 4, 5, 6, 7, 8, 9, 10, 11, 12], [12, 13])])
def yH.B5 : List Nat := [0, 1, 0, 0, 12, 28, 0, 0, 192, 448, 960, 0, 4095, 8191, 16383]
theorem yH.PO : iY .any (opsOf Try.f166 5) = yH.T5 := by kernel_rfl
theorem yH.Ie : jA yH.T5.2 yH.B5 = true := by kernel_rfl
def yI.T6 : Bool × List (List Nat × List Nat) := (true, [([], []), ([], []), ([], []), ([], []), ([2, 3], [2, 3]), ([0, 1, 4], [0, 1, 4]), ([5], [5]), ([6], [6]), ([6], [6]), ([], []), ([9, 7, 5, 0, 1, 2, 3, 4, 5, 6, 7, 9], [7, 9]), ([8, 10, 0, 1, 2, 3, 4, 5, 6, 7, 8, 9, 10], [8])])
def yI.B6 : List Nat := [0, 0, 0, 0, 12, 31, 63, 127, 127, 0, 767, 2047]
theorem yI.tab6 : iY .any (opsOf Try.f166 6) = yI.T6 := by kernel_rfl
theorem yI.AU : jA yI.T6.2 yI.B6 = true := by kernel_rfl
theorem abE (l L : List ai) (k : Nat) : dO (xY l k L) ≤ dO l + dO L := by
 have h1 : dO (l.take k) + dO (l.drop k) = dO l := by rw [← jX, List.take_append_drop]
 have h2 : dO (l.drop (k + 1)) ≤ dO (l.drop k) := by
  rw [← List.drop_drop]
  cases h : l.drop k with
  | nil => simp
  | cons x xs => rw [bJ]; simp
 unfold xY
 rw [jX, jX]
 omega
theorem ae8 {L M : List ai} {args : Array Value} {w W : World} {P : Nat → Prop} {bs : List (Option Nat × Obj)} {ts : List (Value × List ai)} {ro : List (Addr × Value)} (h : M = L) (hc : Calls Try.prog 189 args W fun e w' => ∃ A c', e = .returned (.slice A M.length c') ∧ St w P bs [(.slice A M.length c', M)] ts ro w') :
  Calls Try.prog 189 args W fun e w' => ∃ A c', e = .returned (.slice A L.length c') ∧ St w P bs [(.slice A L.length c', L)] ts ro w' := by
 rw [h] at hc
 exact hc
theorem abh (ax : Int) (hax : ax = 1 ∨ ax = 2) (c leaf : ai) (p : List Int) (L : List ai) (z : ai) (hj : CU ax L c p leaf = some z) (hat : jT c p = some leaf) (hz : sz c ≤ 800000) (hp : p.length ≤ 1000000) (hL : L.length = 2) (hLz : dO L ≤ 1000) (P : Nat → Prop) (A : Option Addr) (cc : Nat) (Al : Option Addr) (cl : Nat) (B : Option Addr) (cb : Nat) (ga cL : Nat) (ca : Array Value) (w : World)
  (hv : Kd.V k26 26 w w.heap.size P (.slice A c.f3.length cc) c.f3) (hi : Kd.C (Kd.int .i64) w B p.length p) (hb : p.length ≤ cb) (hvL : Kd.V k26 26 w w.heap.size P (.slice (some ⟨ga, 0, none⟩) L.length cL) L) (hga : w.heap[ga]? = some (.cells ca 26 (0, 0))) (hca : ca.size ≠ 0) :
  Calls Try.prog 166 #[.agg #[.int .u8 c.f0, .int .i64 c.f1.f0, .int .i64 c.f1.f1, .int .i64 c.f1.f2, .int .i64 c.f1.f3, .int .i64 c.f2, .slice A c.f3.length cc], .slice B p.length cb, .agg #[.int .u8 leaf.f0, .int .i64 leaf.f1.f0, .int .i64 leaf.f1.f1, .int .i64 leaf.f1.f2, .int .i64 leaf.f1.f3, .int .i64 leaf.f2, .slice Al leaf.f3.length cl], .int .u8 ax, .slice (some ⟨ga, 0, none⟩) L.length cL] w (Ur w P z) := by
 have S := ae.mk (St.start (ts := [(.slice A c.f3.length cc, c.f3), (.slice (some ⟨ga, 0, none⟩) L.length cL, L)]) (b0 := w.heap.size) (w := w) (P := P) (fun t ht => by
  rcases List.mem_cons.1 ht with rfl | ht
  ·exact hv
  ·rw [List.mem_singleton.1 ht]; exact hvL))
 have HZ := ae.mk (show sz c ≤ 1000000 by omega)
 have Un := ae.mk hz
 have HI := ae.mk hi
 have HB := ae.mk hb
 have HGA := ae.mk hga
 have HCA := ae.mk hca
 have HL2 := ae.mk hL
 have hnz : sz (CZ ax leaf L) ≤ 1000000 := by rw [bP]; show 1 + dO L ≤ _; omega
 have hHL := ae.mk hLz
 have hm1 : (ax - 1) % 256 = ax - 1 := by omega
 have hm2 : (ax - 1 + 2) % 256 = ax - 1 + 2 := by omega
 unfold CU at hj
 clear hv hi hb hvL hga hca hz hL hLz
 by_cases h0 : p.length = 0
 case pos =>
  have hp0 := List.length_eq_zero_iff.1 h0
  subst hp0
  rw [if_pos (show ([] : List Int).length = 0 from rfl)] at hj
  have zL := ae.mk hj
  have y8 := ae.mk hnz
  clear hj h0 hp hat hax hnz
  obtain ⟨ck, ⟨cx, cy, cw, ch⟩, aQ, l⟩ := c
  obtain ⟨ek, ⟨ex, ey, ew, eh⟩, U0, le⟩ := leaf
  unfold CZ at *
  have Um := ae.mk (show ax + 1 = ax - 1 + 2 by omega)
  rw [Um.out] at zL y8
  clear Um
  simp only [] at S HZ Un zL y8 ⊢
  go_enter Try.func166, Try.ntmps166
  go_wp2_with (first
   | (refine boxS 5 _ 26 S ?_; clear S; intro b5 eU S)
   | (refine boxS 7 _ 26 S ?_; clear S; intro b7 fV S)
   | (refine boxS 10 _ 26 S ?_; clear S; intro b10 gz S; obtain ⟨Fp, iy, iC, iD, iE, qp, Fq⟩ := St.dS S eF; have Sm := (S.out.at bf 1).trans rfl; have Sr := (S.out.at bf 2).trans rfl; have Ir := (S.out.at bf 3).trans rfl; have Iu := (S.out.at bf 4).trans rfl)
   | (refine nG (some 68) Try.func102 (MO ⟨ck, ⟨cx, cy, cw, ch⟩, aQ, l⟩ ⟨ax - 1 + 2, ⟨ex, ey, ew, eh⟩, 0, L⟩ [] z zL.out HZ.out y8.out (S.out.tree _ (.head _)) (S.out.tree _ bf) (Kd.eY HI.out S.out.below) HB.out) ?_; rintro e lI ⟨Ay, AV, rfl, h1, hb⟩; refine ⟨_, rfl, ?_⟩; replace S := ae.mk (S.out.res (Kd.Du (base' := 0) h1) hb); clear h1 hb; clear Fp iy iC iD iE qp Fq Sm Sr Ir Iu)
   | (refine boxS 16 _ 26 S ?_; clear S; intro b16 mQ S)
   | (refine fC 26 16 69 #[.int .u8 z.f0, .int .i64 z.f1.f0, .int .i64 z.f1.f1, .int .i64 z.f1.f2, .int .i64 z.f1.f3, .int .i64 z.f2, .slice Ay z.f3.length AV] 0 7 S ?_; clear S; intro o6 S; obtain ⟨DT, DU, DV, DW, Oh, Oi, Oj⟩ := St.dS S (.head _))
   | (refine ru 26 10 71 #[.int .u8 z.f0, .int .i64 z.f1.f0, .int .i64 z.f1.f1, .int .i64 z.f1.f2, .int .i64 z.f1.f3, .int .i64 z.f2, .slice Ay z.f3.length AV] 0 7 S ?_; clear S; intro uy S; clear DT DU DV DW Oh Oi Oj)
   | fail)
  refine bodyPost_ret (results_cell_row rfl _ _ b10 26 _ (0, 0) _ rfl (S.out.blk _ bf _ rfl) Try.underlying26 rfl (by kernel_rfl)) rfl ?_
  exact ⟨_, _, rfl, S.out.GY (b0 := w.heap.size) (.head _), S.out.below⟩
 case neg =>
  rw [if_neg h0] at hj
  obtain ⟨n, hn⟩ : ∃ n, p.length = n + 1 := ⟨p.length - 1, by omega⟩
  have HW0 : IntKind.i64.wrap ((p.length : Int) - 1) = (n : Int) := by rw [IntKind.wrap_i64]; omega
  have hn0 : decide ((n : Int) ≥ 0) = true := decide_eq_true (Int.natCast_nonneg _)
  have alp : (0 : Int) ≤ (n : Int) := Int.natCast_nonneg _
  rw [show p.length - 1 = n by omega] at hj
  obtain ⟨aY, Ep, hi0, hi1⟩ := acZ p c _ hat n (by omega)
  rw [Ep] at hj
  simp only [] at hj
  obtain ⟨pq, hpq⟩ : ∃ pq, pq = p.take n := ⟨_, rfl⟩
  have hpl : pq.length = n := by rw [hpq, List.length_take]; omega
  rw [← hpq] at Ep hj
  have HAT := ae.mk Ep
  have RN := ae.mk (show pq.length ≤ 1048576 by omega)
  have Qi := ae.mk (show Kd.C (Kd.int .i64) w B pq.length pq by rw [hpq]; exact Kd.acg HI.out (by omega))
  have Qh := ae.mk (show pq.length ≤ cb by have := HB.out; omega)
  have hcut : ∀ W : World, (Instr.slice 41 (.slice B p.length cb) none (some (.int .i64 (n : Int))) none).run Try.prog W = .ok (.slice B pq.length cb) W := by
   intro W
   obtain ⟨i0, hi0, _, hsz, _⟩ := info_parts info3
   have h := adA (P := Try.prog) 41 3 .i64 Try.underlying41 hi0 B p.length cb (n : Int) (Int.natCast_nonneg _) (by omega) HB.out W
   rw [Int.toNat_natCast, show n = pq.length by omega] at h
   rw [show n = pq.length by omega]
   exact h
  have hpz := Qv _ _ _ Ep
  have hpe := bP aY
  have hpl2 := jY aY.f3
  have YE := ae.mk (show 0 < aY.f3.length by omega)
  clear h0 hpq Ep hax hat
  cases ha : iH ax aY.f0 with
  | false =>
   rw [ha, if_neg (by simp)] at hj
   have zL := ae.mk hj
   have y8 := ae.mk hnz
   have HA := ae.mk ha
   clear ha hj hnz hpz hpe hpl2 hi0 hi1 hp hn hpl
   obtain ⟨ck, ⟨cx, cy, cw, ch⟩, aQ, l⟩ := c
   obtain ⟨ek, ⟨ex, ey, ew, eh⟩, U0, le⟩ := leaf
   unfold CZ at *
   have Um := ae.mk (show ax + 1 = ax - 1 + 2 by omega)
   rw [Um.out] at zL y8
   clear Um
   simp only [] at S HZ Un zL y8 ⊢
   go_enter Try.func166, Try.ntmps166
   go_wp2_with (first
    | (refine boxS 5 _ 26 S ?_; clear S; intro b5 eU S)
    | (refine boxS 7 _ 26 S ?_; clear S; intro b7 fV S)
    | (refine boxS 10 _ 26 S ?_; clear S; intro b10 gz S)
    | fail)
   refine kX (n := 11) (S := fun w' => St w _ _ _ _ _ w') (ds := [9]) (bA 11 0) (by kernel_rfl) rfl rfl (S.out.call (bz (Below.refl _ _))) (fun hHeld => ?_); refine ik uP.Hr uP.Cj (fun az fZ => ?_)
   replace S := ae.mk (S.out.call (bz (Below.refl _ _)))
   generalize gz.drew = wd4 at S hHeld ⊢
   refine eQ 0 24 (bA 11 1) az fZ hHeld ?_ (hv := by intro w' hs_; have Fp := (hs_.at eF 0).trans rfl; have iy := (hs_.at eF 1).trans rfl; have iC := (hs_.at eF 2).trans rfl; have iD := (hs_.at eF 3).trans rfl; have iE := (hs_.at eF 4).trans rfl; have qp := (hs_.at eF 5).trans rfl; have Fq := (hs_.at eF 6).trans rfl; go_simp; with_reducible rfl)
   refine aJ 1 25 (bA 11 3) az ?_
   refine aJ 2 26 (bA 11 7) az ?_
   refine aJ 3 27 (bA 11 15) az ?_
   refine FI (σ := Nat × Nat × Nat) 2 (bA 11 511) (fun s_ => [(28, .tuple #[.agg #[.int .u8 aY.f0, .int .i64 aY.f1.f0, .int .i64 aY.f1.f1, .int .i64 aY.f1.f2, .int .i64 aY.f1.f3, .int .i64 aY.f2, .slice (some ⟨s_.1, 0, none⟩) aY.f3.length s_.2.1], .bool true]), (23, .tuple #[.agg #[.int .u8 aY.f0, .int .i64 aY.f1.f0, .int .i64 aY.f1.f1, .int .i64 aY.f1.f2, .int .i64 aY.f1.f3, .int .i64 aY.f2, .slice (some ⟨s_.1, 0, none⟩) aY.f3.length s_.2.1], .bool true]), (29, .agg #[.int .u8 aY.f0, .int .i64 aY.f1.f0, .int .i64 aY.f1.f1, .int .i64 aY.f1.f2, .int .i64 aY.f1.f3, .int .i64 aY.f2, .slice (some ⟨s_.1, 0, none⟩) aY.f3.length s_.2.1]), (30, .bool true), (12, .pointer (some ⟨s_.2.2, 0, none⟩))]) (fun s_ w' => St w P [(some s_.2.2, .cells #[.int .u8 0, .int .i64 0, .int .i64 0, .int .i64 0, .int .i64 0, .int .i64 0, .slice none 0 0] 26 (0, 0)), (some b10, .cells #[.int .u8 0, .int .i64 0, .int .i64 0, .int .i64 0, .int .i64 0, .int .i64 0, .slice none 0 0] 26 (0, 0)), (some b7, .cells #[.int .u8 ek, .int .i64 ex, .int .i64 ey, .int .i64 ew, .int .i64 eh, .int .i64 U0, .slice Al le.length cl] 26 (0, 0)), (some b5, .cells #[.int .u8 ck, .int .i64 cx, .int .i64 cy, .int .i64 cw, .int .i64 ch, .int .i64 aQ, .slice A l.length cc] 26 (0, 0))] [(.slice (some ⟨s_.1, 0, none⟩) aY.f3.length s_.2.1, aY.f3)] [(.slice A l.length cc, l), (.slice (some ⟨ga, 0, none⟩) L.length cL, L)] [] w') ?_ ?_
   rotate_left
   ·intro nZ
    refine ER (i := 4) (j := 8) (Ni := some 28) (Nj := some 12) (bA 11 31) (bA 11 271) rfl rfl rfl rfl (yN az.out (by kernel_rfl)) (by decide) (by decide) (fun K hK => ?_) (fun K hK => ?_)
    ·skip
     refine lU Try.func91 #[.agg #[.int .u8 ck, .int .i64 cx, .int .i64 cy, .int .i64 cw, .int .i64 ch, .int .i64 aQ, .slice A l.length cc], .slice B pq.length cb] ?_
     refine (Bf ⟨ck, ⟨cx, cy, cw, ch⟩, aQ, l⟩ pq aY HAT.out RN.out HZ.out (S.out.tree _ (.head _)) (Kd.eY Qi.out S.out.below) Qh.out).mono ?_
     rintro e mQ ⟨Az, cz, rfl, h1, hb⟩
     refine ⟨_, rfl, ?_⟩
     obtain ⟨gr, Og, ev, _⟩ := Kd.sN h1 YE.out
     injection ev with e1 e2 e3
     subst e1
     clear e2 e3
     replace S := ae.mk (S.out.xK h1 hb)
     clear h1 hb
     refine hK.out _ _ S.out.free.dC (fun hHeld => ?_)
     clear hK K
     refine fJ 28 ?_
     refine aJ 5 23 (bA 11 63) az ?_
     refine aJ 6 29 (bA 11 127) az ?_
     refine aJ 7 30 (bA 11 255) az ?_
     refine kW 8 (some 12) (bA 11 511) az (fun K hK => ?_)
     refine lM ?hg (N := 12) ?hd (cs := #[.int .u8 0, .int .i64 0, .int .i64 0, .int .i64 0, .int .i64 0, .int .i64 0, .slice none 0 0]) (t := 26) ?hr ?_; (case hd => rfl); (case hg => rfl); (case hr => first | (go_simp; done) | (go_simp; rfl))
     intro b12 hg o6 hbox hb
     replace S := ae.mk (S.out.box hg hbox hb)
     clear hg hbox hb
     refine hK.out _ _ S.out.f_.free.dC (fun hHeld => ?_)
     clear hK K
     refine fJ 12 ?_
     exact pM (by simp only [kE, Act.put, List.setIfInBounds_toArray, List.set_cons_zero, List.set_cons_succ] <;> rfl) (nZ (gr, cz, b12) _ S.out)
    ·skip
     refine lM ?hg (N := 12) ?hd (cs := #[.int .u8 0, .int .i64 0, .int .i64 0, .int .i64 0, .int .i64 0, .int .i64 0, .slice none 0 0]) (t := 26) ?hr ?_; (case hd => rfl); (case hg => rfl); (case hr => first | (go_simp; done) | (go_simp; rfl))
     intro b12 hg uy hbox hb
     replace S := ae.mk (S.out.box hg hbox hb)
     clear hg hbox hb
     refine hK.out _ _ S.out.f_ (fun hHeld => ?_)
     clear hK K
     refine fJ 12 ?_
     refine kW 4 (some 28) (bA 11 287) az (fun K hK => ?_)
     refine lU Try.func91 #[.agg #[.int .u8 ck, .int .i64 cx, .int .i64 cy, .int .i64 cw, .int .i64 ch, .int .i64 aQ, .slice A l.length cc], .slice B pq.length cb] ?_
     refine (Bf ⟨ck, ⟨cx, cy, cw, ch⟩, aQ, l⟩ pq aY HAT.out RN.out HZ.out (S.out.tree _ (.head _)) (Kd.eY Qi.out S.out.below) Qh.out).mono ?_
     rintro e xe ⟨Az, cz, rfl, h1, hb⟩
     refine ⟨_, rfl, ?_⟩
     obtain ⟨gr, Og, ev, _⟩ := Kd.sN h1 YE.out
     injection ev with e1 e2 e3
     subst e1
     clear e2 e3
     replace S := ae.mk (S.out.xK h1 hb)
     clear h1 hb
     refine hK.out _ _ S.out.f_.free.dC (fun hHeld => ?_)
     clear hK K
     refine fJ 28 ?_
     refine aJ 5 23 (bA 11 319) az ?_
     refine aJ 6 29 (bA 11 383) az ?_
     refine aJ 7 30 (bA 11 511) az ?_
     exact pM (by simp only [kE, Act.put, List.setIfInBounds_toArray, List.set_cons_zero, List.set_cons_succ] <;> rfl) (nZ (gr, cz, b12) _ S.out)
   rintro ⟨gr, cz, b12⟩ wj9 S1
   simp only [kE, Act.put, List.setIfInBounds_toArray, List.set_cons_zero, List.set_cons_succ]
   replace S := ae.mk S1
   clear S1 hHeld
   have hHeld := S.out.f_.free.dC
   refine uZ 9 none (bA 11 1023) az (fun K hK => ?_)
   refine xH 0 rfl 26 (.tmp 12) (.tmp 29) rfl #[.int .u8 aY.f0, .int .i64 aY.f1.f0, .int .i64 aY.f1.f1, .int .i64 aY.f1.f2, .int .i64 aY.f1.f3, .int .i64 aY.f2, .slice (some ⟨gr, 0, none⟩) aY.f3.length cz] (j := 0) (u := .agg #[.int .u8 aY.f0, .int .i64 aY.f1.f0, .int .i64 aY.f1.f1, .int .i64 aY.f1.f2, .int .i64 aY.f1.f3, .int .i64 aY.f2, .slice (some ⟨gr, 0, none⟩) aY.f3.length cz]) (bu := [.int .u8 aY.f0, .int .i64 aY.f1.f0, .int .i64 aY.f1.f1, .int .i64 aY.f1.f2, .int .i64 aY.f1.f3, .int .i64 aY.f2, .slice (some ⟨gr, 0, none⟩) aY.f3.length cz]) S.out (by rfl) rfl rfl rfl rfl (by kernel_rfl) (by simp [Value.oneCell']) (by first | decide | simp) rfl ?_
   intro uB S1
   simp only [List.set_cons_zero, List.set_cons_succ] at S1
   replace S := ae.mk S1
   clear S1
   refine hK.out _ _ ?_
   clear hK K
   refine aJ 10 13 (bA 11 2047) az ?_
   refine nz (jK az.out (by kernel_rfl)) ?_
   clear hHeld
   obtain ⟨Ij, Ik, Il, Io, Ip, Iq, DR⟩ := St.dS S (.head _)
   go_wp2_with (first
    | (refine bI (some 33) Try.func99 S (Qu (c := aY) HA.out (Kd.Du (base' := 0) (S.out.own _ (.head _)))) ?_; clear S; intro Dq S; clear Ij Ik Il Io Ip Iq DR; obtain ⟨Fp, iy, iC, iD, iE, qp, Fq⟩ := St.dS S jM; have Sm := (S.out.at eF 1).trans rfl; have Sr := (S.out.at eF 2).trans rfl; have Ir := (S.out.at eF 3).trans rfl; have Iu := (S.out.at eF 4).trans rfl)
    | (refine nG (some 68) Try.func102 (MO ⟨ck, ⟨cx, cy, cw, ch⟩, aQ, l⟩ ⟨ax - 1 + 2, ⟨ex, ey, ew, eh⟩, 0, L⟩ p z zL.out HZ.out y8.out (S.out.tree _ (.head _)) (S.out.tree _ bf) (Kd.eY HI.out S.out.below) HB.out) ?_; rintro e EW ⟨Ay, AV, rfl, h1, hb⟩; refine ⟨_, rfl, ?_⟩; replace S := ae.mk (S.out.res (Kd.Du (base' := 0) h1) hb); clear h1 hb; clear Fp iy iC iD iE qp Fq Sm Sr Ir Iu)
    | (refine boxS 16 _ 26 S ?_; clear S; intro b16 Kz S)
    | (refine fC 26 16 69 #[.int .u8 z.f0, .int .i64 z.f1.f0, .int .i64 z.f1.f1, .int .i64 z.f1.f2, .int .i64 z.f1.f3, .int .i64 z.f2, .slice Ay z.f3.length AV] 0 7 S ?_; clear S; intro KA S; obtain ⟨DT, DU, DV, DW, Oh, Oi, Oj⟩ := St.dS S (.head _))
    | (refine Pv 26 10 71 #[.int .u8 z.f0, .int .i64 z.f1.f0, .int .i64 z.f1.f1, .int .i64 z.f1.f2, .int .i64 z.f1.f3, .int .i64 z.f2, .slice Ay z.f3.length AV] 0 7 S ?_; clear S; intro Yu S; clear DT DU DV DW Oh Oi Oj)
    | fail)
   refine bodyPost_ret (results_cell_row rfl _ _ b10 26 _ (0, 0) _ rfl (S.out.blk _ eF _ rfl) Try.underlying26 rfl (by kernel_rfl)) rfl ?_
   exact ⟨_, _, rfl, S.out.GY (b0 := w.heap.size) (.head _), S.out.below⟩
  | true =>
   rw [ha, if_pos rfl] at hj
   obtain ⟨k, hk⟩ : ∃ k : Nat, rd p (n : Int) = (k : Int) := ⟨(rd p (n : Int)).toNat, (Int.toNat_of_nonneg hi0).symm⟩
   rw [hk, Int.toNat_natCast] at hj
   rw [hk] at hi0 hi1
   have hki : k < aY.f3.length := by omega
   obtain ⟨L', hRL⟩ : ∃ L', xY aY.f3 k L = L' := ⟨_, rfl⟩
   rw [hRL] at hj
   have hrz : dO L' ≤ dO aY.f3 + dO L := by rw [← hRL]; exact abE _ _ _
   have HRL := ae.mk hRL
   have HKI := ae.mk hki
   have acE := ae.mk (show aY.f3.length ≤ 900000 by have := Un.out; omega)
   have zL := ae.mk hj
   have y8 := ae.mk (show sz ⟨aY.f0, aY.f1, aY.f2, L'⟩ ≤ 1000000 by rw [bP]; show 1 + dO L' ≤ _; have := Un.out; have := hHL.out; omega)
   have HA := ae.mk ha
   have hkw : IntKind.i64.wrap ((k : Int) + 1) = (k : Int) + 1 := by have := acE.out; rw [IntKind.wrap_i64]; omega
   obtain ⟨FY, ek2, xi⟩ := Kd.sS HI.out (n : Int) (Int.natCast_nonneg _) (by omega)
   subst ek2
   have HNL := ae.mk (show (n : Int) < (p.length : Int) by omega)
   have hnp : (n : Int) < (p.length : Int) := HNL.out
   have als : n < p.length := by omega
   have y9 := ae.mk (fun (W : World) (h : Below w.heap.size w W) => (show W.cell? (FY.add n) = some (.int .i64 (k : Int)) by have h2 := Kd.sS (Kd.eY HI.out h) (n : Int) (Int.natCast_nonneg _) HNL.out; obtain ⟨ad, e1, e2⟩ := h2; injection e1 with e1; subst e1; simp only [Int.toNat_natCast] at e2; rw [e2, hk]))
   clear ha hj hnz hpz hpe hpl2 hi0 hi1 hp hn hpl hk hki hRL hrz xi
   obtain ⟨ck, ⟨cx, cy, cw, ch⟩, aQ, l⟩ := c
   obtain ⟨ek, ⟨ex, ey, ew, eh⟩, U0, le⟩ := leaf
   simp only [] at S HZ Un zL y8 ⊢
   go_enter Try.func166, Try.ntmps166
   go_wp2_with (first
    | (refine boxS 5 _ 26 S ?_; clear S; intro b5 eU S)
    | (refine boxS 7 _ 26 S ?_; clear S; intro b7 fV S)
    | (refine boxS 10 _ 26 S ?_; clear S; intro b10 gz S)
    | fail)
   refine kX (n := 11) (S := fun w' => St w _ _ _ _ _ w') (ds := [9]) (bA 11 0) (by kernel_rfl) rfl rfl (S.out.call (bz (Below.refl _ _))) (fun hHeld => ?_); refine ik uP.Hr uP.Cj (fun az fZ => ?_)
   replace S := ae.mk (S.out.call (bz (Below.refl _ _)))
   generalize gz.drew = wd4 at S hHeld ⊢
   refine eQ 0 24 (bA 11 1) az fZ hHeld ?_ (hv := by intro w' hs_; have Fp := (hs_.at eF 0).trans rfl; have iy := (hs_.at eF 1).trans rfl; have iC := (hs_.at eF 2).trans rfl; have iD := (hs_.at eF 3).trans rfl; have iE := (hs_.at eF 4).trans rfl; have qp := (hs_.at eF 5).trans rfl; have Fq := (hs_.at eF 6).trans rfl; go_simp; with_reducible rfl)
   refine aJ 1 25 (bA 11 3) az ?_
   refine aJ 2 26 (bA 11 7) az ?_
   refine aJ 3 27 (bA 11 15) az ?_
   refine FI (σ := Nat × Nat × Nat) 2 (bA 11 511) (fun s_ => [(28, .tuple #[.agg #[.int .u8 aY.f0, .int .i64 aY.f1.f0, .int .i64 aY.f1.f1, .int .i64 aY.f1.f2, .int .i64 aY.f1.f3, .int .i64 aY.f2, .slice (some ⟨s_.1, 0, none⟩) aY.f3.length s_.2.1], .bool true]), (23, .tuple #[.agg #[.int .u8 aY.f0, .int .i64 aY.f1.f0, .int .i64 aY.f1.f1, .int .i64 aY.f1.f2, .int .i64 aY.f1.f3, .int .i64 aY.f2, .slice (some ⟨s_.1, 0, none⟩) aY.f3.length s_.2.1], .bool true]), (29, .agg #[.int .u8 aY.f0, .int .i64 aY.f1.f0, .int .i64 aY.f1.f1, .int .i64 aY.f1.f2, .int .i64 aY.f1.f3, .int .i64 aY.f2, .slice (some ⟨s_.1, 0, none⟩) aY.f3.length s_.2.1]), (30, .bool true), (12, .pointer (some ⟨s_.2.2, 0, none⟩))]) (fun s_ w' => St w P [(some s_.2.2, .cells #[.int .u8 0, .int .i64 0, .int .i64 0, .int .i64 0, .int .i64 0, .int .i64 0, .slice none 0 0] 26 (0, 0)), (some b10, .cells #[.int .u8 0, .int .i64 0, .int .i64 0, .int .i64 0, .int .i64 0, .int .i64 0, .slice none 0 0] 26 (0, 0)), (some b7, .cells #[.int .u8 ek, .int .i64 ex, .int .i64 ey, .int .i64 ew, .int .i64 eh, .int .i64 U0, .slice Al le.length cl] 26 (0, 0)), (some b5, .cells #[.int .u8 ck, .int .i64 cx, .int .i64 cy, .int .i64 cw, .int .i64 ch, .int .i64 aQ, .slice A l.length cc] 26 (0, 0))] [(.slice (some ⟨s_.1, 0, none⟩) aY.f3.length s_.2.1, aY.f3)] [(.slice A l.length cc, l), (.slice (some ⟨ga, 0, none⟩) L.length cL, L)] [] w') ?_ ?_
   rotate_left
   ·intro nZ
    refine ER (i := 4) (j := 8) (Ni := some 28) (Nj := some 12) (bA 11 31) (bA 11 271) rfl rfl rfl rfl (yN az.out (by kernel_rfl)) (by decide) (by decide) (fun K hK => ?_) (fun K hK => ?_)
    ·skip
     refine lU Try.func91 #[.agg #[.int .u8 ck, .int .i64 cx, .int .i64 cy, .int .i64 cw, .int .i64 ch, .int .i64 aQ, .slice A l.length cc], .slice (some FY) pq.length cb] ?_
     refine (Bf ⟨ck, ⟨cx, cy, cw, ch⟩, aQ, l⟩ pq aY HAT.out RN.out HZ.out (S.out.tree _ (.head _)) (Kd.eY Qi.out S.out.below) Qh.out).mono ?_
     rintro e mQ ⟨Az, cz, rfl, h1, hb⟩
     refine ⟨_, rfl, ?_⟩
     obtain ⟨gr, Og, ev, _⟩ := Kd.sN h1 YE.out
     injection ev with e1 e2 e3
     subst e1
     clear e2 e3
     replace S := ae.mk (S.out.xK h1 hb)
     clear h1 hb
     refine hK.out _ _ S.out.free.dC (fun hHeld => ?_)
     clear hK K
     refine fJ 28 ?_
     refine aJ 5 23 (bA 11 63) az ?_
     refine aJ 6 29 (bA 11 127) az ?_
     refine aJ 7 30 (bA 11 255) az ?_
     refine kW 8 (some 12) (bA 11 511) az (fun K hK => ?_)
     refine lM ?hg (N := 12) ?hd (cs := #[.int .u8 0, .int .i64 0, .int .i64 0, .int .i64 0, .int .i64 0, .int .i64 0, .slice none 0 0]) (t := 26) ?hr ?_; (case hd => rfl); (case hg => rfl); (case hr => first | (go_simp; done) | (go_simp; rfl))
     intro b12 hg o6 hbox hb
     replace S := ae.mk (S.out.box hg hbox hb)
     clear hg hbox hb
     refine hK.out _ _ S.out.f_.free.dC (fun hHeld => ?_)
     clear hK K
     refine fJ 12 ?_
     exact pM (by simp only [kE, Act.put, List.setIfInBounds_toArray, List.set_cons_zero, List.set_cons_succ] <;> rfl) (nZ (gr, cz, b12) _ S.out)
    ·skip
     refine lM ?hg (N := 12) ?hd (cs := #[.int .u8 0, .int .i64 0, .int .i64 0, .int .i64 0, .int .i64 0, .int .i64 0, .slice none 0 0]) (t := 26) ?hr ?_; (case hd => rfl); (case hg => rfl); (case hr => first | (go_simp; done) | (go_simp; rfl))
     intro b12 hg uy hbox hb
     replace S := ae.mk (S.out.box hg hbox hb)
     clear hg hbox hb
     refine hK.out _ _ S.out.f_ (fun hHeld => ?_)
     clear hK K
     refine fJ 12 ?_
     refine kW 4 (some 28) (bA 11 287) az (fun K hK => ?_)
     refine lU Try.func91 #[.agg #[.int .u8 ck, .int .i64 cx, .int .i64 cy, .int .i64 cw, .int .i64 ch, .int .i64 aQ, .slice A l.length cc], .slice (some FY) pq.length cb] ?_
     refine (Bf ⟨ck, ⟨cx, cy, cw, ch⟩, aQ, l⟩ pq aY HAT.out RN.out HZ.out (S.out.tree _ (.head _)) (Kd.eY Qi.out S.out.below) Qh.out).mono ?_
     rintro e xe ⟨Az, cz, rfl, h1, hb⟩
     refine ⟨_, rfl, ?_⟩
     obtain ⟨gr, Og, ev, _⟩ := Kd.sN h1 YE.out
     injection ev with e1 e2 e3
     subst e1
     clear e2 e3
     replace S := ae.mk (S.out.xK h1 hb)
     clear h1 hb
     refine hK.out _ _ S.out.f_.free.dC (fun hHeld => ?_)
     clear hK K
     refine fJ 28 ?_
     refine aJ 5 23 (bA 11 319) az ?_
     refine aJ 6 29 (bA 11 383) az ?_
     refine aJ 7 30 (bA 11 511) az ?_
     exact pM (by simp only [kE, Act.put, List.setIfInBounds_toArray, List.set_cons_zero, List.set_cons_succ] <;> rfl) (nZ (gr, cz, b12) _ S.out)
   rintro ⟨gr, cz, b12⟩ wj9 S1
   simp only [kE, Act.put, List.setIfInBounds_toArray, List.set_cons_zero, List.set_cons_succ]
   replace S := ae.mk S1
   clear S1 hHeld
   have hHeld := S.out.f_.free.dC
   refine uZ 9 none (bA 11 1023) az (fun K hK => ?_)
   refine xH 0 rfl 26 (.tmp 12) (.tmp 29) rfl #[.int .u8 aY.f0, .int .i64 aY.f1.f0, .int .i64 aY.f1.f1, .int .i64 aY.f1.f2, .int .i64 aY.f1.f3, .int .i64 aY.f2, .slice (some ⟨gr, 0, none⟩) aY.f3.length cz] (j := 0) (u := .agg #[.int .u8 aY.f0, .int .i64 aY.f1.f0, .int .i64 aY.f1.f1, .int .i64 aY.f1.f2, .int .i64 aY.f1.f3, .int .i64 aY.f2, .slice (some ⟨gr, 0, none⟩) aY.f3.length cz]) (bu := [.int .u8 aY.f0, .int .i64 aY.f1.f0, .int .i64 aY.f1.f1, .int .i64 aY.f1.f2, .int .i64 aY.f1.f3, .int .i64 aY.f2, .slice (some ⟨gr, 0, none⟩) aY.f3.length cz]) S.out (by rfl) rfl rfl rfl rfl (by kernel_rfl) (by simp [Value.oneCell']) (by first | decide | simp) rfl ?_
   intro uB S1
   simp only [List.set_cons_zero, List.set_cons_succ] at S1
   replace S := ae.mk S1
   clear S1
   refine hK.out _ _ ?_
   clear hK K
   refine aJ 10 13 (bA 11 2047) az ?_
   refine nz (jK az.out (by kernel_rfl)) ?_
   clear hHeld
   obtain ⟨Ij, Ik, Il, Io, Ip, Iq, DR⟩ := St.dS S (.head _)
   go_wp2_with (first
    | (refine bI (some 33) Try.func99 S (Qu (c := aY) HA.out (Kd.Du (base' := 0) (S.out.own _ (.head _)))) ?_; clear S; intro Dq S; clear Ij Ik Il Io Ip Iq DR)
    | fail)
   refine kX (n := 15) (S := fun w' => St w _ _ _ _ _ w') (ds := [14]) (bA 15 0) (by kernel_rfl) rfl rfl (S.out.free.dC.call (bz (Below.refl _ _))) (fun hHeld => ?_); refine ik yH.PO yH.Ie (fun az fZ => ?_)
   replace S := ae.mk (S.out.call (bz (Below.refl _ _)))
   generalize Dq.drew = alI at S hHeld ⊢
   refine aJ 0 34 (bA 15 1) az ?_
   refine eQ 1 35 (bA 15 3) az fZ hHeld ?_ (hv := by intro w' hs_; have DR := (hs_.at (.head _) 6).trans rfl; go_simp; with_reducible rfl)
   refine aJ 2 36 (bA 15 7) az ?_
   refine aJ 3 37 (bA 15 15) az ?_
   refine aJ 4 38 (bA 15 31) az ?_
   refine eQ 5 39 (bA 15 63) az fZ hHeld ?_ (hv := by intro w' hs_; have xi := y9.out _ hs_.below; go_simp; with_reducible rfl)
   refine aJ 6 40 (bA 15 127) az ?_
   refine aJ 7 41 (bA 15 255) az ?_
   refine aJ 8 42 (bA 15 511) az ?_
   refine eQ 9 43 (bA 15 1023) az fZ hHeld ?_ (hv := by intro w' hs_; have xi := y9.out _ hs_.below; go_simp; with_reducible rfl)
   refine aJ 10 44 (bA 15 2047) az ?_
   refine aJ 11 45 (bA 15 4095) az ?_
   refine kW 12 (some 46) (bA 15 8191) az (fun K hK => ?_)
   refine lU Try.func189 #[.slice (some ⟨gr, 0, none⟩) aY.f3.length cz, .int .i64 (k : Int), .int .i64 ((k : Int) + 1), .slice (some ⟨ga, 0, none⟩) L.length cL] ?_
   refine (ae8 HRL.out (abD HKI.out acE.out HL2.out HGA.out HCA.out S.out bf)).mono ?_
   rintro e Kz ⟨Aq, cq, rfl, S1⟩
   refine ⟨_, rfl, ?_⟩
   replace S := ae.mk S1.free
   clear S1
   refine hK.out _ _ S.out.dC (fun hHeld => ?_)
   clear hK K
   refine fJ 46 ?_
   refine aJ 13 47 (bA 15 16383) az ?_
   refine uZ 14 none (bA 15 32767) az (fun K hK => ?_)
   refine xH 0 rfl 24 (.tmp 47) (.tmp 46) rfl #[.int .u8 aY.f0, .int .i64 aY.f1.f0, .int .i64 aY.f1.f1, .int .i64 aY.f1.f2, .int .i64 aY.f1.f3, .int .i64 aY.f2, .slice Aq L'.length cq] (j := 6) (u := .slice Aq L'.length cq) (bu := [.slice Aq L'.length cq]) S.out (by rfl) rfl rfl rfl rfl (by kernel_rfl) (by simp [Value.oneCell']) (by first | decide | simp) rfl ?_
   intro KA S1
   simp only [List.set_cons_zero, List.set_cons_succ] at S1
   replace S := ae.mk S1
   clear S1
   refine hK.out _ _ ?_
   clear hK K
   refine nz (jK az.out (by kernel_rfl)) ?_
   clear hHeld
   go_wp2
   refine kX (n := 12) (S := fun w' => St w _ _ _ _ _ w') (ds := [10]) (bA 12 0) (by kernel_rfl) rfl rfl (S.out.call (bz (Below.refl _ _))) (fun hHeld => ?_); refine ik yI.tab6 yI.AU (fun az fZ => ?_)
   replace S := ae.mk (S.out.call (bz (Below.refl _ _)))
   generalize KA.drew = alK at S hHeld ⊢
   refine eQ 0 49 (bA 12 1) az fZ hHeld ?_ (hv := by intro w' hs_; have Fp := (hs_.at jM 0).trans rfl; have iy := (hs_.at jM 1).trans rfl; have iC := (hs_.at jM 2).trans rfl; have iD := (hs_.at jM 3).trans rfl; have iE := (hs_.at jM 4).trans rfl; have qp := (hs_.at jM 5).trans rfl; have Fq := (hs_.at jM 6).trans rfl; go_simp; with_reducible rfl)
   refine eQ 1 50 (bA 12 3) az fZ hHeld ?_ (hv := by intro w' hs_; have Ij := (hs_.at (.head _) 0).trans rfl; have Ik := (hs_.at (.head _) 1).trans rfl; have Il := (hs_.at (.head _) 2).trans rfl; have Io := (hs_.at (.head _) 3).trans rfl; have Ip := (hs_.at (.head _) 4).trans rfl; have Iq := (hs_.at (.head _) 5).trans rfl; have DR := (hs_.at (.head _) 6).trans rfl; go_simp; with_reducible rfl)
   refine aJ 2 51 (bA 12 7) az ?_
   refine aJ 3 52 (bA 12 15) az ?_
   refine aJ 4 53 (bA 12 31) az ?_
   refine FI (σ := Option Addr × Nat × Nat) 2 (bA 12 1023) (fun s_ => [(54, .tuple #[.agg #[.int .u8 z.f0, .int .i64 z.f1.f0, .int .i64 z.f1.f1, .int .i64 z.f1.f2, .int .i64 z.f1.f3, .int .i64 z.f2, .slice s_.1 z.f3.length s_.2.1], .bool true]), (48, .tuple #[.agg #[.int .u8 z.f0, .int .i64 z.f1.f0, .int .i64 z.f1.f1, .int .i64 z.f1.f2, .int .i64 z.f1.f3, .int .i64 z.f2, .slice s_.1 z.f3.length s_.2.1], .bool true]), (55, .agg #[.int .u8 z.f0, .int .i64 z.f1.f0, .int .i64 z.f1.f1, .int .i64 z.f1.f2, .int .i64 z.f1.f3, .int .i64 z.f2, .slice s_.1 z.f3.length s_.2.1]), (56, .bool true), (14, .pointer (some ⟨s_.2.2, 0, none⟩))]) (fun s_ w' => St w P [(some s_.2.2, .cells #[.int .u8 0, .int .i64 0, .int .i64 0, .int .i64 0, .int .i64 0, .int .i64 0, .slice none 0 0] 26 (0, 0)), (some b12, .cells #[.int .u8 aY.f0, .int .i64 aY.f1.f0, .int .i64 aY.f1.f1, .int .i64 aY.f1.f2, .int .i64 aY.f1.f3, .int .i64 aY.f2, .slice Aq L'.length cq] 26 (0, 0)), (some b10, .cells #[.int .u8 0, .int .i64 0, .int .i64 0, .int .i64 0, .int .i64 0, .int .i64 0, .slice none 0 0] 26 (0, 0)), (some b7, .cells #[.int .u8 ek, .int .i64 ex, .int .i64 ey, .int .i64 ew, .int .i64 eh, .int .i64 U0, .slice Al le.length cl] 26 (0, 0)), (some b5, .cells #[.int .u8 ck, .int .i64 cx, .int .i64 cy, .int .i64 cw, .int .i64 ch, .int .i64 aQ, .slice A l.length cc] 26 (0, 0))] [] [(.slice s_.1 z.f3.length s_.2.1, z.f3), (.slice Aq L'.length cq, L'), (.slice A l.length cc, l), (.slice (some ⟨ga, 0, none⟩) L.length cL, L)] [] w') ?_ ?_
   rotate_left
   ·intro nZ
    refine ER (i := 5) (j := 9) (Ni := some 54) (Nj := some 14) (bA 12 63) (bA 12 543) rfl rfl rfl rfl (yN az.out (by kernel_rfl)) (by decide) (by decide) (fun K hK => ?_) (fun K hK => ?_)
    ·skip
     refine lU Try.func102 #[.agg #[.int .u8 ck, .int .i64 cx, .int .i64 cy, .int .i64 cw, .int .i64 ch, .int .i64 aQ, .slice A l.length cc], .agg #[.int .u8 aY.f0, .int .i64 aY.f1.f0, .int .i64 aY.f1.f1, .int .i64 aY.f1.f2, .int .i64 aY.f1.f3, .int .i64 aY.f2, .slice Aq L'.length cq], .slice (some FY) pq.length cb] ?_
     refine (MO ⟨ck, ⟨cx, cy, cw, ch⟩, aQ, l⟩ ⟨aY.f0, aY.f1, aY.f2, L'⟩ pq z zL.out HZ.out y8.out (S.out.tree _ bf) (S.out.tree _ (.head _)) (Kd.eY Qi.out S.out.below) Qh.out).mono ?_
     rintro e afs ⟨Ay, AV, rfl, h1, hb⟩
     refine ⟨_, rfl, ?_⟩
     replace S := ae.mk (S.out.res (Kd.Du (base' := 0) h1) hb)
     clear h1 hb
     refine hK.out _ _ S.out.dC (fun hHeld => ?_)
     clear hK K
     refine fJ 54 ?_
     refine aJ 6 48 (bA 12 127) az ?_
     refine aJ 7 55 (bA 12 255) az ?_
     refine aJ 8 56 (bA 12 511) az ?_
     refine kW 9 (some 14) (bA 12 1023) az (fun K hK => ?_)
     refine lM ?hg (N := 14) ?hd (cs := #[.int .u8 0, .int .i64 0, .int .i64 0, .int .i64 0, .int .i64 0, .int .i64 0, .slice none 0 0]) (t := 26) ?hr ?_; (case hd => rfl); (case hg => rfl); (case hr => first | (go_simp; done) | (go_simp; rfl))
     intro b14 hg aft hbox hb
     replace S := ae.mk (S.out.box hg hbox hb)
     clear hg hbox hb
     refine hK.out _ _ S.out.f_.dC (fun hHeld => ?_)
     clear hK K
     refine fJ 14 ?_
     exact pM (by simp only [kE, Act.put, List.setIfInBounds_toArray, List.set_cons_zero, List.set_cons_succ] <;> rfl) (nZ (Ay, AV, b14) _ S.out)
    ·skip
     refine lM ?hg (N := 14) ?hd (cs := #[.int .u8 0, .int .i64 0, .int .i64 0, .int .i64 0, .int .i64 0, .int .i64 0, .slice none 0 0]) (t := 26) ?hr ?_; (case hd => rfl); (case hg => rfl); (case hr => first | (go_simp; done) | (go_simp; rfl))
     intro b14 hg afu hbox hb
     replace S := ae.mk (S.out.box hg hbox hb)
     clear hg hbox hb
     refine hK.out _ _ S.out.f_ (fun hHeld => ?_)
     clear hK K
     refine fJ 14 ?_
     refine kW 5 (some 54) (bA 12 575) az (fun K hK => ?_)
     refine lU Try.func102 #[.agg #[.int .u8 ck, .int .i64 cx, .int .i64 cy, .int .i64 cw, .int .i64 ch, .int .i64 aQ, .slice A l.length cc], .agg #[.int .u8 aY.f0, .int .i64 aY.f1.f0, .int .i64 aY.f1.f1, .int .i64 aY.f1.f2, .int .i64 aY.f1.f3, .int .i64 aY.f2, .slice Aq L'.length cq], .slice (some FY) pq.length cb] ?_
     refine (MO ⟨ck, ⟨cx, cy, cw, ch⟩, aQ, l⟩ ⟨aY.f0, aY.f1, aY.f2, L'⟩ pq z zL.out HZ.out y8.out (S.out.tree _ bf) (S.out.tree _ (.head _)) (Kd.eY Qi.out S.out.below) Qh.out).mono ?_
     rintro e afv ⟨Ay, AV, rfl, h1, hb⟩
     refine ⟨_, rfl, ?_⟩
     replace S := ae.mk (S.out.res (Kd.Du (base' := 0) h1) hb)
     clear h1 hb
     refine hK.out _ _ S.out.f_.dC (fun hHeld => ?_)
     clear hK K
     refine fJ 54 ?_
     refine aJ 6 48 (bA 12 639) az ?_
     refine aJ 7 55 (bA 12 767) az ?_
     refine aJ 8 56 (bA 12 1023) az ?_
     exact pM (by simp only [kE, Act.put, List.setIfInBounds_toArray, List.set_cons_zero, List.set_cons_succ] <;> rfl) (nZ (Ay, AV, b14) _ S.out)
   rintro ⟨Ay, AV, b14⟩ aiq S1
   simp only [kE, Act.put, List.setIfInBounds_toArray, List.set_cons_zero, List.set_cons_succ]
   replace S := ae.mk S1
   clear S1 hHeld
   have hHeld := S.out.f_.dC
   refine uZ 10 none (bA 12 2047) az (fun K hK => ?_)
   refine xH 0 rfl 26 (.tmp 14) (.tmp 55) rfl #[.int .u8 z.f0, .int .i64 z.f1.f0, .int .i64 z.f1.f1, .int .i64 z.f1.f2, .int .i64 z.f1.f3, .int .i64 z.f2, .slice Ay z.f3.length AV] (j := 0) (u := .agg #[.int .u8 z.f0, .int .i64 z.f1.f0, .int .i64 z.f1.f1, .int .i64 z.f1.f2, .int .i64 z.f1.f3, .int .i64 z.f2, .slice Ay z.f3.length AV]) (bu := [.int .u8 z.f0, .int .i64 z.f1.f0, .int .i64 z.f1.f1, .int .i64 z.f1.f2, .int .i64 z.f1.f3, .int .i64 z.f2, .slice Ay z.f3.length AV]) S.out (by rfl) rfl rfl rfl rfl (by kernel_rfl) (by simp [Value.oneCell']) (by first | decide | simp) rfl ?_
   intro afw S1
   simp only [List.set_cons_zero, List.set_cons_succ] at S1
   replace S := ae.mk S1
   clear S1
   refine hK.out _ _ ?_
   clear hK K
   refine aJ 11 15 (bA 12 4095) az ?_
   refine nz (jK az.out (by kernel_rfl)) ?_
   clear hHeld
   obtain ⟨jd, je, jf, jg, jh, ji, jk⟩ := St.dS S (.head _)
   go_wp2_with (first
    | (refine Pv 26 10 57 #[.int .u8 z.f0, .int .i64 z.f1.f0, .int .i64 z.f1.f1, .int .i64 z.f1.f2, .int .i64 z.f1.f3, .int .i64 z.f2, .slice Ay z.f3.length AV] 0 7 S ?_; clear S; intro aim S; clear jd je jf jg jh ji jk)
    | fail)
   refine bodyPost_ret (results_cell_row rfl _ _ b10 26 _ (0, 0) _ rfl (S.out.blk _ eF _ rfl) Try.underlying26 rfl (by kernel_rfl)) rfl ?_
   exact ⟨_, _, rfl, S.out.GY (b0 := w.heap.size) (.head _), S.out.below⟩
theorem VT (rx ry rw rh id : Int) (w : World) : Calls Try.prog 78 #[.agg #[.int .i64 rx, .int .i64 ry, .int .i64 rw, .int .i64 rh], .int .i64 id] w fun e w' => e = .returned (.agg #[.int .u8 1, .int .i64 rx, .int .i64 ry, .int .i64 rw, .int .i64 rh, .int .i64 id, .slice none 0 0]) ∧ Below w.heap.size w w' := by
 have S := ae.mk (St.start (ts := []) (b0 := w.heap.size) (w := w) (P := fun _ => True) (fun t ht => by cases ht))
 go_enter Try.func78, Try.ntmps78
 go_wp2_with (first
  | (refine boxS 2 _ 23 S ?_; clear S; intro b2 eU S)
  | (refine boxS 4 _ 26 S ?_; clear S; intro b4 fV S; obtain ⟨qR, qU, qV, qW⟩ := St.at4 S bf)
  | (refine fC 26 4 7 #[.int .u8 1, .int .i64 rx, .int .i64 ry, .int .i64 rw, .int .i64 rh, .int .i64 id, .slice none 0 0] 0 7 S ?_; clear S; intro gz S; clear qR qU qV qW)
  | fail)
 refine bodyPost_ret (results_cell_row rfl _ _ b4 26 _ (0, 0) _ rfl (S.out.blk _ (.head _) _ rfl) Try.underlying26 rfl (by kernel_rfl)) rfl ?_
 exact ⟨rfl, S.out.below⟩
theorem Dj (rx ry rw rh ax n id W1 H1 : Int) (hW : W1 = if ax = 1 then n else rw) (hH : H1 = if ax = 1 then rh else n) (w : World) : Calls Try.prog 190 #[.agg #[.int .i64 rx, .int .i64 ry, .int .i64 rw, .int .i64 rh], .int .u8 ax, .int .i64 n, .int .i64 id] w fun e w' => e = .returned (.agg #[.int .u8 1, .int .i64 rx, .int .i64 ry, .int .i64 W1, .int .i64 H1, .int .i64 id, .slice none 0 0]) ∧ Below w.heap.size w w' := by
 have S := ae.mk (St.start (ts := []) (b0 := w.heap.size) (w := w) (P := fun _ => True) (fun t ht => by cases ht))
 by_cases hx : ax = 1
 case pos =>
  rw [if_pos hx] at hW hH
  rw [hW, hH]
  obtain ⟨hxa, hxb, hxd⟩ := vN (a := ax) (b := 1) (by omega)
  clear hx hW hH
  go_enter Try.func190, Try.ntmps190
  go_wp2_with (first
   | (refine boxS 4 _ 23 S ?_; clear S; intro b4 eU S)
   | (refine boxS 8 _ 26 S ?_; clear S; intro b8 fV S)
   | (refine ru 3 12 11 #[.int .i64 rx, .int .i64 ry, .int .i64 n, .int .i64 rh] 2 1 S ?_; clear S; intro gz S; obtain ⟨oV, ql, qm, qo⟩ := St.at4 S bf)
   | (refine bI (some 17) Try.func78 S (VT rx ry n rh id _) ?_; clear S; intro lI S; clear oV ql qm qo)
   | (refine fC 26 8 17 #[.int .u8 1, .int .i64 rx, .int .i64 ry, .int .i64 n, .int .i64 rh, .int .i64 id, .slice none 0 0] 0 7 S ?_; clear S; intro mQ S)
   | fail)
  refine bodyPost_ret (results_cell_row rfl _ _ b8 26 _ (0, 0) _ rfl (S.out.blk _ (.head _) _ rfl) Try.underlying26 rfl (by kernel_rfl)) rfl ?_
  exact ⟨rfl, S.out.below⟩
 case neg =>
  rw [if_neg hx] at hW hH
  rw [hW, hH]
  obtain ⟨hxa, hxb, hxd⟩ := eqF (a := ax) (b := 1) (by omega)
  clear hx hW hH
  go_enter Try.func190, Try.ntmps190
  go_wp2_with (first
   | (refine boxS 4 _ 23 S ?_; clear S; intro b4 eU S)
   | (refine boxS 8 _ 26 S ?_; clear S; intro b8 fV S)
   | (refine ru 3 14 13 #[.int .i64 rx, .int .i64 ry, .int .i64 rw, .int .i64 n] 3 1 S ?_; clear S; intro gz S; obtain ⟨oV, ql, qm, qo⟩ := St.at4 S bf)
   | (refine bI (some 17) Try.func78 S (VT rx ry rw n id _) ?_; clear S; intro lI S; clear oV ql qm qo)
   | (refine fC 26 8 17 #[.int .u8 1, .int .i64 rx, .int .i64 ry, .int .i64 rw, .int .i64 n, .int .i64 id, .slice none 0 0] 0 7 S ?_; clear S; intro mQ S)
   | fail)
  refine bodyPost_ret (results_cell_row rfl _ _ b8 26 _ (0, 0) _ rfl (S.out.blk _ (.head _) _ rfl) Try.underlying26 rfl (by kernel_rfl)) rfl ?_
  exact ⟨rfl, S.out.below⟩
end Go.Proofs.Ytfdmfgaiblfbhaa.P
