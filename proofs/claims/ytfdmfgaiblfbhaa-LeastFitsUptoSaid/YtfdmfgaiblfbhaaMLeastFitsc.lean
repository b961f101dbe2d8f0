/- LeastFits: part 3 of 7 of this claim's texts, one behind the other. The words of the kit's printer stand in it cut down, by a program, to those that are used. -/
import Derived.Test.YtfdmfgaiblfbhaaProg
import Derived.Below
import Derived.Deep.Draws
import Derived.Deep.AppendLies
import Derived.Maps.AppendAt
import Derived.OwnWalk
import Derived.Laws.BytesArg
import Derived.Laws.MakeOwn
import Derived.Laws.OwnMore
import Derived.Deep.OwnRows
import Derived.Tactics
import Derived.Lib.ConvBytes
import Derived.Laws.Slices
import Derived.WalkKit
import Derived.KernelRfl
import Derived.RowKit3
import Derived.Deep.LoopGhost
import Derived.Deep.QuietTactic
import Derived.BigQuiet
import Derived.WideLaws
import Derived.Deep.DeepCutAuto
import Derived.Deep.CutBlock
import Derived.Deep.RegionHeld3
import Derived.Laws.Rows
import Derived.Lib.AppendStr
import Derived.ArgAppend
import Derived.Laws.IdiomCopy
import Derived.OrdersHeld
import Derived.Laws.BitsLemmas
import Derived.RowKit
import Derived.Test.YtfdmfgaiblfbhaaMLeastFitsa
import Derived.Test.YtfdmfgaiblfbhaaMLeastFitsb
namespace Go.Proofs.Ytfdmfgaiblfbhaa.P
open Go.RowKit Go.Proofs.YtfdmfgaiblfbhaaW.PrintWords Go.Proofs.YtfdmfgaiblfbhaaW.PrintLast Go.Proofs.YtfdmfgaiblfbhaaW.PrintMore
attribute [local go_sem] max2_int min2_int max_two min_two max_three min_three max_four min_four   -- for this text's walks alone
set_option linter.unusedVariables false
set_option linter.unusedSimpArgs false



def errW : Option Int → Value
  | none => .nilIface
  | some c => .iface 0 (.int .i64 c)
theorem info3 : (Try.prog.info? 3).map (fun i => (i.zero, i.size, i.bytes)) = some (some (.int .i64 0), 1, 8) := by kernel_rfl
theorem info23 : (Try.prog.info? 23).map (fun i => (i.zero, i.size, i.bytes)) = some (some (.agg #[(.int .i64 0), (.int .i64 0), (.int .i64 0), (.int .i64 0)]), 4, 32) := by kernel_rfl
theorem info26 : (Try.prog.info? 26).map (fun i => (i.zero, i.size, i.bytes)) = some (some (.agg #[(.int .u8 0), (.int .i64 0), (.int .i64 0), (.int .i64 0), (.int .i64 0), (.int .i64 0), (.slice none 0 0)]), 7, 72) := by kernel_rfl
-- the values' own types
/-! #### struct type 23 -/
structure S23 where
  f0 : Int
  f1 : Int
  f2 : Int
  f3 : Int
def z23 : S23 := ⟨(0 : Int), (0 : Int), (0 : Int), (0 : Int)⟩
def k23 : Kd S23 := Kd.iso (Kd.pair (Kd.int .i64) (Kd.pair (Kd.int .i64) (Kd.pair (Kd.int .i64) (Kd.int .i64)))) (fun x : S23 => (x.f0, x.f1, x.f2, x.f3))
theorem k23_heap : Kd.Heap k23 := Kd.heap_iso _ (Kd.heap_pair (Kd.heap_int .i64) (Kd.heap_pair (Kd.heap_int .i64) (Kd.heap_pair (Kd.heap_int .i64) (Kd.heap_int .i64))))
theorem k23_open {w : World} {x : S23} {cs : List Value} (h : k23.K w x cs) : cs = [.int .i64 x.f0, .int .i64 x.f1, .int .i64 x.f2, .int .i64 x.f3] := by
  obtain ⟨_, _, rfl, rfl, ⟨_, _, rfl, rfl, ⟨_, _, rfl, rfl, rfl⟩⟩⟩ := h
  exact rfl
theorem k23_mk (w : World) (x : S23)  : k23.K w x [.int .i64 x.f0, .int .i64 x.f1, .int .i64 x.f2, .int .i64 x.f3] := ⟨[.int .i64 x.f0], [.int .i64 x.f1, .int .i64 x.f2, .int .i64 x.f3], rfl, rfl, ⟨[.int .i64 x.f1], [.int .i64 x.f2, .int .i64 x.f3], rfl, rfl, ⟨[.int .i64 x.f2], [.int .i64 x.f3], rfl, rfl, rfl⟩⟩⟩
theorem k23_mkM (w : World) (base : Nat) (ok : Nat → Prop) (x : S23)  : k23.M w base ok x [.int .i64 x.f0, .int .i64 x.f1, .int .i64 x.f2, .int .i64 x.f3] := ⟨[.int .i64 x.f0], [.int .i64 x.f1, .int .i64 x.f2, .int .i64 x.f3], rfl, rfl, ⟨[.int .i64 x.f1], [.int .i64 x.f2, .int .i64 x.f3], rfl, rfl, ⟨[.int .i64 x.f2], [.int .i64 x.f3], rfl, rfl, rfl⟩⟩⟩
def rd_T23 (xs : List S23) (i : Int) : S23 := xs.getD i.toNat z23
theorem at_T23 {w : World} {A : Option Addr} {n : Nat} {xs : List S23} (h : Kd.C k23 w A n xs) (i : Int) (h0 : 0 ≤ i) (h1 : i < n) : ∃ ad , A = some ad ∧ w.cell? (ad.add (i.toNat * 4)) = some (.int .i64 (rd_T23 xs i).f0) ∧ w.cell? ⟨(ad.add (i.toNat * 4)).block, (ad.add (i.toNat * 4)).off + 1, none⟩ = some (.int .i64 (rd_T23 xs i).f1) ∧ w.cell? ⟨(ad.add (i.toNat * 4)).block, (ad.add (i.toNat * 4)).off + 2, none⟩ = some (.int .i64 (rd_T23 xs i).f2) ∧ w.cell? ⟨(ad.add (i.toNat * 4)).block, (ad.add (i.toNat * 4)).off + 3, none⟩ = some (.int .i64 (rd_T23 xs i).f3) := by
  obtain ⟨ad, c, e, _, hK, hc0⟩ := Kd.C_get h z23 i h0 h1
  have hc : ∀ j u, c[j]? = some u → w.cell? (ad.add (i.toNat * 4 + j)) = some u := hc0
  obtain rfl := k23_open hK
  exact ⟨ad, e, hc 0 _ rfl, by rw [← add_field _ _ 1 (by omega)]; exact hc 1 _ rfl, by rw [← add_field _ _ 2 (by omega)]; exact hc 2 _ rfl, by rw [← add_field _ _ 3 (by omega)]; exact hc 3 _ rfl⟩

/-! #### struct type 26, nested in itself -/
structure S26 where
  f0 : Int
  f1 : S23
  f2 : Int
  f3 : (List S26)
def z26 : S26 := ⟨(0 : Int), z23, (0 : Int), ([] : List S26)⟩
def F26 (d : Kd S26) : Kd S26 := Kd.iso (Kd.pair (Kd.int .u8) (Kd.pair k23 (Kd.pair (Kd.int .i64) (Kd.slice 26 d)))) (fun x : S26 => (x.f0, x.f1, x.f2, x.f3))
theorem mono26 : Kd.Mono F26 := Kd.mono_iso _ (Kd.mono_pair (Kd.mono_const _) (Kd.mono_pair (Kd.mono_const _) (Kd.mono_pair (Kd.mono_const _) (Kd.mono_slice 26 Kd.mono_id))))
theorem sub26 : Kd.Sub F26 [26] := Kd.sub_iso _ (Kd.sub_pair (Kd.sub_const _ (by decide)) (Kd.sub_pair (Kd.sub_const _ (by decide)) (Kd.sub_pair (Kd.sub_const _ (by decide)) (Kd.sub_slice 26 (by decide) Kd.sub_id))))
theorem sz26 : ∀ n, (Kd.upto F26 7 [26] n).sz = 7 := Kd.upto_sz (fun _ => rfl)
def k26 : Kd S26 := Kd.fix F26 7 [26] sz26 (Kd.upto_E sub26)
theorem k26_heap : Kd.Heap k26 := Kd.heap_fix (fun _ h_ => Kd.heap_iso _ (Kd.heap_pair (Kd.heap_int .u8) (Kd.heap_pair k23_heap (Kd.heap_pair (Kd.heap_int .i64) (Kd.heap_slice 26 h_)))))
theorem k26_open {w : World} {x : S26} {cs : List Value} (h : k26.K w x cs) : ∃ A6 c6, cs = [.int .u8 x.f0, .int .i64 x.f1.f0, .int .i64 x.f1.f1, .int .i64 x.f1.f2, .int .i64 x.f1.f3, .int .i64 x.f2, .slice A6 x.f3.length c6] ∧ x.f3.length ≤ c6 ∧ k26.C w A6 x.f3.length x.f3 := by
  obtain ⟨n, h⟩ := h
  cases n with
  | zero => exact h.elim
  | succ n =>
    obtain ⟨_, _, rfl, rfl, ⟨_, _, rfl, s1, ⟨_, _, rfl, rfl, ⟨A6, c6, rfl, l6, g6⟩⟩⟩⟩ := h
    obtain rfl := k23_open s1
    exact ⟨A6, c6, rfl, l6, Kd.fix_C g6⟩
theorem k26_mk (w : World) (x : S26) {A6 : Option Addr} {c6 : Nat} (l6 : x.f3.length ≤ c6) (g6 : k26.C w A6 x.f3.length x.f3) : k26.K w x [.int .u8 x.f0, .int .i64 x.f1.f0, .int .i64 x.f1.f1, .int .i64 x.f1.f2, .int .i64 x.f1.f3, .int .i64 x.f2, .slice A6 x.f3.length c6] := by
  obtain ⟨n6, q6⟩ := Kd.fix_C_back mono26 g6
  have r6 := Kd.upto_C_le mono26 sz26 (show n6 ≤ n6 by omega) q6
  exact ⟨n6 + 1, ⟨[.int .u8 x.f0], [.int .i64 x.f1.f0, .int .i64 x.f1.f1, .int .i64 x.f1.f2, .int .i64 x.f1.f3, .int .i64 x.f2, .slice A6 x.f3.length c6], rfl, rfl, ⟨[.int .i64 x.f1.f0, .int .i64 x.f1.f1, .int .i64 x.f1.f2, .int .i64 x.f1.f3], [.int .i64 x.f2, .slice A6 x.f3.length c6], rfl, (k23_mk w x.f1 ), ⟨[.int .i64 x.f2], [.slice A6 x.f3.length c6], rfl, rfl, ⟨A6, c6, rfl, l6, r6⟩⟩⟩⟩⟩
theorem k26_mkM (w : World) (base : Nat) (ok : Nat → Prop) (x : S26) {v6 : Value} (g6 : k26.R 26 w base ok v6 x.f3) : k26.M w base ok x [.int .u8 x.f0, .int .i64 x.f1.f0, .int .i64 x.f1.f1, .int .i64 x.f1.f2, .int .i64 x.f1.f3, .int .i64 x.f2, v6] := by
  obtain ⟨n6, q6⟩ := Kd.fix_R_back mono26 g6
  have r6 := Kd.upto_R_le mono26 sz26 (show n6 ≤ n6 by omega) q6
  exact ⟨n6 + 1, ⟨[.int .u8 x.f0], [.int .i64 x.f1.f0, .int .i64 x.f1.f1, .int .i64 x.f1.f2, .int .i64 x.f1.f3, .int .i64 x.f2, v6], rfl, rfl, ⟨[.int .i64 x.f1.f0, .int .i64 x.f1.f1, .int .i64 x.f1.f2, .int .i64 x.f1.f3], [.int .i64 x.f2, v6], rfl, (k23_mkM w base ok x.f1 ), ⟨[.int .i64 x.f2], [v6], rfl, rfl, ⟨v6, rfl, r6⟩⟩⟩⟩⟩
theorem k26_openF {W : World} {ok : Nat → Prop} {x : S26} {cs : List Value} (h : Kd.FK k26 W ok x cs) : ∃ A6 c6, cs = [.int .u8 x.f0, .int .i64 x.f1.f0, .int .i64 x.f1.f1, .int .i64 x.f1.f2, .int .i64 x.f1.f3, .int .i64 x.f2, .slice A6 x.f3.length c6] ∧ x.f3.length ≤ c6 ∧ Kd.F k26 W ok A6 x.f3.length x.f3 := by
  obtain ⟨A6, c6, rfl, l6, _⟩ := k26_open (Kd.FK_now h)
  exact ⟨A6, c6, rfl, l6, (fun W' hW => by obtain ⟨A6_, c6_, he, l6_, g6_⟩ := k26_open (h W' hW); injection (Option.some.inj (show some (Value.slice A6 x.f3.length c6) = some (Value.slice A6_ x.f3.length c6_) from congrArg (fun l => l[6]?) he)) with ha_ _ _; rw [ha_]; exact g6_)⟩
theorem k26_mkF (W : World) (ok : Nat → Prop) (x : S26) {A6 : Option Addr} {c6 : Nat} (l6 : x.f3.length ≤ c6) (g6 : Kd.F k26 W ok A6 x.f3.length x.f3) : Kd.FK k26 W ok x [.int .u8 x.f0, .int .i64 x.f1.f0, .int .i64 x.f1.f1, .int .i64 x.f1.f2, .int .i64 x.f1.f3, .int .i64 x.f2, .slice A6 x.f3.length c6] := fun W2 hW => k26_mk W2 x l6 (g6 W2 hW)
def rd_T26 (xs : List S26) (i : Int) : S26 := xs.getD i.toNat z26
theorem at_T26 {w : World} {A : Option Addr} {n : Nat} {xs : List S26} (h : Kd.C k26 w A n xs) (i : Int) (h0 : 0 ≤ i) (h1 : i < n) : ∃ ad A6 c6, A = some ad ∧ w.cell? (ad.add (i.toNat * 7)) = some (.int .u8 (rd_T26 xs i).f0) ∧ w.cell? ⟨(ad.add (i.toNat * 7)).block, (ad.add (i.toNat * 7)).off + 1, none⟩ = some (.int .i64 (rd_T26 xs i).f1.f0) ∧ w.cell? ⟨(ad.add (i.toNat * 7)).block, (ad.add (i.toNat * 7)).off + 2, none⟩ = some (.int .i64 (rd_T26 xs i).f1.f1) ∧ w.cell? ⟨(ad.add (i.toNat * 7)).block, (ad.add (i.toNat * 7)).off + 3, none⟩ = some (.int .i64 (rd_T26 xs i).f1.f2) ∧ w.cell? ⟨(ad.add (i.toNat * 7)).block, (ad.add (i.toNat * 7)).off + 4, none⟩ = some (.int .i64 (rd_T26 xs i).f1.f3) ∧ w.cell? ⟨(ad.add (i.toNat * 7)).block, (ad.add (i.toNat * 7)).off + 5, none⟩ = some (.int .i64 (rd_T26 xs i).f2) ∧ w.cell? ⟨(ad.add (i.toNat * 7)).block, (ad.add (i.toNat * 7)).off + 6, none⟩ = some (.slice A6 (rd_T26 xs i).f3.length c6) ∧ (rd_T26 xs i).f3.length ≤ c6 ∧ k26.C w A6 (rd_T26 xs i).f3.length (rd_T26 xs i).f3 := by
  obtain ⟨ad, c, e, _, hK, hc0⟩ := Kd.C_get h z26 i h0 h1
  have hc : ∀ j u, c[j]? = some u → w.cell? (ad.add (i.toNat * 7 + j)) = some u := hc0
  obtain ⟨A6, c6, rfl, l6, g6⟩ := k26_open hK
  exact ⟨ad, A6, c6, e, hc 0 _ rfl, by rw [← add_field _ _ 1 (by omega)]; exact hc 1 _ rfl, by rw [← add_field _ _ 2 (by omega)]; exact hc 2 _ rfl, by rw [← add_field _ _ 3 (by omega)]; exact hc 3 _ rfl, by rw [← add_field _ _ 4 (by omega)]; exact hc 4 _ rfl, by rw [← add_field _ _ 5 (by omega)]; exact hc 5 _ rfl, by rw [← add_field _ _ 6 (by omega)]; exact hc 6 _ rfl, l6, g6⟩

/-! #### struct type 35 -/
structure S35 where
  f0 : Int
  f1 : S23
def z35 : S35 := ⟨(0 : Int), z23⟩
def k35 : Kd S35 := Kd.iso (Kd.pair (Kd.int .i64) k23) (fun x : S35 => (x.f0, x.f1))
def rd_T35 (xs : List S35) (i : Int) : S35 := xs.getD i.toNat z35
def rd_L5 (xs : List (List S35)) (i : Int) : (List S35) := xs.getD i.toNat ([] : List S35)
def rd_L6 (xs : List (List Int)) (i : Int) : (List Int) := xs.getD i.toNat ([] : List Int)
def rd_L8 (xs : List (List S23)) (i : Int) : (List S23) := xs.getD i.toNat ([] : List S23)
def rd_L9 (xs : List (List S26)) (i : Int) : (List S26) := xs.getD i.toNat ([] : List S26)
def rd_L10 (xs : List (List Int)) (i : Int) : (List Int) := xs.getD i.toNat ([] : List Int)
end Go.Proofs.Ytfdmfgaiblfbhaa.P
namespace Go.Proofs.Ytfdmfgaiblfbhaa.P
open Go.RowKit Go.Proofs.YtfdmfgaiblfbhaaW.PrintWords Go.Proofs.YtfdmfgaiblfbhaaW.PrintLast Go.Proofs.YtfdmfgaiblfbhaaW.PrintMore
attribute [local go_sem] max2_int min2_int max_two min_two max_three min_three max_four min_four   -- for this text's walks alone
set_option linter.unusedVariables false
set_option linter.unusedSimpArgs false

/-! ### sashref05_count: function 124 -/
mutual
def sashref05_count.l0 : Nat → Int → Int → Int → Int → Int → Int → Int → Int → Int → Int → List (S26) → Option (Int)
 | 0, _, _, _, _, _, _, _, _, _, _, _ => none
 | k + 1, x1, x5, x9, x10, x102000, x102001, x102002, x102003, x102004, x102005, x102006 => if x10 < x9 then (if x5 > x1 then (some x5) else (if 0 ≤ x10 then (if x10 < (x102006.length : Int) then ((sashref05_count.f k ((rd_T26 x102006 x10).f0) ((rd_T26 x102006 x10).f1.f0) ((rd_T26 x102006 x10).f1.f1) ((rd_T26 x102006 x10).f1.f2) ((rd_T26 x102006 x10).f1.f3) ((rd_T26 x102006 x10).f2) ((rd_T26 x102006 x10).f3) x1).bind fun t103 => (sashref05_count.l0 k x1 (wrap64 (x5 + t103)) x9 (wrap64 (x10 + 1)) x102000 x102001 x102002 x102003 x102004 x102005 x102006)) else (none)) else (none))) else (some x5)
def sashref05_count.f : Nat → Int → Int → Int → Int → Int → Int → List (S26) → Int → Option (Int)
 | 0, _, _, _, _, _, _, _, _ => none
 | k + 1, a0_0, a0_1, a0_2, a0_3, a0_4, a0_5, l0_6, a1 => sashref05_count.l0 k a1 1 (l0_6.length : Int) 0 a0_0 a0_1 a0_2 a0_3 a0_4 a0_5 l0_6
end
set_option maxHeartbeats 8000000 in
set_option maxRecDepth 100000 in
theorem sashref05_count.calls (k : Nat) : ∀ (a0_0 : Int) (a0_1 : Int) (a0_2 : Int) (a0_3 : Int) (a0_4 : Int) (a0_5 : Int) (A0_6 : Option Addr) (c0_6 : Nat) (l0_6 : List (S26)) (a1 : Int) (r : Int) (w : World) (hr0_6 : Kd.C k26 w A0_6 l0_6.length l0_6) (hc0_6 : l0_6.length ≤ c0_6) (h : sashref05_count.f k a0_0 a0_1 a0_2 a0_3 a0_4 a0_5 l0_6 a1 = some r),
  Calls Try.prog 124 #[.agg #[.int .u8 a0_0, .int .i64 a0_1, .int .i64 a0_2, .int .i64 a0_3, .int .i64 a0_4, .int .i64 a0_5, .slice A0_6 l0_6.length c0_6], .int .i64 a1] w fun e w' => e = .returned (.int .i64 r) ∧ Below w.heap.size w w' := by
 induction k using Nat.strongRecOn with
 | _ k ih =>
 intro a0_0 a0_1 a0_2 a0_3 a0_4 a0_5 A0_6 c0_6 l0_6 a1 r w hr0_6 hc0_6 h
 cases k with
 | zero => exact absurd h (by simp [sashref05_count.f])
 | succ k =>
 simp only [sashref05_count.f] at h
 have hu26 := Try.underlying26
 have HR0_6 := Aside0.mk hr0_6
 clear hr0_6 hc0_6
 have HB := Aside0.mk (Below.refl w.heap.size w)
 have H : (sashref05_count.l0 k a1 1 (l0_6.length : Int) 0 a0_0 a0_1 a0_2 a0_3 a0_4 a0_5 l0_6) = some r := h
 clear h
 have H' := Aside0.mk H
 clear H
 go_enter Try.func124, Try.ntmps124
 go_wp2_with (((with_reducible refine gate_dst (N := 2) rfl ?_); refine box_event ?hg (N := 2) ?hd (cs := #[.int .u8 a0_0, .int .i64 a0_1, .int .i64 a0_2, .int .i64 a0_3, .int .i64 a0_4, .int .i64 a0_5, .slice A0_6 l0_6.length c0_6]) (t := 26) ?hr ?_; (case hd => rfl); (case hg => rfl); (case hr => (go_simp; done)); intro gb101 hg w3 hbox hb; have BK101 := Aside0.mk (hbox); replace HB := Aside0.mk (below_step (by repeat ((with_reducible exact HB.out))) hb); clear hb hbox hg; have hcz4_0 : w3.cell? ⟨gb101, 0, none⟩ = some (.int .u8 a0_0) := (blk_cell BK101.out 0).trans rfl; have hcz4_1 : w3.cell? ⟨gb101, 1, none⟩ = some (.int .i64 a0_1) := (blk_cell BK101.out 1).trans rfl; have hcz4_2 : w3.cell? ⟨gb101, 2, none⟩ = some (.int .i64 a0_2) := (blk_cell BK101.out 2).trans rfl; have hcz4_3 : w3.cell? ⟨gb101, 3, none⟩ = some (.int .i64 a0_3) := (blk_cell BK101.out 3).trans rfl; have hcz4_4 : w3.cell? ⟨gb101, 4, none⟩ = some (.int .i64 a0_4) := (blk_cell BK101.out 4).trans rfl; have hcz4_5 : w3.cell? ⟨gb101, 5, none⟩ = some (.int .i64 a0_5) := (blk_cell BK101.out 5).trans rfl; have hcz4_6 : w3.cell? ⟨gb101, 6, none⟩ = some (.slice A0_6 l0_6.length c0_6) := (blk_cell BK101.out 6).trans rfl; have hfz4_0 := blk_frozen BK101.out 0; have hfz4_1 := blk_frozen BK101.out 1; have hfz4_2 := blk_frozen BK101.out 2; have hfz4_3 := blk_frozen BK101.out 3; have hfz4_4 := blk_frozen BK101.out 4; have hfz4_5 := blk_frozen BK101.out 5; have hfz4_6 := blk_frozen BK101.out 6))
 go_loopg [5, 10] k (fun kq v5 v10 w' => ∃ (x5_1 : Int) (x10_1 : Int), v5 = .int .i64 x5_1 ∧ v10 = .int .i64 x10_1 ∧ Aside0 (sashref05_count.l0 kq a1 x5_1 (l0_6.length : Int) x10_1 a0_0 a0_1 a0_2 a0_3 a0_4 a0_5 l0_6 = some r) ∧ Aside0 (kq ≤ k) ∧ Aside0 (w'.heap[gb101]? = some (.cells #[.int .u8 a0_0, .int .i64 a0_1, .int .i64 a0_2, .int .i64 a0_3, .int .i64 a0_4, .int .i64 a0_5, (.slice A0_6 l0_6.length c0_6)] 26 (0, 0))) ∧ Aside0 (Below w.heap.size w w'))
 case atStart => exact ⟨(1), (0), (by rfl), (by rfl), H', ⟨Nat.le_refl _⟩, ⟨by exact BK101.out⟩, ⟨by repeat ((with_reducible exact HB.out))⟩⟩
 case round =>
  clear H'
  clear hcz4_0 hcz4_1 hcz4_2 hcz4_3 hcz4_4 hcz4_5 hcz4_6 hfz4_0 hfz4_1 hfz4_2 hfz4_3 hfz4_4 hfz4_5 hfz4_6
  obtain ⟨x5_1, x10_1, rfl, rfl, HA, HK1, BK101, HB⟩ := hrel
  cases gk with
  | zero => exact absurd HA.out (by simp [sashref05_count.l0])
  | succ k1 =>
   have H := HA.out
   clear HA
   simp only [sashref05_count.l0] at H
   by_cases c5 : x10_1 < (l0_6.length : Int)
   ·rw [if_pos c5] at H
    have c5b0 : decide (x10_1 < (l0_6.length : Int)) = true := decide_eq_true c5
    clear c5
    by_cases c6 : x5_1 > a1
    ·rw [if_pos c6] at H
     have c6b0 : decide (a1 < x5_1) = true := decide_eq_true c6
     clear c6
     obtain rfl := Option.some.inj H
     go_wp2
     go_ret
     exact ⟨by rfl, by repeat ((with_reducible exact HB.out))⟩
    ·rw [if_neg c6] at H
     have c6b0 : decide (a1 < x5_1) = false := decide_eq_false c6
     clear c6
     by_cases c7 : 0 ≤ x10_1
     ·rw [if_pos c7] at H
      have c7b0 : decide (0 ≤ x10_1) = true := decide_eq_true c7
      clear c7
      by_cases c8 : x10_1 < (l0_6.length : Int)
      ·rw [if_pos c8] at H
       have c8b0 : decide (x10_1 < (l0_6.length : Int)) = true := decide_eq_true c8
       clear c8
       replace H := Option.bind_eq_some_iff.mp H
       obtain ⟨t103, A90, H⟩ := H
       replace H : (sashref05_count.l0 k1 a1 (wrap64 (x5_1 + t103)) (l0_6.length : Int) (wrap64 (x10_1 + 1)) a0_0 a0_1 a0_2 a0_3 a0_4 a0_5 l0_6) = some r := H
       have A9 := Aside0.mk A90
       clear A90
       have H' := Aside0.mk H
       clear H
       have hcz10_0 : wr.cell? ⟨gb101, 0, none⟩ = some (.int .u8 a0_0) := (blk_cell BK101.out 0).trans rfl
       have hcz10_1 : wr.cell? ⟨gb101, 1, none⟩ = some (.int .i64 a0_1) := (blk_cell BK101.out 1).trans rfl
       have hcz10_2 : wr.cell? ⟨gb101, 2, none⟩ = some (.int .i64 a0_2) := (blk_cell BK101.out 2).trans rfl
       have hcz10_3 : wr.cell? ⟨gb101, 3, none⟩ = some (.int .i64 a0_3) := (blk_cell BK101.out 3).trans rfl
       have hcz10_4 : wr.cell? ⟨gb101, 4, none⟩ = some (.int .i64 a0_4) := (blk_cell BK101.out 4).trans rfl
       have hcz10_5 : wr.cell? ⟨gb101, 5, none⟩ = some (.int .i64 a0_5) := (blk_cell BK101.out 5).trans rfl
       have hcz10_6 : wr.cell? ⟨gb101, 6, none⟩ = some (.slice A0_6 l0_6.length c0_6) := (blk_cell BK101.out 6).trans rfl
       have hfz10_0 := blk_frozen BK101.out 0
       have hfz10_1 := blk_frozen BK101.out 1
       have hfz10_2 := blk_frozen BK101.out 2
       have hfz10_3 := blk_frozen BK101.out 3
       have hfz10_4 := blk_frozen BK101.out 4
       have hfz10_5 := blk_frozen BK101.out 5
       have hfz10_6 := blk_frozen BK101.out 6
       have p102 : 0 ≤ (x10_1 : Int) := of_decide_eq_true (by (with_reducible assumption))
       have q102 : x10_1 < (l0_6.length : Int) := of_decide_eq_true (by (with_reducible assumption))
       obtain ⟨ad102, A102_6, c102_6, e102, hx102_0, hx102_1, hx102_2, hx102_3, hx102_4, hx102_5, hx102_6, hl102_6, hi102_6⟩ := at_T26 HR0_6.out x10_1 p102 q102
       cases e102
       replace hx102_0 := (HB.out.cell (World.block_lt_of_cell? w _ hx102_0)).trans hx102_0
       replace hx102_1 := (HB.out.cell (World.block_lt_of_cell? w _ hx102_1)).trans hx102_1
       replace hx102_2 := (HB.out.cell (World.block_lt_of_cell? w _ hx102_2)).trans hx102_2
       replace hx102_3 := (HB.out.cell (World.block_lt_of_cell? w _ hx102_3)).trans hx102_3
       replace hx102_4 := (HB.out.cell (World.block_lt_of_cell? w _ hx102_4)).trans hx102_4
       replace hx102_5 := (HB.out.cell (World.block_lt_of_cell? w _ hx102_5)).trans hx102_5
       replace hx102_6 := (HB.out.cell (World.block_lt_of_cell? w _ hx102_6)).trans hx102_6
       have HR102_6 := Aside0.mk hi102_6
       have HC102_6 := Aside0.mk hl102_6
       clear hi102_6 hl102_6
       replace p102 := eq_true p102
       replace q102 := eq_true q102
       go_wp2_with (((with_reducible refine gate_callee (f := 124) rfl ?_); refine goesL_ (some 24) rfl rfl Try.func124 (by kernel_rfl) rfl #[.agg #[.int .u8 ((rd_T26 l0_6 x10_1).f0), .int .i64 ((rd_T26 l0_6 x10_1).f1.f0), .int .i64 ((rd_T26 l0_6 x10_1).f1.f1), .int .i64 ((rd_T26 l0_6 x10_1).f1.f2), .int .i64 ((rd_T26 l0_6 x10_1).f1.f3), .int .i64 ((rd_T26 l0_6 x10_1).f2), .slice A102_6 ((rd_T26 l0_6 x10_1).f3).length c102_6], .int .i64 a1] rfl (by (try simp only [List.map_toArray, List.map_cons, List.map_nil]); rfl) ?_; (with_reducible refine (ih k1 (by have := HK1.out; omega) ((rd_T26 l0_6 x10_1).f0) ((rd_T26 l0_6 x10_1).f1.f0) ((rd_T26 l0_6 x10_1).f1.f1) ((rd_T26 l0_6 x10_1).f1.f2) ((rd_T26 l0_6 x10_1).f1.f3) ((rd_T26 l0_6 x10_1).f2) _ _ ((rd_T26 l0_6 x10_1).f3) a1 t103 _ ?side1 ?side2 A9.out).mono ?_); (case side1 => repeat (exact (Kd.C_below HR102_6.out HB.out))); (case side2 => exact HC102_6.out); rintro e w11 ⟨rfl, hb⟩; refine ⟨_, rfl, ?_⟩; replace BK101 := Aside0.mk (blk_below BK101.out hb); replace HB := Aside0.mk (below_step (by repeat ((with_reducible exact HB.out))) hb); (try clear hb)))
       go_roundg k1
       case measure => have := HK1.out; omega
       case rel => exact ⟨(wrap64 (x5_1 + t103)), (wrap64 (x10_1 + 1)), (by rfl), (by rfl), H', ⟨by have := HK1.out; omega⟩, ⟨by exact BK101.out⟩, ⟨by repeat ((with_reducible exact HB.out))⟩⟩
      ·rw [if_neg c8] at H
       exact absurd H (by simp)
     ·rw [if_neg c7] at H
      exact absurd H (by simp)
   ·rw [if_neg c5] at H
    have c5b0 : decide (x10_1 < (l0_6.length : Int)) = false := decide_eq_false c5
    clear c5
    obtain rfl := Option.some.inj H
    go_wp2
    go_ret
    exact ⟨by rfl, by repeat ((with_reducible exact HB.out))⟩

end Go.Proofs.Ytfdmfgaiblfbhaa.P
namespace Go.Proofs.Ytfdmfgaiblfbhaa.P
open Go.RowKit Go.Proofs.YtfdmfgaiblfbhaaW.PrintWords Go.Proofs.YtfdmfgaiblfbhaaW.PrintLast Go.Proofs.YtfdmfgaiblfbhaaW.PrintMore
attribute [local go_sem] max2_int min2_int max_two min_two max_three min_three max_four min_four   -- for this text's walks alone
set_option linter.unusedVariables false
set_option linter.unusedSimpArgs false

/-! ### sashref05_Great: function 34 -/
def sashref05_Great.f (k : Nat) (a0_0 : Int) (a0_1 : Int) (a0_2 : Int) (a0_3 : Int) (a0_4 : Int) (a0_5 : Int) (l0_6 : List (S26)) : Option (Bool) := (sashref05_count.f k a0_0 a0_1 a0_2 a0_3 a0_4 a0_5 l0_6 200).bind fun t105 => (some (decide (t105 > 200)))
set_option maxHeartbeats 8000000 in
set_option maxRecDepth 100000 in
theorem sashref05_Great.calls (k : Nat) (a0_0 : Int) (a0_1 : Int) (a0_2 : Int) (a0_3 : Int) (a0_4 : Int) (a0_5 : Int) (A0_6 : Option Addr) (c0_6 : Nat) (l0_6 : List (S26)) (r : Bool) (w : World) (hr0_6 : Kd.C k26 w A0_6 l0_6.length l0_6) (hc0_6 : l0_6.length ≤ c0_6) (h : sashref05_Great.f k a0_0 a0_1 a0_2 a0_3 a0_4 a0_5 l0_6 = some r) :
  Calls Try.prog 34 #[.agg #[.int .u8 a0_0, .int .i64 a0_1, .int .i64 a0_2, .int .i64 a0_3, .int .i64 a0_4, .int .i64 a0_5, .slice A0_6 l0_6.length c0_6]] w fun e w' => e = .returned (.bool r) ∧ Below w.heap.size w w' := by
 have hu26 := Try.underlying26
 have HR0_6 := Aside0.mk hr0_6
 have HC0_6 := Aside0.mk hc0_6
 clear hr0_6 hc0_6
 have HB := Aside0.mk (Below.refl w.heap.size w)
 have H : ((sashref05_count.f k a0_0 a0_1 a0_2 a0_3 a0_4 a0_5 l0_6 200).bind fun t105 => (some (decide (t105 > 200)))) = some r := h
 clear h
 replace H := Option.bind_eq_some_iff.mp H
 obtain ⟨t105, A20, H⟩ := H
 replace H : (some (decide (t105 > 200))) = some r := H
 have A2 := Aside0.mk A20
 clear A20
 obtain rfl := Option.some.inj H
 go_enter Try.func34, Try.ntmps34
 go_wp2_with (first | ((with_reducible refine gate_dst (N := 1) rfl ?_); refine box_event ?hg (N := 1) ?hd (cs := #[.int .u8 a0_0, .int .i64 a0_1, .int .i64 a0_2, .int .i64 a0_3, .int .i64 a0_4, .int .i64 a0_5, .slice A0_6 l0_6.length c0_6]) (t := 26) ?hr ?_; (case hd => rfl); (case hg => rfl); (case hr => (go_simp; done)); intro gb104 hg w3 hbox hb; have BK104 := Aside0.mk (hbox); replace HB := Aside0.mk (below_step (by repeat ((with_reducible exact HB.out))) hb); clear hb hbox hg; have hcz4_0 : w3.cell? ⟨gb104, 0, none⟩ = some (.int .u8 a0_0) := (blk_cell BK104.out 0).trans rfl; have hcz4_1 : w3.cell? ⟨gb104, 1, none⟩ = some (.int .i64 a0_1) := (blk_cell BK104.out 1).trans rfl; have hcz4_2 : w3.cell? ⟨gb104, 2, none⟩ = some (.int .i64 a0_2) := (blk_cell BK104.out 2).trans rfl; have hcz4_3 : w3.cell? ⟨gb104, 3, none⟩ = some (.int .i64 a0_3) := (blk_cell BK104.out 3).trans rfl; have hcz4_4 : w3.cell? ⟨gb104, 4, none⟩ = some (.int .i64 a0_4) := (blk_cell BK104.out 4).trans rfl; have hcz4_5 : w3.cell? ⟨gb104, 5, none⟩ = some (.int .i64 a0_5) := (blk_cell BK104.out 5).trans rfl; have hcz4_6 : w3.cell? ⟨gb104, 6, none⟩ = some (.slice A0_6 l0_6.length c0_6) := (blk_cell BK104.out 6).trans rfl; have hfz4_0 := blk_frozen BK104.out 0; have hfz4_1 := blk_frozen BK104.out 1; have hfz4_2 := blk_frozen BK104.out 2; have hfz4_3 := blk_frozen BK104.out 3; have hfz4_4 := blk_frozen BK104.out 4; have hfz4_5 := blk_frozen BK104.out 5; have hfz4_6 := blk_frozen BK104.out 6) | ((with_reducible refine gate_callee (f := 124) rfl ?_); refine goesL_ (some 4) rfl rfl Try.func124 (by kernel_rfl) rfl #[.agg #[.int .u8 a0_0, .int .i64 a0_1, .int .i64 a0_2, .int .i64 a0_3, .int .i64 a0_4, .int .i64 a0_5, .slice A0_6 l0_6.length c0_6], .int .i64 200] rfl (by (try simp only [List.map_toArray, List.map_cons, List.map_nil]); rfl) ?_; (with_reducible refine (sashref05_count.calls k a0_0 a0_1 a0_2 a0_3 a0_4 a0_5 _ _ l0_6 200 t105 _ ?side1 ?side2 A2.out).mono ?_); (case side1 => repeat (exact (Kd.C_below HR0_6.out HB.out))); (case side2 => exact HC0_6.out); rintro e w5 ⟨rfl, hb⟩; refine ⟨_, rfl, ?_⟩; replace BK104 := Aside0.mk (blk_below BK104.out hb); replace HB := Aside0.mk (below_step (by repeat ((with_reducible exact HB.out))) hb); (try clear hb)))
 go_ret
 exact ⟨by rfl, by repeat ((with_reducible exact HB.out))⟩

end Go.Proofs.Ytfdmfgaiblfbhaa.P
namespace Go.Proofs.Ytfdmfgaiblfbhaa.P
open Go.RowKit Go.Proofs.YtfdmfgaiblfbhaaW.PrintWords Go.Proofs.YtfdmfgaiblfbhaaW.PrintLast Go.Proofs.YtfdmfgaiblfbhaaW.PrintMore
attribute [local go_sem] max2_int min2_int max_two min_two max_three min_three max_four min_four   -- for this text's walks alone
set_option linter.unusedVariables false
set_option linter.unusedSimpArgs false

/-! ### sashref05_All: function 79 -/
mutual
def sashref05_All.l0 : Nat → List (S26) → Int → Int → Int → Int → Int → Int → Int → Int → List (S26) → Option ((List (S26)))
 | 0, _, _, _, _, _, _, _, _, _, _ => none
 | k + 1, x3, x9, x10, x132000, x132001, x132002, x132003, x132004, x132005, x132006 => if x10 < x9 then (if 0 ≤ x10 then (if x10 < (x132006.length : Int) then ((sashref05_All.f k ((rd_T26 x132006 x10).f0) ((rd_T26 x132006 x10).f1.f0) ((rd_T26 x132006 x10).f1.f1) ((rd_T26 x132006 x10).f1.f2) ((rd_T26 x132006 x10).f1.f3) ((rd_T26 x132006 x10).f2) ((rd_T26 x132006 x10).f3)).bind fun t136 => (if x3.length + t136.length < 1954687338268 then (sashref05_All.l0 k (x3 ++ t136) x9 (wrap64 (x10 + 1)) x132000 x132001 x132002 x132003 x132004 x132005 x132006) else (none))) else (none)) else (none)) else (some x3)
def sashref05_All.f : Nat → Int → Int → Int → Int → Int → Int → List (S26) → Option ((List (S26)))
 | 0, _, _, _, _, _, _, _ => none
 | k + 1, a0_0, a0_1, a0_2, a0_3, a0_4, a0_5, l0_6 => sashref05_All.l0 k (([(⟨a0_0, (⟨a0_1, a0_2, a0_3, a0_4⟩ : S23), a0_5, l0_6⟩ : S26)] : List (S26))) (l0_6.length : Int) 0 a0_0 a0_1 a0_2 a0_3 a0_4 a0_5 l0_6
end
theorem sashref05_All.mono_l : ∀ k, (∀ y0 y1 y2 y3 y4 y5 y6, LeO (sashref05_All.f k y0 y1 y2 y3 y4 y5 y6) (sashref05_All.f (k + 1) y0 y1 y2 y3 y4 y5 y6)) ∧ (∀ y0 y1 y2 y3 y4 y5 y6 y7 y8 y9, LeO (sashref05_All.l0 k y0 y1 y2 y3 y4 y5 y6 y7 y8 y9) (sashref05_All.l0 (k + 1) y0 y1 y2 y3 y4 y5 y6 y7 y8 y9))
 | 0 => ⟨fun _ _ _ _ _ _ _ r h => by simp [sashref05_All.f] at h, fun _ _ _ _ _ _ _ _ _ _ r h => by simp [sashref05_All.l0] at h⟩
 | k + 1 => by
  obtain ⟨ih0, ih1⟩ := sashref05_All.mono_l k
  refine ⟨?_, ?_⟩
  ·intro y0 y1 y2 y3 y4 y5 y6
   unfold sashref05_All.f
   repeat' (with_reducible exact ih1 _ _ _ _ _ _ _ _ _ _)
  ·intro y0 y1 y2 y3 y4 y5 y6 y7 y8 y9
   unfold sashref05_All.l0
   repeat' first | (with_reducible exact ih0 _ _ _ _ _ _ _) | (with_reducible exact ih1 _ _ _ _ _ _ _ _ _ _) | (with_reducible exact LeO.refl _) | (with_reducible refine LeO.ite ?_ ?_) | (with_reducible refine LeO.bind ?_ (fun _ => ?_))
theorem sashref05_All.mono : ∀ a0 a1 a2 a3 a4 a5 a6 k, LeO (sashref05_All.f k a0 a1 a2 a3 a4 a5 a6) (sashref05_All.f (k + 1) a0 a1 a2 a3 a4 a5 a6) := by
 intro a0 a1 a2 a3 a4 a5 a6 k
 obtain ⟨ih0, ih1⟩ := sashref05_All.mono_l k
 exact ih0 a0 a1 a2 a3 a4 a5 a6
set_option maxHeartbeats 8000000 in
set_option maxRecDepth 100000 in
theorem sashref05_All.calls (k : Nat) : ∀ (a0_0 : Int) (a0_1 : Int) (a0_2 : Int) (a0_3 : Int) (a0_4 : Int) (a0_5 : Int) (P0_6_ : Nat → Prop) (A0_6 : Option Addr) (c0_6 : Nat) (l0_6 : List (S26)) (r : List (S26)) (w : World) (hs0_6 : Kd.V k26 26 w w.heap.size (fun k_ => P0_6_ k_) (.slice A0_6 l0_6.length c0_6) l0_6) (h : sashref05_All.f k a0_0 a0_1 a0_2 a0_3 a0_4 a0_5 l0_6 = some r),
  Calls Try.prog 79 #[.agg #[.int .u8 a0_0, .int .i64 a0_1, .int .i64 a0_2, .int .i64 a0_3, .int .i64 a0_4, .int .i64 a0_5, .slice A0_6 l0_6.length c0_6]] w fun e w' => ∃ v0_ : Value, e = .returned (v0_) ∧ Kd.N k26 26 w' w.heap.size (fun k_ => (P0_6_ k_ ∨ w.heap.size ≤ k_)) v0_ r ∧ Below w.heap.size w w' := by
 induction k using Nat.strongRecOn with
 | _ k ih =>
 intro a0_0 a0_1 a0_2 a0_3 a0_4 a0_5 P0_6_ A0_6 c0_6 l0_6 r w hs0_6 h
 cases k with
 | zero => exact absurd h (by simp [sashref05_All.f])
 | succ k =>
 simp only [sashref05_All.f] at h
 have hu26 := Try.underlying26
 have HO0_6 := Aside0.mk (show Kd.V k26 26 w w.heap.size (fun k_ => (P0_6_ k_ ∨ w.heap.size ≤ k_)) (.slice A0_6 l0_6.length c0_6) l0_6 from Kd.V_mono hs0_6 (fun k_ hk => .inl hk))
 have HB := Aside0.mk (Below.refl w.heap.size w)
 have H : (sashref05_All.l0 k (([(⟨a0_0, (⟨a0_1, a0_2, a0_3, a0_4⟩ : S23), a0_5, l0_6⟩ : S26)] : List (S26))) (l0_6.length : Int) 0 a0_0 a0_1 a0_2 a0_3 a0_4 a0_5 l0_6) = some r := h
 clear h
 obtain ⟨y132, hy132⟩ : ∃ y_ : List (S26), y_ = (([(⟨a0_0, (⟨a0_1, a0_2, a0_3, a0_4⟩ : S23), a0_5, l0_6⟩ : S26)] : List (S26))) := ⟨_, rfl⟩
 replace H : (sashref05_All.l0 k y132 (l0_6.length : Int) 0 a0_0 a0_1 a0_2 a0_3 a0_4 a0_5 l0_6) = some r := by (rw [hy132]; with_reducible exact H)
 have Ny132 := Aside0.mk hy132
 clear hy132
 have H' := Aside0.mk H
 clear H
 go_enter Try.func79, Try.ntmps79
 go_wp2_with (first | ((with_reducible refine gate_dst (N := 1) rfl ?_); refine box_event ?hg (N := 1) ?hd (cs := #[.int .u8 a0_0, .int .i64 a0_1, .int .i64 a0_2, .int .i64 a0_3, .int .i64 a0_4, .int .i64 a0_5, .slice A0_6 l0_6.length c0_6]) (t := 26) ?hr ?_; (case hd => rfl); (case hg => rfl); (case hr => (go_simp; done)); intro gb131 hg w2 hbox hb; have BK131 := Aside0.mk (hbox); replace HO0_6 := Aside0.mk (Kd.V_below (Kd.V_elderB HO0_6.out gb131 (Nat.le_of_eq hg.symm)) hb); replace HB := Aside0.mk (below_step (by repeat ((with_reducible exact HB.out))) hb); clear hb hbox hg; have hcz3_0 : w2.cell? ⟨gb131, 0, none⟩ = some (.int .u8 a0_0) := (blk_cell BK131.out 0).trans rfl; have hcz3_1 : w2.cell? ⟨gb131, 1, none⟩ = some (.int .i64 a0_1) := (blk_cell BK131.out 1).trans rfl; have hcz3_2 : w2.cell? ⟨gb131, 2, none⟩ = some (.int .i64 a0_2) := (blk_cell BK131.out 2).trans rfl; have hcz3_3 : w2.cell? ⟨gb131, 3, none⟩ = some (.int .i64 a0_3) := (blk_cell BK131.out 3).trans rfl; have hcz3_4 : w2.cell? ⟨gb131, 4, none⟩ = some (.int .i64 a0_4) := (blk_cell BK131.out 4).trans rfl; have hcz3_5 : w2.cell? ⟨gb131, 5, none⟩ = some (.int .i64 a0_5) := (blk_cell BK131.out 5).trans rfl; have hcz3_6 : w2.cell? ⟨gb131, 6, none⟩ = some (.slice A0_6 l0_6.length c0_6) := (blk_cell BK131.out 6).trans rfl; have hfz3_0 := blk_frozen BK131.out 0; have hfz3_1 := blk_frozen BK131.out 1; have hfz3_2 := blk_frozen BK131.out 2; have hfz3_3 := blk_frozen BK131.out 3; have hfz3_4 := blk_frozen BK131.out 4; have hfz3_5 := blk_frozen BK131.out 5; have hfz3_6 := blk_frozen BK131.out 6) | ((with_reducible refine gate_dst (N := 6) rfl ?_); refine Kd.N_lit k26 _ 26 ?hg (N' := 6) ?hd (xs := ([(⟨a0_0, (⟨a0_1, a0_2, a0_3, a0_4⟩ : S23), a0_5, l0_6⟩ : S26)] : List (S26))) (inner := [.int .u8 a0_0, .int .i64 a0_1, .int .i64 a0_2, .int .i64 a0_3, .int .i64 a0_4, .int .i64 a0_5, .slice A0_6 l0_6.length c0_6]) (ok := (fun k_ => (P0_6_ k_ ∨ w.heap.size ≤ k_) ∧ k_ ≠ gb131)) (okp := (fun k_ => (P0_6_ k_ ∨ w.heap.size ≤ k_) ∧ k_ ≠ gb131)) ?hr ?hp (fun _ hk => hk) ((show ∀ k_, w2.heap.size ≤ k_ → (fun k_ => (P0_6_ k_ ∨ w.heap.size ≤ k_) ∧ k_ ≠ gb131) k_ from fun k_ hk => ⟨(.inr (Nat.le_trans (below_size (by repeat ((with_reducible exact HB.out)))) hk)), Kd.freshB BK131.out k_ hk⟩) _ (Nat.le_refl _)) (Below.refl _ _) (Nat.le_refl _) (by simp) ?_; (case hd => rfl); (case hg => rfl); (case hr => (go_simp; done)); (case hp => exact (Reps.c7 (show Kd.FK k26 _ _ (⟨a0_0, (⟨a0_1, a0_2, a0_3, a0_4⟩ : S23), a0_5, l0_6⟩ : S26) [.int .u8 a0_0, .int .i64 a0_1, .int .i64 a0_2, .int .i64 a0_3, .int .i64 a0_4, .int .i64 a0_5, .slice A0_6 l0_6.length c0_6] from (k26_mkF _ _ (⟨a0_0, (⟨a0_1, a0_2, a0_3, a0_4⟩ : S23), a0_5, l0_6⟩ : S26) (Kd.V_reads' (Kd.V_mono (ok' := (fun k_ => (P0_6_ k_ ∨ w.heap.size ≤ k_) ∧ k_ ≠ gb131)) (HO0_6.out) (fun k_ hk => ⟨hk.1, hk.2⟩))).2.1 (Kd.V_F (Kd.V_mono (ok' := (fun k_ => (P0_6_ k_ ∨ w.heap.size ≤ k_) ∧ k_ ≠ gb131)) (HO0_6.out) (fun k_ hk => ⟨hk.1, hk.2⟩))))) (Reps.none _ _))); intro v133 w4 ho5 hb hg_ hnew_; clear hg_ hnew_; (rw [← Ny132.out] at ho5); have HO134 := Aside0.mk (Kd.N_lower ho5 (below_size (by repeat ((with_reducible exact HB.out))))); replace HO0_6 := Aside0.mk (Kd.V_elder' HO0_6.out (Kd.N_base ho5) hb); replace BK131 := Aside0.mk (blk_below BK131.out hb); replace HB := Aside0.mk (below_step (by repeat ((with_reducible exact HB.out))) hb); clear hb ho5; have hcz6_0 : w4.cell? ⟨gb131, 0, none⟩ = some (.int .u8 a0_0) := (blk_cell BK131.out 0).trans rfl; have hcz6_1 : w4.cell? ⟨gb131, 1, none⟩ = some (.int .i64 a0_1) := (blk_cell BK131.out 1).trans rfl; have hcz6_2 : w4.cell? ⟨gb131, 2, none⟩ = some (.int .i64 a0_2) := (blk_cell BK131.out 2).trans rfl; have hcz6_3 : w4.cell? ⟨gb131, 3, none⟩ = some (.int .i64 a0_3) := (blk_cell BK131.out 3).trans rfl; have hcz6_4 : w4.cell? ⟨gb131, 4, none⟩ = some (.int .i64 a0_4) := (blk_cell BK131.out 4).trans rfl; have hcz6_5 : w4.cell? ⟨gb131, 5, none⟩ = some (.int .i64 a0_5) := (blk_cell BK131.out 5).trans rfl; have hcz6_6 : w4.cell? ⟨gb131, 6, none⟩ = some (.slice A0_6 l0_6.length c0_6) := (blk_cell BK131.out 6).trans rfl; have hfz6_0 := blk_frozen BK131.out 0; have hfz6_1 := blk_frozen BK131.out 1; have hfz6_2 := blk_frozen BK131.out 2; have hfz6_3 := blk_frozen BK131.out 3; have hfz6_4 := blk_frozen BK131.out 4; have hfz6_5 := blk_frozen BK131.out 5; have hfz6_6 := blk_frozen BK131.out 6))
 go_loopg [3, 10] k (fun kq v3 v10 w' => ∃ (x3_1 : List (S26)) (x10_1 : Int), v10 = .int .i64 x10_1 ∧ Aside0 (sashref05_All.l0 kq x3_1 (l0_6.length : Int) x10_1 a0_0 a0_1 a0_2 a0_3 a0_4 a0_5 l0_6 = some r) ∧ Aside0 (kq ≤ k) ∧ Aside0 (Kd.N k26 26 w' w.heap.size (fun k_ => (P0_6_ k_ ∨ w.heap.size ≤ k_) ∧ k_ ≠ gb131) v3 x3_1) ∧ Aside0 (Kd.V k26 26 w' w.heap.size (fun k_ => (P0_6_ k_ ∨ w.heap.size ≤ k_) ∧ some k_ ≠ (v3 : Value).ownBlock ∧ k_ ≠ gb131) (.slice A0_6 l0_6.length c0_6) l0_6) ∧ Aside0 (w'.heap[gb131]? = some (.cells #[.int .u8 a0_0, .int .i64 a0_1, .int .i64 a0_2, .int .i64 a0_3, .int .i64 a0_4, .int .i64 a0_5, (.slice A0_6 l0_6.length c0_6)] 26 (0, 0))) ∧ Aside0 (Below w.heap.size w w'))
 case atStart => exact ⟨(y132), (0), (by rfl), H', ⟨Nat.le_refl _⟩, ⟨by exact HO134.out⟩, ⟨by exact Kd.V_mono HO0_6.out (fun _ hk => ⟨hk.1.1, ⟨hk.2, hk.1.2⟩⟩)⟩, ⟨by exact BK131.out⟩, ⟨by repeat ((with_reducible exact HB.out))⟩⟩
 case round =>
  clear H'
  clear hcz3_0 hcz3_1 hcz3_2 hcz3_3 hcz3_4 hcz3_5 hcz3_6 hcz6_0 hcz6_1 hcz6_2 hcz6_3 hcz6_4 hcz6_5 hcz6_6 hfz3_0 hfz3_1 hfz3_2 hfz3_3 hfz3_4 hfz3_5 hfz3_6 hfz6_0 hfz6_1 hfz6_2 hfz6_3 hfz6_4 hfz6_5 hfz6_6
  obtain ⟨x3_1, x10_1, rfl, HA, HK1, HO_3, HO_132006, BK131, HB⟩ := hrel
  cases gk with
  | zero => exact absurd HA.out (by simp [sashref05_All.l0])
  | succ k1 =>
   have H := HA.out
   clear HA
   simp only [sashref05_All.l0] at H
   by_cases c7 : x10_1 < (l0_6.length : Int)
   ·rw [if_pos c7] at H
    have c7b0 : decide (x10_1 < (l0_6.length : Int)) = true := decide_eq_true c7
    clear c7
    by_cases c8 : 0 ≤ x10_1
    ·rw [if_pos c8] at H
     have c8b0 : decide (0 ≤ x10_1) = true := decide_eq_true c8
     clear c8
     by_cases c9 : x10_1 < (l0_6.length : Int)
     ·rw [if_pos c9] at H
      have c9b0 : decide (x10_1 < (l0_6.length : Int)) = true := decide_eq_true c9
      clear c9
      replace H := Option.bind_eq_some_iff.mp H
      obtain ⟨t136, A100, H⟩ := H
      replace H : (if x3_1.length + t136.length < 1954687338268 then (sashref05_All.l0 k1 (x3_1 ++ t136) (l0_6.length : Int) (wrap64 (x10_1 + 1)) a0_0 a0_1 a0_2 a0_3 a0_4 a0_5 l0_6) else (none)) = some r := H
      have A10 := Aside0.mk A100
      clear A100
      by_cases c11 : x3_1.length + t136.length < 1954687338268
      ·rw [if_pos c11] at H
       have LMc11 := Aside0.mk c11
       clear c11
       obtain ⟨y139, hy139⟩ : ∃ y_ : List (S26), y_ = (x3_1 ++ t136) := ⟨_, rfl⟩
       replace H : (sashref05_All.l0 k1 y139 (l0_6.length : Int) (wrap64 (x10_1 + 1)) a0_0 a0_1 a0_2 a0_3 a0_4 a0_5 l0_6) = some r := by (rw [hy139]; with_reducible exact H)
       have Ny139 := Aside0.mk hy139
       clear hy139
       have H' := Aside0.mk H
       clear H
       have hcz12_0 : wr.cell? ⟨gb131, 0, none⟩ = some (.int .u8 a0_0) := (blk_cell BK131.out 0).trans rfl
       have hcz12_1 : wr.cell? ⟨gb131, 1, none⟩ = some (.int .i64 a0_1) := (blk_cell BK131.out 1).trans rfl
       have hcz12_2 : wr.cell? ⟨gb131, 2, none⟩ = some (.int .i64 a0_2) := (blk_cell BK131.out 2).trans rfl
       have hcz12_3 : wr.cell? ⟨gb131, 3, none⟩ = some (.int .i64 a0_3) := (blk_cell BK131.out 3).trans rfl
       have hcz12_4 : wr.cell? ⟨gb131, 4, none⟩ = some (.int .i64 a0_4) := (blk_cell BK131.out 4).trans rfl
       have hcz12_5 : wr.cell? ⟨gb131, 5, none⟩ = some (.int .i64 a0_5) := (blk_cell BK131.out 5).trans rfl
       have hcz12_6 : wr.cell? ⟨gb131, 6, none⟩ = some (.slice A0_6 l0_6.length c0_6) := (blk_cell BK131.out 6).trans rfl
       have hfz12_0 := blk_frozen BK131.out 0
       have hfz12_1 := blk_frozen BK131.out 1
       have hfz12_2 := blk_frozen BK131.out 2
       have hfz12_3 := blk_frozen BK131.out 3
       have hfz12_4 := blk_frozen BK131.out 4
       have hfz12_5 := blk_frozen BK131.out 5
       have hfz12_6 := blk_frozen BK131.out 6
       have p135 : 0 ≤ (x10_1 : Int) := of_decide_eq_true (by (with_reducible assumption))
       have q135 : x10_1 < (l0_6.length : Int) := of_decide_eq_true (by (with_reducible assumption))
       obtain ⟨ad135, A135_6, c135_6, e135, hx135_0, hx135_1, hx135_2, hx135_3, hx135_4, hx135_5, hx135_6, hl135_6, hi135_6⟩ := at_T26 (Kd.V_reads' HO_132006.out).2.2 x10_1 p135 q135
       cases e135
       obtain ⟨ce135, hce135, hMe135, hcc135⟩ := Kd.V_get HO_132006.out z26 x10_1 p135 q135
       obtain ⟨ua135_6, uc135_6, rfl, ul135_6, ge135_6⟩ := k26_openF hMe135
       have hv135_6 := hcc135 6 _ rfl
       rw [add_field _ _ 6 (by omega)] at hv135_6
       replace hv135_6 := Option.some.inj (hv135_6.symm.trans hx135_6)
       injection hv135_6 with hva_ hvn_ hvc_
       rw [hva_] at ge135_6
       rw [hvc_] at ul135_6
       have HL135_6 := Aside0.mk (show Kd.V k26 26 _ w.heap.size _ _ ((rd_T26 l0_6 x10_1).f3) from Kd.V_mk ul135_6 ge135_6)
       clear hva_ hvn_ hvc_ ge135_6 ul135_6
       clear hcc135 hce135
       clear hi135_6 hl135_6
       replace p135 := eq_true p135
       replace q135 := eq_true q135
       go_wp2_with (first | ((with_reducible refine gate_callee (f := 79) rfl ?_); refine goesL_ (some 19) rfl rfl Try.func79 (by kernel_rfl) rfl #[.agg #[.int .u8 ((rd_T26 l0_6 x10_1).f0), .int .i64 ((rd_T26 l0_6 x10_1).f1.f0), .int .i64 ((rd_T26 l0_6 x10_1).f1.f1), .int .i64 ((rd_T26 l0_6 x10_1).f1.f2), .int .i64 ((rd_T26 l0_6 x10_1).f1.f3), .int .i64 ((rd_T26 l0_6 x10_1).f2), .slice A135_6 ((rd_T26 l0_6 x10_1).f3).length c135_6]] rfl (by (try simp only [List.map_toArray, List.map_cons, List.map_nil]); rfl) ?_; (with_reducible refine (ih k1 (by have := HK1.out; omega) ((rd_T26 l0_6 x10_1).f0) ((rd_T26 l0_6 x10_1).f1.f0) ((rd_T26 l0_6 x10_1).f1.f1) ((rd_T26 l0_6 x10_1).f1.f2) ((rd_T26 l0_6 x10_1).f1.f3) ((rd_T26 l0_6 x10_1).f2) (fun k_ => ((P0_6_ k_ ∨ w.heap.size ≤ k_) ∧ (some k_ ≠ (u3 : Value).ownBlock ∧ k_ ≠ gb131))) _ _ ((rd_T26 l0_6 x10_1).f3) t136 _ ?side1 A10.out).mono ?_); (case side1 => exact HL135_6.out); rintro e w13 ⟨v137, rfl, ho0, hb⟩; refine ⟨_, rfl, ?_⟩; have HO138 := Aside0.mk (Kd.N_lower (Kd.N_mono (ok' := fun k_ => (P0_6_ k_ ∨ w.heap.size ≤ k_) ∧ some k_ ≠ (u3 : Value).ownBlock ∧ k_ ≠ gb131) ho0 (fun k_ hk_ => ⟨Or.elim hk_ (fun hs_ => hs_.1) (fun hn_ => (.inr (Nat.le_trans (below_size (by repeat ((with_reducible exact HB.out)))) hn_))), Or.elim hk_ (fun hs_ => hs_.2.1) (fun hn_ => (Kd.fresh' (Kd.N_lt HO_3.out) k_ hn_)), Or.elim hk_ (fun hs_ => hs_.2.2) (fun hn_ => (Kd.freshB BK131.out k_ hn_))⟩)) (below_size (by repeat ((with_reducible exact HB.out))))); replace HO_3 := Aside0.mk (Kd.N_elder' HO_3.out (Kd.N_base ho0) hb); replace HO_132006 := Aside0.mk (Kd.V_elder' HO_132006.out (Kd.N_base ho0) hb); replace HL135_6 := Aside0.mk (Kd.V_elder' HL135_6.out (Kd.N_base ho0) hb); replace BK131 := Aside0.mk (blk_below BK131.out hb); replace HB := Aside0.mk (below_step (by repeat ((with_reducible exact HB.out))) hb); (try clear hb); (try clear ho0); obtain ⟨Ao15, co15, eo15⟩ := Kd.N_slice HO138.out; subst eo15) | ((with_reducible refine gate_builtin (b := .append) (xs := #[.tmp 13, .tmp 19]) rfl ?_); at_builtin; refine Kd.N_append_rows k26 (w0 := w) w.heap.size rfl (.tmp 13) (.tmp 19) 24 26 (.agg #[(.int .u8 0), (.int .i64 0), (.int .i64 0), (.int .i64 0), (.int .i64 0), (.int .i64 0), (.slice none 0 0)]) 72 rfl Try.underlying24 info26 rfl (by decide) (by omega) u3 x3_1 t136 _ _ _ (fun k_ => (P0_6_ k_ ∨ w.heap.size ≤ k_) ∧ k_ ≠ gb131) (fun k_ => ((fun k_ => (P0_6_ k_ ∨ w.heap.size ≤ k_) ∧ k_ ≠ gb131)) k_ ∧ some k_ ≠ (u3 : Value).ownBlock) rfl rfl ?aO ?aR (fun _ hk => hk) ?aF ?aB ?aS ?aL ?_; (case aR => exact (by exact Kd.N_F (Kd.N_mono (ok' := (fun k_ => ((fun k_ => (P0_6_ k_ ∨ w.heap.size ≤ k_) ∧ k_ ≠ gb131)) k_ ∧ some k_ ≠ (u3 : Value).ownBlock)) (HO138.out) (fun k_ hk => ⟨⟨hk.1, hk.2.2⟩, hk.2.1⟩)))); (case aB => exact (by repeat ((with_reducible exact HB.out)))); (case aF => exact (fun k_ hk => ⟨(.inr (Nat.le_trans (below_size (by repeat ((with_reducible exact HB.out)))) hk)), Kd.freshB BK131.out k_ hk⟩)); (case aO => exact (by exact Kd.N_mono HO_3.out (fun _ hk => ⟨hk.1.1, hk.1.2⟩))); (case aS => exact (below_size (by repeat ((with_reducible exact HB.out))))); (case aL => have := LMc11.out; omega); intro v140 w14 ho hb hg hat; rw [← Ny139.out] at ho; have HO141 := Aside0.mk (ho); replace HO_132006 := Aside0.mk (Kd.V_afterv (ok := (fun k_ => (P0_6_ k_ ∨ w.heap.size ≤ k_) ∧ some k_ ≠ (.slice Ao15 t136.length co15 : Value).ownBlock ∧ k_ ≠ gb131)) (by exact Kd.V_mono HO_132006.out (fun _ hk => ⟨⟨hk.1.1, ⟨hk.2, hk.1.2.2⟩⟩, hk.1.2.1⟩)) hg hat); replace BK131 := Aside0.mk (blk_grown BK131.out hg (Kd.N_away HO_3.out (fun _ hk => hk.1.2))); replace HL135_6 := Aside0.mk (Kd.V_afterv (ok := (fun k_ => (P0_6_ k_ ∨ w.heap.size ≤ k_) ∧ some k_ ≠ (.slice Ao15 t136.length co15 : Value).ownBlock ∧ k_ ≠ gb131)) (by exact Kd.V_mono HL135_6.out (fun _ hk => ⟨⟨hk.1.1, ⟨hk.2, hk.1.2.2⟩⟩, hk.1.2.1⟩)) hg hat); replace HO138 := Aside0.mk (Kd.N_afterv (ok := (fun k_ => (P0_6_ k_ ∨ w.heap.size ≤ k_) ∧ k_ ≠ gb131)) (by exact Kd.N_mono HO138.out (fun _ hk => ⟨⟨hk.1, hk.2.2⟩, hk.2.1⟩)) hg hat); replace HB := Aside0.mk (hb); clear HO_3; clear ho hb hg hat))
       go_roundg k1
       case measure => have := HK1.out; omega
       case rel => exact ⟨(y139), (wrap64 (x10_1 + 1)), (by rfl), H', ⟨by have := HK1.out; omega⟩, ⟨by exact HO141.out⟩, ⟨by exact Kd.V_mono HO_132006.out (fun _ hk => ⟨hk.1.1, ⟨hk.2, hk.1.2.2⟩⟩)⟩, ⟨by exact BK131.out⟩, ⟨by repeat ((with_reducible exact HB.out))⟩⟩
      ·rw [if_neg c11] at H
       exact absurd H (by simp)
     ·rw [if_neg c9] at H
      exact absurd H (by simp)
    ·rw [if_neg c8] at H
     exact absurd H (by simp)
   ·rw [if_neg c7] at H
    have c7b0 : decide (x10_1 < (l0_6.length : Int)) = false := decide_eq_false c7
    clear c7
    obtain rfl := Option.some.inj H
    go_wp2
    go_ret
    exact ⟨_, by rfl, by exact Kd.N_mono HO_3.out (fun _ hk => hk.1), by repeat ((with_reducible exact HB.out))⟩

end Go.Proofs.Ytfdmfgaiblfbhaa.P
namespace Go.Proofs.Ytfdmfgaiblfbhaa.P
open Go.RowKit Go.Proofs.YtfdmfgaiblfbhaaW.PrintWords Go.Proofs.YtfdmfgaiblfbhaaW.PrintLast Go.Proofs.YtfdmfgaiblfbhaaW.PrintMore
attribute [local go_sem] max2_int min2_int max_two min_two max_three min_three max_four min_four   -- for this text's walks alone
set_option linter.unusedVariables false
set_option linter.unusedSimpArgs false

/-! ### sashref05_Leaves: function 126 -/
def sashref05_Leaves.l0 : Nat → List (S26) → List (S26) → Int → Int → Option ((List (S26)))
 | 0, _, _, _, _ => none
 | k + 1, x3, x4, x10, x11 => if x11 < x10 then (if 0 ≤ x11 then (if x11 < (x4.length : Int) then (if ((rd_T26 x4 x11).f0) = 1 then (if x3.length < 1954687338268 then (sashref05_Leaves.l0 k (x3 ++ [(⟨(rd_T26 x4 x11).f0, (⟨(rd_T26 x4 x11).f1.f0, (rd_T26 x4 x11).f1.f1, (rd_T26 x4 x11).f1.f2, (rd_T26 x4 x11).f1.f3⟩ : S23), (rd_T26 x4 x11).f2, (rd_T26 x4 x11).f3⟩ : S26)]) x4 x10 (wrap64 (x11 + 1))) else (none)) else (sashref05_Leaves.l0 k x3 x4 x10 (wrap64 (x11 + 1)))) else (none)) else (none)) else (some x3)
def sashref05_Leaves.f (k : Nat) (a0_0 : Int) (a0_1 : Int) (a0_2 : Int) (a0_3 : Int) (a0_4 : Int) (a0_5 : Int) (l0_6 : List (S26)) : Option ((List (S26))) := (sashref05_All.f k a0_0 a0_1 a0_2 a0_3 a0_4 a0_5 l0_6).bind fun t146 => (sashref05_Leaves.l0 k (([] : List (S26))) t146 (t146.length : Int) 0)
theorem sashref05_Leaves.mono_l : ∀ k, (∀ y0 y1 y2 y3, LeO (sashref05_Leaves.l0 k y0 y1 y2 y3) (sashref05_Leaves.l0 (k + 1) y0 y1 y2 y3))
 | 0 => fun _ _ _ _ r h => by simp [sashref05_Leaves.l0] at h
 | k + 1 => by
  have ih0 := sashref05_Leaves.mono_l k
  ·intro y0 y1 y2 y3
   unfold sashref05_Leaves.l0
   repeat' first | (with_reducible exact ih0 _ _ _ _) | (with_reducible exact LeO.refl _) | (with_reducible refine LeO.ite ?_ ?_)
theorem sashref05_Leaves.mono : ∀ a0 a1 a2 a3 a4 a5 a6 k, LeO (sashref05_Leaves.f k a0 a1 a2 a3 a4 a5 a6) (sashref05_Leaves.f (k + 1) a0 a1 a2 a3 a4 a5 a6) := by
 intro a0 a1 a2 a3 a4 a5 a6 k
 have ih0 := sashref05_Leaves.mono_l k
 unfold sashref05_Leaves.f
 repeat' first | (with_reducible exact ih0 _ _ _ _) | (with_reducible exact sashref05_All.mono _ _ _ _ _ _ _ _) | (with_reducible refine LeO.bind ?_ (fun _ => ?_))
set_option maxHeartbeats 8000000 in
set_option maxRecDepth 100000 in
theorem sashref05_Leaves.calls (k : Nat) (a0_0 : Int) (a0_1 : Int) (a0_2 : Int) (a0_3 : Int) (a0_4 : Int) (a0_5 : Int) (P0_6_ : Nat → Prop) (A0_6 : Option Addr) (c0_6 : Nat) (l0_6 : List (S26)) (r : List (S26)) (w : World) (hs0_6 : Kd.V k26 26 w w.heap.size (fun k_ => P0_6_ k_) (.slice A0_6 l0_6.length c0_6) l0_6) (h : sashref05_Leaves.f k a0_0 a0_1 a0_2 a0_3 a0_4 a0_5 l0_6 = some r) :
  Calls Try.prog 126 #[.agg #[.int .u8 a0_0, .int .i64 a0_1, .int .i64 a0_2, .int .i64 a0_3, .int .i64 a0_4, .int .i64 a0_5, .slice A0_6 l0_6.length c0_6]] w fun e w' => ∃ v0_ : Value, e = .returned (v0_) ∧ Kd.N k26 26 w' w.heap.size (fun k_ => (P0_6_ k_ ∨ w.heap.size ≤ k_)) v0_ r ∧ Below w.heap.size w w' := by
 have hu26 := Try.underlying26
 have HO0_6 := Aside0.mk (show Kd.V k26 26 w w.heap.size (fun k_ => (P0_6_ k_ ∨ w.heap.size ≤ k_)) (.slice A0_6 l0_6.length c0_6) l0_6 from Kd.V_mono hs0_6 (fun k_ hk => .inl hk))
 have HB := Aside0.mk (Below.refl w.heap.size w)
 have H : ((sashref05_All.f k a0_0 a0_1 a0_2 a0_3 a0_4 a0_5 l0_6).bind fun t146 => (sashref05_Leaves.l0 k (([] : List (S26))) t146 (t146.length : Int) 0)) = some r := h
 clear h
 obtain ⟨y143, hy143⟩ : ∃ y_ : List (S26), y_ = (([] : List (S26))) := ⟨_, rfl⟩
 replace H : ((sashref05_All.f k a0_0 a0_1 a0_2 a0_3 a0_4 a0_5 l0_6).bind fun t146 => (sashref05_Leaves.l0 k y143 t146 (t146.length : Int) 0)) = some r := by (rw [hy143]; with_reducible exact H)
 have Ny143 := Aside0.mk hy143
 clear hy143
 replace H := Option.bind_eq_some_iff.mp H
 obtain ⟨t146, A20, H⟩ := H
 replace H : (sashref05_Leaves.l0 k y143 t146 (t146.length : Int) 0) = some r := H
 have A2 := Aside0.mk A20
 clear A20
 have H' := Aside0.mk H
 clear H
 go_enter Try.func126, Try.ntmps126
 go_wp2_with (first | ((with_reducible refine gate_dst (N := 1) rfl ?_); refine box_event ?hg (N := 1) ?hd (cs := #[.int .u8 a0_0, .int .i64 a0_1, .int .i64 a0_2, .int .i64 a0_3, .int .i64 a0_4, .int .i64 a0_5, .slice A0_6 l0_6.length c0_6]) (t := 26) ?hr ?_; (case hd => rfl); (case hg => rfl); (case hr => (go_simp; done)); intro gb142 hg w3 hbox hb; have BK142 := Aside0.mk (hbox); replace HO0_6 := Aside0.mk (Kd.V_below (Kd.V_elderB HO0_6.out gb142 (Nat.le_of_eq hg.symm)) hb); replace HB := Aside0.mk (below_step (by repeat ((with_reducible exact HB.out))) hb); clear hb hbox hg) | ((with_reducible refine gate_dst (N := 6) rfl ?_); refine Kd.N_lit k26 _ 26 ?hg (N' := 6) ?hd (xs := ([] : List (S26))) (inner := []) (ok := (fun k_ => (P0_6_ k_ ∨ w.heap.size ≤ k_) ∧ k_ ≠ gb142)) (okp := (fun k_ => (P0_6_ k_ ∨ w.heap.size ≤ k_) ∧ k_ ≠ gb142)) ?hr ?hp (fun _ hk => hk) ((show ∀ k_, w3.heap.size ≤ k_ → (fun k_ => (P0_6_ k_ ∨ w.heap.size ≤ k_) ∧ k_ ≠ gb142) k_ from fun k_ hk => ⟨(.inr (Nat.le_trans (below_size (by repeat ((with_reducible exact HB.out)))) hk)), Kd.freshB BK142.out k_ hk⟩) _ (Nat.le_refl _)) (Below.refl _ _) (Nat.le_refl _) (by simp) ?_; (case hd => rfl); (case hg => rfl); (case hr => (go_simp; done)); (case hp => exact (Reps.none _ _)); intro v144 w4 ho5 hb hg_ hnew_; clear hg_ hnew_; (rw [← Ny143.out] at ho5); have HO145 := Aside0.mk (Kd.N_lower ho5 (below_size (by repeat ((with_reducible exact HB.out))))); replace HO0_6 := Aside0.mk (Kd.V_elder' HO0_6.out (Kd.N_base ho5) hb); replace BK142 := Aside0.mk (blk_below BK142.out hb); replace HB := Aside0.mk (below_step (by repeat ((with_reducible exact HB.out))) hb); clear hb ho5; have hcz6_0 : w4.cell? ⟨gb142, 0, none⟩ = some (.int .u8 a0_0) := (blk_cell BK142.out 0).trans rfl; have hcz6_1 : w4.cell? ⟨gb142, 1, none⟩ = some (.int .i64 a0_1) := (blk_cell BK142.out 1).trans rfl; have hcz6_2 : w4.cell? ⟨gb142, 2, none⟩ = some (.int .i64 a0_2) := (blk_cell BK142.out 2).trans rfl; have hcz6_3 : w4.cell? ⟨gb142, 3, none⟩ = some (.int .i64 a0_3) := (blk_cell BK142.out 3).trans rfl; have hcz6_4 : w4.cell? ⟨gb142, 4, none⟩ = some (.int .i64 a0_4) := (blk_cell BK142.out 4).trans rfl; have hcz6_5 : w4.cell? ⟨gb142, 5, none⟩ = some (.int .i64 a0_5) := (blk_cell BK142.out 5).trans rfl; have hcz6_6 : w4.cell? ⟨gb142, 6, none⟩ = some (.slice A0_6 l0_6.length c0_6) := (blk_cell BK142.out 6).trans rfl; have hfz6_0 := blk_frozen BK142.out 0; have hfz6_1 := blk_frozen BK142.out 1; have hfz6_2 := blk_frozen BK142.out 2; have hfz6_3 := blk_frozen BK142.out 3; have hfz6_4 := blk_frozen BK142.out 4; have hfz6_5 := blk_frozen BK142.out 5; have hfz6_6 := blk_frozen BK142.out 6) | ((with_reducible refine gate_callee (f := 79) rfl ?_); refine goesL_ (some 8) rfl rfl Try.func79 (by kernel_rfl) rfl #[.agg #[.int .u8 a0_0, .int .i64 a0_1, .int .i64 a0_2, .int .i64 a0_3, .int .i64 a0_4, .int .i64 a0_5, .slice A0_6 l0_6.length c0_6]] rfl (by (try simp only [List.map_toArray, List.map_cons, List.map_nil]); rfl) ?_; (with_reducible refine (sashref05_All.calls k a0_0 a0_1 a0_2 a0_3 a0_4 a0_5 (fun k_ => (((P0_6_ k_ ∨ w.heap.size ≤ k_) ∧ k_ ≠ gb142) ∧ some k_ ≠ (v144 : Value).ownBlock)) _ _ l0_6 t146 _ ?side1 A2.out).mono ?_); (case side1 => exact HO0_6.out); rintro e w7 ⟨v147, rfl, ho0, hb⟩; refine ⟨_, rfl, ?_⟩; have HO148 := Aside0.mk (Kd.N_lower (Kd.N_mono (ok' := fun k_ => (P0_6_ k_ ∨ w.heap.size ≤ k_) ∧ some k_ ≠ (v144 : Value).ownBlock ∧ k_ ≠ gb142) ho0 (fun k_ hk_ => ⟨Or.elim hk_ (fun hs_ => hs_.1.1) (fun hn_ => (.inr (Nat.le_trans (below_size (by repeat ((with_reducible exact HB.out)))) hn_))), Or.elim hk_ (fun hs_ => hs_.2) (fun hn_ => (Kd.fresh' (Kd.N_lt HO145.out) k_ hn_)), Or.elim hk_ (fun hs_ => hs_.1.2) (fun hn_ => (Kd.freshB BK142.out k_ hn_))⟩)) (below_size (by repeat ((with_reducible exact HB.out))))); replace HO0_6 := Aside0.mk (Kd.V_elder' HO0_6.out (Kd.N_base ho0) hb); replace HO145 := Aside0.mk (Kd.N_elder' HO145.out (Kd.N_base ho0) hb); replace BK142 := Aside0.mk (blk_below BK142.out hb); replace HB := Aside0.mk (below_step (by repeat ((with_reducible exact HB.out))) hb); (try clear hb); (try clear ho0); obtain ⟨Ao8, co8, eo8⟩ := Kd.N_slice HO148.out; subst eo8))
 go_loopg [3, 11] k (fun kq v3 v11 w' => ∃ (x3_1 : List (S26)) (x11_1 : Int), v11 = .int .i64 x11_1 ∧ Aside0 (sashref05_Leaves.l0 kq x3_1 t146 (t146.length : Int) x11_1 = some r) ∧ Aside0 (kq ≤ k) ∧ Aside0 (Kd.N k26 26 w' w.heap.size (fun k_ => (P0_6_ k_ ∨ w.heap.size ≤ k_) ∧ some k_ ≠ ((.slice Ao8 t146.length co8) : Value).ownBlock ∧ k_ ≠ gb142) v3 x3_1) ∧ Aside0 (Kd.N k26 26 w' w.heap.size (fun k_ => (P0_6_ k_ ∨ w.heap.size ≤ k_) ∧ some k_ ≠ (v3 : Value).ownBlock ∧ k_ ≠ gb142) (.slice Ao8 t146.length co8) t146) ∧ Aside0 (Kd.V k26 26 w' w.heap.size (fun k_ => (P0_6_ k_ ∨ w.heap.size ≤ k_) ∧ some k_ ≠ (v3 : Value).ownBlock ∧ some k_ ≠ ((.slice Ao8 t146.length co8) : Value).ownBlock ∧ k_ ≠ gb142) (.slice A0_6 l0_6.length c0_6) l0_6) ∧ Aside0 (w'.heap[gb142]? = some (.cells #[.int .u8 a0_0, .int .i64 a0_1, .int .i64 a0_2, .int .i64 a0_3, .int .i64 a0_4, .int .i64 a0_5, (.slice A0_6 l0_6.length c0_6)] 26 (0, 0))) ∧ Aside0 (Below w.heap.size w w'))
 case atStart => exact ⟨(y143), (0), (by rfl), H', ⟨Nat.le_refl _⟩, ⟨by exact Kd.N_mono HO145.out (fun _ hk => ⟨hk.1.1, ⟨hk.2, hk.1.2⟩⟩)⟩, ⟨by exact HO148.out⟩, ⟨by exact Kd.V_mono HO0_6.out (fun _ hk => ⟨hk.1.1.1, ⟨hk.1.2, ⟨hk.2, hk.1.1.2⟩⟩⟩)⟩, ⟨by exact BK142.out⟩, ⟨by repeat ((with_reducible exact HB.out))⟩⟩
 case round =>
  clear H'
  clear hcz6_0 hcz6_1 hcz6_2 hcz6_3 hcz6_4 hcz6_5 hcz6_6 hfz6_0 hfz6_1 hfz6_2 hfz6_3 hfz6_4 hfz6_5 hfz6_6
  obtain ⟨x3_1, x11_1, rfl, HA, HK1, HO_3, HO_4, HO_143006, BK142, HB⟩ := hrel
  cases gk with
  | zero => exact absurd HA.out (by simp [sashref05_Leaves.l0])
  | succ k1 =>
   have H := HA.out
   clear HA
   simp only [sashref05_Leaves.l0] at H
   by_cases c9 : x11_1 < (t146.length : Int)
   ·rw [if_pos c9] at H
    have c9b0 : decide (x11_1 < (t146.length : Int)) = true := decide_eq_true c9
    clear c9
    by_cases c10 : 0 ≤ x11_1
    ·rw [if_pos c10] at H
     have c10b0 : decide (0 ≤ x11_1) = true := decide_eq_true c10
     clear c10
     by_cases c11 : x11_1 < (t146.length : Int)
     ·rw [if_pos c11] at H
      have c11b0 : decide (x11_1 < (t146.length : Int)) = true := decide_eq_true c11
      clear c11
      by_cases c12 : ((rd_T26 t146 x11_1).f0) = 1
      ·rw [if_pos c12] at H
       have c12b0 : (((rd_T26 t146 x11_1).f0) == 1) = true := beq_iff_eq.mpr c12
       have c12b1 : (((rd_T26 t146 x11_1).f0) != 1) = false := bne_eq_false_iff_eq.mpr c12
       clear c12
       by_cases c13 : x3_1.length < 1954687338268
       ·rw [if_pos c13] at H
        have LMc13 := Aside0.mk c13
        clear c13
        obtain ⟨y151, hy151⟩ : ∃ y_ : List (S26), y_ = (x3_1 ++ [(⟨(rd_T26 t146 x11_1).f0, (⟨(rd_T26 t146 x11_1).f1.f0, (rd_T26 t146 x11_1).f1.f1, (rd_T26 t146 x11_1).f1.f2, (rd_T26 t146 x11_1).f1.f3⟩ : S23), (rd_T26 t146 x11_1).f2, (rd_T26 t146 x11_1).f3⟩ : S26)]) := ⟨_, rfl⟩
        replace H : (sashref05_Leaves.l0 k1 y151 t146 (t146.length : Int) (wrap64 (x11_1 + 1))) = some r := by (rw [hy151]; with_reducible exact H)
        have Ny151 := Aside0.mk hy151
        clear hy151
        have H' := Aside0.mk H
        clear H
        have p149 : 0 ≤ (x11_1 : Int) := of_decide_eq_true (by (with_reducible assumption))
        have q149 : x11_1 < (t146.length : Int) := of_decide_eq_true (by (with_reducible assumption))
        obtain ⟨ad149, A149_6, c149_6, e149, hx149_0, hx149_1, hx149_2, hx149_3, hx149_4, hx149_5, hx149_6, hl149_6, hi149_6⟩ := at_T26 (Kd.N_reads' HO_4.out).2.2 x11_1 p149 q149
        cases e149
        obtain ⟨ce149, hce149, hMe149, hcc149⟩ := Kd.N_get HO_4.out z26 x11_1 p149 q149
        obtain ⟨ua149_6, uc149_6, rfl, ul149_6, ge149_6⟩ := k26_openF hMe149
        have hv149_6 := hcc149 6 _ rfl
        rw [add_field _ _ 6 (by omega)] at hv149_6
        replace hv149_6 := Option.some.inj (hv149_6.symm.trans hx149_6)
        injection hv149_6 with hva_ hvn_ hvc_
        rw [hva_] at ge149_6
        rw [hvc_] at ul149_6
        clear hva_ hvn_ hvc_ ge149_6 ul149_6
        clear hcc149 hce149
        clear hi149_6 hl149_6
        replace p149 := eq_true p149
        replace q149 := eq_true q149
        have p150 : 0 ≤ (x11_1 : Int) := of_decide_eq_true (by (with_reducible assumption))
        have q150 : x11_1 < (t146.length : Int) := of_decide_eq_true (by (with_reducible assumption))
        obtain ⟨ad150, A150_6, c150_6, e150, hx150_0, hx150_1, hx150_2, hx150_3, hx150_4, hx150_5, hx150_6, hl150_6, hi150_6⟩ := at_T26 (Kd.N_reads' HO_4.out).2.2 x11_1 p150 q150
        obtain rfl : ad149 = ad150 := (by injection e150)
        obtain ⟨ce150, hce150, hMe150, hcc150⟩ := Kd.N_get HO_4.out z26 x11_1 p150 q150
        obtain ⟨ua150_6, uc150_6, rfl, ul150_6, ge150_6⟩ := k26_openF hMe150
        have hv150_6 := hcc150 6 _ rfl
        rw [add_field _ _ 6 (by omega)] at hv150_6
        replace hv150_6 := Option.some.inj (hv150_6.symm.trans hx150_6)
        injection hv150_6 with hva_ hvn_ hvc_
        rw [hva_] at ge150_6
        rw [hvc_] at ul150_6
        have HL150_6 := Aside0.mk (show Kd.V k26 26 _ w.heap.size _ _ ((rd_T26 t146 x11_1).f3) from Kd.V_mk ul150_6 ge150_6)
        clear hva_ hvn_ hvc_ ge150_6 ul150_6
        clear hcc150 hce150
        clear hi150_6 hl150_6
        replace p150 := eq_true p150
        replace q150 := eq_true q150
        have ea_ := Option.some.inj (hx149_6.symm.trans hx150_6)
        injection ea_ with ea_ en_ ec_
        subst ea_
        subst ec_
        clear en_
        go_wp2_with (((with_reducible refine gate_builtin (b := .append) (xs := #[.tmp 20, .tmp 25]) rfl ?_); at_builtin; refine Kd.N_append k26 (w0 := w) w.heap.size rfl (.tmp 20) (.tmp 25) 24 26 (.agg #[(.int .u8 0), (.int .i64 0), (.int .i64 0), (.int .i64 0), (.int .i64 0), (.int .i64 0), (.slice none 0 0)]) 72 rfl Try.underlying24 info26 rfl (by decide) (by omega) u3 x3_1 (⟨(rd_T26 t146 x11_1).f0, (⟨(rd_T26 t146 x11_1).f1.f0, (rd_T26 t146 x11_1).f1.f1, (rd_T26 t146 x11_1).f1.f2, (rd_T26 t146 x11_1).f1.f3⟩ : S23), (rd_T26 t146 x11_1).f2, (rd_T26 t146 x11_1).f3⟩ : S26) [.int .u8 ((rd_T26 t146 x11_1).f0), .int .i64 ((rd_T26 t146 x11_1).f1.f0), .int .i64 ((rd_T26 t146 x11_1).f1.f1), .int .i64 ((rd_T26 t146 x11_1).f1.f2), .int .i64 ((rd_T26 t146 x11_1).f1.f3), .int .i64 ((rd_T26 t146 x11_1).f2), .slice A149_6 ((rd_T26 t146 x11_1).f3).length c149_6] (fun k_ => (P0_6_ k_ ∨ w.heap.size ≤ k_) ∧ some k_ ≠ (.slice (some ad149) t146.length co8 : Value).ownBlock ∧ k_ ≠ gb142) (fun k_ => ((fun k_ => (P0_6_ k_ ∨ w.heap.size ≤ k_) ∧ some k_ ≠ (.slice (some ad149) t146.length co8 : Value).ownBlock ∧ k_ ≠ gb142)) k_ ∧ some k_ ≠ (u3 : Value).ownBlock) rfl rfl ?aP (fun _ hk => hk) ?aF ?aO ?aB ?aS ?aL ?_; (case aP => exact (k26_mkF _ _ (⟨(rd_T26 t146 x11_1).f0, (⟨(rd_T26 t146 x11_1).f1.f0, (rd_T26 t146 x11_1).f1.f1, (rd_T26 t146 x11_1).f1.f2, (rd_T26 t146 x11_1).f1.f3⟩ : S23), (rd_T26 t146 x11_1).f2, (rd_T26 t146 x11_1).f3⟩ : S26) (Kd.V_reads' (Kd.V_mono (ok' := (fun k_ => ((fun k_ => (P0_6_ k_ ∨ w.heap.size ≤ k_) ∧ some k_ ≠ (.slice (some ad149) t146.length co8 : Value).ownBlock ∧ k_ ≠ gb142)) k_ ∧ some k_ ≠ (u3 : Value).ownBlock)) (HL150_6.out) (fun k_ hk => ⟨⟨hk.1.1, ⟨hk.2, hk.1.2.2⟩⟩, hk.1.2.1⟩))).2.1 (Kd.V_F (Kd.V_mono (ok' := (fun k_ => ((fun k_ => (P0_6_ k_ ∨ w.heap.size ≤ k_) ∧ some k_ ≠ (.slice (some ad149) t146.length co8 : Value).ownBlock ∧ k_ ≠ gb142)) k_ ∧ some k_ ≠ (u3 : Value).ownBlock)) (HL150_6.out) (fun k_ hk => ⟨⟨hk.1.1, ⟨hk.2, hk.1.2.2⟩⟩, hk.1.2.1⟩))))); (case aB => exact (by repeat ((with_reducible exact HB.out)))); (case aF => exact (fun k_ hk => ⟨(.inr (Nat.le_trans (below_size (by repeat ((with_reducible exact HB.out)))) hk)), Kd.fresh' (Kd.N_lt HO_4.out) k_ hk, Kd.freshB BK142.out k_ hk⟩)); (case aO => exact HO_3.out); (case aS => exact (below_size (by repeat ((with_reducible exact HB.out))))); (case aL => have := LMc13.out; omega); intro v152 w14 ho hb hg hat; rw [← Ny151.out] at ho; have HO153 := Aside0.mk (ho); replace HO_4 := Aside0.mk (Kd.N_afterv (ok := (fun k_ => (P0_6_ k_ ∨ w.heap.size ≤ k_) ∧ k_ ≠ gb142)) (by exact Kd.N_mono HO_4.out (fun _ hk => ⟨⟨hk.1, hk.2.2⟩, hk.2.1⟩)) hg hat); replace HO_143006 := Aside0.mk (Kd.V_afterv (ok := (fun k_ => (P0_6_ k_ ∨ w.heap.size ≤ k_) ∧ some k_ ≠ (.slice (some ad149) t146.length co8 : Value).ownBlock ∧ k_ ≠ gb142)) (by exact Kd.V_mono HO_143006.out (fun _ hk => ⟨⟨hk.1, ⟨hk.2.2.1, hk.2.2.2⟩⟩, hk.2.1⟩)) hg hat); replace BK142 := Aside0.mk (blk_grown BK142.out hg (Kd.N_away HO_3.out (fun _ hk => hk.2.2))); replace HL150_6 := Aside0.mk (Kd.V_afterv (ok := (fun k_ => (P0_6_ k_ ∨ w.heap.size ≤ k_) ∧ some k_ ≠ (.slice (some ad149) t146.length co8 : Value).ownBlock ∧ k_ ≠ gb142)) (by exact Kd.V_mono HL150_6.out (fun _ hk => ⟨⟨hk.1.1, ⟨hk.2, hk.1.2.2⟩⟩, hk.1.2.1⟩)) hg hat); replace HB := Aside0.mk (hb); clear HO_3; clear ho hb hg hat))
        go_roundg k1
        case measure => have := HK1.out; omega
        case rel => exact ⟨(y151), (wrap64 (x11_1 + 1)), (by rfl), H', ⟨by have := HK1.out; omega⟩, ⟨by exact HO153.out⟩, ⟨by exact Kd.N_mono HO_4.out (fun _ hk => ⟨hk.1.1, ⟨hk.2, hk.1.2⟩⟩)⟩, ⟨by exact Kd.V_mono HO_143006.out (fun _ hk => ⟨hk.1.1, ⟨hk.2, ⟨hk.1.2.1, hk.1.2.2⟩⟩⟩)⟩, ⟨by exact BK142.out⟩, ⟨by repeat ((with_reducible exact HB.out))⟩⟩
       ·rw [if_neg c13] at H
        exact absurd H (by simp)
      ·rw [if_neg c12] at H
       have c12b0 : (((rd_T26 t146 x11_1).f0) == 1) = false := beq_eq_false_iff_ne.mpr c12
       have c12b1 : (((rd_T26 t146 x11_1).f0) != 1) = true := bne_iff_ne.mpr c12
       have H' := Aside0.mk H
       clear H
       have p149 : 0 ≤ (x11_1 : Int) := of_decide_eq_true (by (with_reducible assumption))
       have q149 : x11_1 < (t146.length : Int) := of_decide_eq_true (by (with_reducible assumption))
       obtain ⟨ad149, A149_6, c149_6, e149, hx149_0, hx149_1, hx149_2, hx149_3, hx149_4, hx149_5, hx149_6, hl149_6, hi149_6⟩ := at_T26 (Kd.N_reads' HO_4.out).2.2 x11_1 p149 q149
       cases e149
       obtain ⟨ce149, hce149, hMe149, hcc149⟩ := Kd.N_get HO_4.out z26 x11_1 p149 q149
       obtain ⟨ua149_6, uc149_6, rfl, ul149_6, ge149_6⟩ := k26_openF hMe149
       have hv149_6 := hcc149 6 _ rfl
       rw [add_field _ _ 6 (by omega)] at hv149_6
       replace hv149_6 := Option.some.inj (hv149_6.symm.trans hx149_6)
       injection hv149_6 with hva_ hvn_ hvc_
       rw [hva_] at ge149_6
       rw [hvc_] at ul149_6
       clear hva_ hvn_ hvc_ ge149_6 ul149_6
       clear hcc149 hce149
       clear hi149_6 hl149_6
       replace p149 := eq_true p149
       replace q149 := eq_true q149
       go_wp2
       go_roundg k1
       case measure => have := HK1.out; omega
       case rel => exact ⟨(x3_1), (wrap64 (x11_1 + 1)), (by rfl), H', ⟨by have := HK1.out; omega⟩, ⟨by exact HO_3.out⟩, ⟨by exact HO_4.out⟩, ⟨by exact HO_143006.out⟩, ⟨by exact BK142.out⟩, ⟨by repeat ((with_reducible exact HB.out))⟩⟩
     ·rw [if_neg c11] at H
      exact absurd H (by simp)
    ·rw [if_neg c10] at H
     exact absurd H (by simp)
   ·rw [if_neg c9] at H
    have c9b0 : decide (x11_1 < (t146.length : Int)) = false := decide_eq_false c9
    clear c9
    obtain rfl := Option.some.inj H
    go_wp2
    go_ret
    exact ⟨_, by rfl, by exact Kd.N_mono HO_3.out (fun _ hk => hk.1), by repeat ((with_reducible exact HB.out))⟩

end Go.Proofs.Ytfdmfgaiblfbhaa.P
namespace Go.Proofs.Ytfdmfgaiblfbhaa.P
open Go.RowKit Go.Proofs.YtfdmfgaiblfbhaaW.PrintWords Go.Proofs.YtfdmfgaiblfbhaaW.PrintLast Go.Proofs.YtfdmfgaiblfbhaaW.PrintMore
attribute [local go_sem] max2_int min2_int max_two min_two max_three min_three max_four min_four   -- for this text's walks alone
set_option linter.unusedVariables false
set_option linter.unusedSimpArgs false

/-! ### sashref04_May: function 57 -/
def sashref04_May.f (a0_0 : Int) (a0_1 : Int) (a0_2 : Int) (a0_3 : Int) : Option (Bool) := if a0_0 < 0 then (some false) else (if a0_0 > 10000 then (some false) else (if a0_1 < 0 then (some false) else (if a0_1 > 10000 then (some false) else (if a0_2 > 0 then (if a0_2 ≤ 10000 then (if a0_3 > 0 then (if a0_3 ≤ 10000 then (if (wrap64 (a0_0 + a0_2)) ≤ 10000 then (some (decide ((wrap64 (a0_1 + a0_3)) ≤ 10000))) else (some false)) else (some false)) else (some false)) else (some false)) else (some false)))))
set_option maxHeartbeats 8000000 in
set_option maxRecDepth 100000 in
theorem sashref04_May.calls (a0_0 : Int) (a0_1 : Int) (a0_2 : Int) (a0_3 : Int) (r : Bool) (w : World) (h : sashref04_May.f a0_0 a0_1 a0_2 a0_3 = some r) :
  Calls Try.prog 57 #[.agg #[.int .i64 a0_0, .int .i64 a0_1, .int .i64 a0_2, .int .i64 a0_3]] w fun e w' => e = .returned (.bool r) ∧ Below w.heap.size w w' := by
 have hu23 := Try.underlying23
 have HB := Aside0.mk (Below.refl w.heap.size w)
 have H : (if a0_0 < 0 then (some false) else (if a0_0 > 10000 then (some false) else (if a0_1 < 0 then (some false) else (if a0_1 > 10000 then (some false) else (if a0_2 > 0 then (if a0_2 ≤ 10000 then (if a0_3 > 0 then (if a0_3 ≤ 10000 then (if (wrap64 (a0_0 + a0_2)) ≤ 10000 then (some (decide ((wrap64 (a0_1 + a0_3)) ≤ 10000))) else (some false)) else (some false)) else (some false)) else (some false)) else (some false)))))) = some r := h
 clear h
 by_cases c2 : a0_0 < 0
 ·rw [if_pos c2] at H
  have c2b0 : decide (a0_0 < 0) = true := decide_eq_true c2
  clear c2
  obtain rfl := Option.some.inj H
  go_enter Try.func57, Try.ntmps57
  go_wp2_with (((with_reducible refine gate_dst (N := 1) rfl ?_); refine box_event ?hg (N := 1) ?hd (cs := #[.int .i64 a0_0, .int .i64 a0_1, .int .i64 a0_2, .int .i64 a0_3]) (t := 23) ?hr ?_; (case hd => rfl); (case hg => rfl); (case hr => (go_simp; done)); intro gb173 hg w3 hbox hb; have BK173 := Aside0.mk (hbox); replace HB := Aside0.mk (below_step (by repeat ((with_reducible exact HB.out))) hb); clear hb hbox hg; have hcz4_0 : w3.cell? ⟨gb173, 0, none⟩ = some (.int .i64 a0_0) := (blk_cell BK173.out 0).trans rfl; have hcz4_1 : w3.cell? ⟨gb173, 1, none⟩ = some (.int .i64 a0_1) := (blk_cell BK173.out 1).trans rfl; have hcz4_2 : w3.cell? ⟨gb173, 2, none⟩ = some (.int .i64 a0_2) := (blk_cell BK173.out 2).trans rfl; have hcz4_3 : w3.cell? ⟨gb173, 3, none⟩ = some (.int .i64 a0_3) := (blk_cell BK173.out 3).trans rfl; have hfz4_0 := blk_frozen BK173.out 0; have hfz4_1 := blk_frozen BK173.out 1; have hfz4_2 := blk_frozen BK173.out 2; have hfz4_3 := blk_frozen BK173.out 3))
  go_ret
  exact ⟨by rfl, by repeat ((with_reducible exact HB.out))⟩
 ·rw [if_neg c2] at H
  have c2b0 : decide (a0_0 < 0) = false := decide_eq_false c2
  clear c2
  by_cases c5 : a0_0 > 10000
  ·rw [if_pos c5] at H
   have c5b0 : decide (10000 < a0_0) = true := decide_eq_true c5
   clear c5
   obtain rfl := Option.some.inj H
   go_enter Try.func57, Try.ntmps57
   go_wp2_with (((with_reducible refine gate_dst (N := 1) rfl ?_); refine box_event ?hg (N := 1) ?hd (cs := #[.int .i64 a0_0, .int .i64 a0_1, .int .i64 a0_2, .int .i64 a0_3]) (t := 23) ?hr ?_; (case hd => rfl); (case hg => rfl); (case hr => (go_simp; done)); intro gb173 hg w6 hbox hb; have BK173 := Aside0.mk (hbox); replace HB := Aside0.mk (below_step (by repeat ((with_reducible exact HB.out))) hb); clear hb hbox hg; have hcz7_0 : w6.cell? ⟨gb173, 0, none⟩ = some (.int .i64 a0_0) := (blk_cell BK173.out 0).trans rfl; have hcz7_1 : w6.cell? ⟨gb173, 1, none⟩ = some (.int .i64 a0_1) := (blk_cell BK173.out 1).trans rfl; have hcz7_2 : w6.cell? ⟨gb173, 2, none⟩ = some (.int .i64 a0_2) := (blk_cell BK173.out 2).trans rfl; have hcz7_3 : w6.cell? ⟨gb173, 3, none⟩ = some (.int .i64 a0_3) := (blk_cell BK173.out 3).trans rfl; have hfz7_0 := blk_frozen BK173.out 0; have hfz7_1 := blk_frozen BK173.out 1; have hfz7_2 := blk_frozen BK173.out 2; have hfz7_3 := blk_frozen BK173.out 3))
   go_ret
   exact ⟨by rfl, by repeat ((with_reducible exact HB.out))⟩
  ·rw [if_neg c5] at H
   have c5b0 : decide (10000 < a0_0) = false := decide_eq_false c5
   clear c5
   by_cases c8 : a0_1 < 0
   ·rw [if_pos c8] at H
    have c8b0 : decide (a0_1 < 0) = true := decide_eq_true c8
    clear c8
    obtain rfl := Option.some.inj H
    go_enter Try.func57, Try.ntmps57
    go_wp2_with (((with_reducible refine gate_dst (N := 1) rfl ?_); refine box_event ?hg (N := 1) ?hd (cs := #[.int .i64 a0_0, .int .i64 a0_1, .int .i64 a0_2, .int .i64 a0_3]) (t := 23) ?hr ?_; (case hd => rfl); (case hg => rfl); (case hr => (go_simp; done)); intro gb173 hg w9 hbox hb; have BK173 := Aside0.mk (hbox); replace HB := Aside0.mk (below_step (by repeat ((with_reducible exact HB.out))) hb); clear hb hbox hg; have hcz10_0 : w9.cell? ⟨gb173, 0, none⟩ = some (.int .i64 a0_0) := (blk_cell BK173.out 0).trans rfl; have hcz10_1 : w9.cell? ⟨gb173, 1, none⟩ = some (.int .i64 a0_1) := (blk_cell BK173.out 1).trans rfl; have hcz10_2 : w9.cell? ⟨gb173, 2, none⟩ = some (.int .i64 a0_2) := (blk_cell BK173.out 2).trans rfl; have hcz10_3 : w9.cell? ⟨gb173, 3, none⟩ = some (.int .i64 a0_3) := (blk_cell BK173.out 3).trans rfl; have hfz10_0 := blk_frozen BK173.out 0; have hfz10_1 := blk_frozen BK173.out 1; have hfz10_2 := blk_frozen BK173.out 2; have hfz10_3 := blk_frozen BK173.out 3))
    go_ret
    exact ⟨by rfl, by repeat ((with_reducible exact HB.out))⟩
   ·rw [if_neg c8] at H
    have c8b0 : decide (a0_1 < 0) = false := decide_eq_false c8
    clear c8
    by_cases c11 : a0_1 > 10000
    ·rw [if_pos c11] at H
     have c11b0 : decide (10000 < a0_1) = true := decide_eq_true c11
     clear c11
     obtain rfl := Option.some.inj H
     go_enter Try.func57, Try.ntmps57
     go_wp2_with (((with_reducible refine gate_dst (N := 1) rfl ?_); refine box_event ?hg (N := 1) ?hd (cs := #[.int .i64 a0_0, .int .i64 a0_1, .int .i64 a0_2, .int .i64 a0_3]) (t := 23) ?hr ?_; (case hd => rfl); (case hg => rfl); (case hr => (go_simp; done)); intro gb173 hg w12 hbox hb; have BK173 := Aside0.mk (hbox); replace HB := Aside0.mk (below_step (by repeat ((with_reducible exact HB.out))) hb); clear hb hbox hg; have hcz13_0 : w12.cell? ⟨gb173, 0, none⟩ = some (.int .i64 a0_0) := (blk_cell BK173.out 0).trans rfl; have hcz13_1 : w12.cell? ⟨gb173, 1, none⟩ = some (.int .i64 a0_1) := (blk_cell BK173.out 1).trans rfl; have hcz13_2 : w12.cell? ⟨gb173, 2, none⟩ = some (.int .i64 a0_2) := (blk_cell BK173.out 2).trans rfl; have hcz13_3 : w12.cell? ⟨gb173, 3, none⟩ = some (.int .i64 a0_3) := (blk_cell BK173.out 3).trans rfl; have hfz13_0 := blk_frozen BK173.out 0; have hfz13_1 := blk_frozen BK173.out 1; have hfz13_2 := blk_frozen BK173.out 2; have hfz13_3 := blk_frozen BK173.out 3))
     go_ret
     exact ⟨by rfl, by repeat ((with_reducible exact HB.out))⟩
    ·rw [if_neg c11] at H
     have c11b0 : decide (10000 < a0_1) = false := decide_eq_false c11
     clear c11
     by_cases c14 : a0_2 > 0
     ·rw [if_pos c14] at H
      have c14b0 : decide (0 < a0_2) = true := decide_eq_true c14
      clear c14
      by_cases c15 : a0_2 ≤ 10000
      ·rw [if_pos c15] at H
       have c15b0 : decide (a0_2 ≤ 10000) = true := decide_eq_true c15
       clear c15
       by_cases c16 : a0_3 > 0
       ·rw [if_pos c16] at H
        have c16b0 : decide (0 < a0_3) = true := decide_eq_true c16
        clear c16
        by_cases c17 : a0_3 ≤ 10000
        ·rw [if_pos c17] at H
         have c17b0 : decide (a0_3 ≤ 10000) = true := decide_eq_true c17
         clear c17
         by_cases c18 : (wrap64 (a0_0 + a0_2)) ≤ 10000
         ·rw [if_pos c18] at H
          have c18b0 : decide ((wrap64 (a0_0 + a0_2)) ≤ 10000) = true := decide_eq_true c18
          clear c18
          obtain rfl := Option.some.inj H
          go_enter Try.func57, Try.ntmps57
          go_wp2_with (((with_reducible refine gate_dst (N := 1) rfl ?_); refine box_event ?hg (N := 1) ?hd (cs := #[.int .i64 a0_0, .int .i64 a0_1, .int .i64 a0_2, .int .i64 a0_3]) (t := 23) ?hr ?_; (case hd => rfl); (case hg => rfl); (case hr => (go_simp; done)); intro gb173 hg w19 hbox hb; have BK173 := Aside0.mk (hbox); replace HB := Aside0.mk (below_step (by repeat ((with_reducible exact HB.out))) hb); clear hb hbox hg; have hcz20_0 : w19.cell? ⟨gb173, 0, none⟩ = some (.int .i64 a0_0) := (blk_cell BK173.out 0).trans rfl; have hcz20_1 : w19.cell? ⟨gb173, 1, none⟩ = some (.int .i64 a0_1) := (blk_cell BK173.out 1).trans rfl; have hcz20_2 : w19.cell? ⟨gb173, 2, none⟩ = some (.int .i64 a0_2) := (blk_cell BK173.out 2).trans rfl; have hcz20_3 : w19.cell? ⟨gb173, 3, none⟩ = some (.int .i64 a0_3) := (blk_cell BK173.out 3).trans rfl; have hfz20_0 := blk_frozen BK173.out 0; have hfz20_1 := blk_frozen BK173.out 1; have hfz20_2 := blk_frozen BK173.out 2; have hfz20_3 := blk_frozen BK173.out 3))
          go_ret
          exact ⟨by rfl, by repeat ((with_reducible exact HB.out))⟩
         ·rw [if_neg c18] at H
          have c18b0 : decide ((wrap64 (a0_0 + a0_2)) ≤ 10000) = false := decide_eq_false c18
          clear c18
          obtain rfl := Option.some.inj H
          go_enter Try.func57, Try.ntmps57
          go_wp2_with (((with_reducible refine gate_dst (N := 1) rfl ?_); refine box_event ?hg (N := 1) ?hd (cs := #[.int .i64 a0_0, .int .i64 a0_1, .int .i64 a0_2, .int .i64 a0_3]) (t := 23) ?hr ?_; (case hd => rfl); (case hg => rfl); (case hr => (go_simp; done)); intro gb173 hg w21 hbox hb; have BK173 := Aside0.mk (hbox); replace HB := Aside0.mk (below_step (by repeat ((with_reducible exact HB.out))) hb); clear hb hbox hg; have hcz22_0 : w21.cell? ⟨gb173, 0, none⟩ = some (.int .i64 a0_0) := (blk_cell BK173.out 0).trans rfl; have hcz22_1 : w21.cell? ⟨gb173, 1, none⟩ = some (.int .i64 a0_1) := (blk_cell BK173.out 1).trans rfl; have hcz22_2 : w21.cell? ⟨gb173, 2, none⟩ = some (.int .i64 a0_2) := (blk_cell BK173.out 2).trans rfl; have hcz22_3 : w21.cell? ⟨gb173, 3, none⟩ = some (.int .i64 a0_3) := (blk_cell BK173.out 3).trans rfl; have hfz22_0 := blk_frozen BK173.out 0; have hfz22_1 := blk_frozen BK173.out 1; have hfz22_2 := blk_frozen BK173.out 2; have hfz22_3 := blk_frozen BK173.out 3))
          go_ret
          exact ⟨by rfl, by repeat ((with_reducible exact HB.out))⟩
        ·rw [if_neg c17] at H
         have c17b0 : decide (a0_3 ≤ 10000) = false := decide_eq_false c17
         clear c17
         obtain rfl := Option.some.inj H
         go_enter Try.func57, Try.ntmps57
         go_wp2_with (((with_reducible refine gate_dst (N := 1) rfl ?_); refine box_event ?hg (N := 1) ?hd (cs := #[.int .i64 a0_0, .int .i64 a0_1, .int .i64 a0_2, .int .i64 a0_3]) (t := 23) ?hr ?_; (case hd => rfl); (case hg => rfl); (case hr => (go_simp; done)); intro gb173 hg w23 hbox hb; have BK173 := Aside0.mk (hbox); replace HB := Aside0.mk (below_step (by repeat ((with_reducible exact HB.out))) hb); clear hb hbox hg; have hcz24_0 : w23.cell? ⟨gb173, 0, none⟩ = some (.int .i64 a0_0) := (blk_cell BK173.out 0).trans rfl; have hcz24_1 : w23.cell? ⟨gb173, 1, none⟩ = some (.int .i64 a0_1) := (blk_cell BK173.out 1).trans rfl; have hcz24_2 : w23.cell? ⟨gb173, 2, none⟩ = some (.int .i64 a0_2) := (blk_cell BK173.out 2).trans rfl; have hcz24_3 : w23.cell? ⟨gb173, 3, none⟩ = some (.int .i64 a0_3) := (blk_cell BK173.out 3).trans rfl; have hfz24_0 := blk_frozen BK173.out 0; have hfz24_1 := blk_frozen BK173.out 1; have hfz24_2 := blk_frozen BK173.out 2; have hfz24_3 := blk_frozen BK173.out 3))
         go_ret
         exact ⟨by rfl, by repeat ((with_reducible exact HB.out))⟩
       ·rw [if_neg c16] at H
        have c16b0 : decide (0 < a0_3) = false := decide_eq_false c16
        clear c16
        obtain rfl := Option.some.inj H
        go_enter Try.func57, Try.ntmps57
        go_wp2_with (((with_reducible refine gate_dst (N := 1) rfl ?_); refine box_event ?hg (N := 1) ?hd (cs := #[.int .i64 a0_0, .int .i64 a0_1, .int .i64 a0_2, .int .i64 a0_3]) (t := 23) ?hr ?_; (case hd => rfl); (case hg => rfl); (case hr => (go_simp; done)); intro gb173 hg w25 hbox hb; have BK173 := Aside0.mk (hbox); replace HB := Aside0.mk (below_step (by repeat ((with_reducible exact HB.out))) hb); clear hb hbox hg; have hcz26_0 : w25.cell? ⟨gb173, 0, none⟩ = some (.int .i64 a0_0) := (blk_cell BK173.out 0).trans rfl; have hcz26_1 : w25.cell? ⟨gb173, 1, none⟩ = some (.int .i64 a0_1) := (blk_cell BK173.out 1).trans rfl; have hcz26_2 : w25.cell? ⟨gb173, 2, none⟩ = some (.int .i64 a0_2) := (blk_cell BK173.out 2).trans rfl; have hcz26_3 : w25.cell? ⟨gb173, 3, none⟩ = some (.int .i64 a0_3) := (blk_cell BK173.out 3).trans rfl; have hfz26_0 := blk_frozen BK173.out 0; have hfz26_1 := blk_frozen BK173.out 1; have hfz26_2 := blk_frozen BK173.out 2; have hfz26_3 := blk_frozen BK173.out 3))
        go_ret
        exact ⟨by rfl, by repeat ((with_reducible exact HB.out))⟩
      ·rw [if_neg c15] at H
       have c15b0 : decide (a0_2 ≤ 10000) = false := decide_eq_false c15
       clear c15
       obtain rfl := Option.some.inj H
       go_enter Try.func57, Try.ntmps57
       go_wp2_with (((with_reducible refine gate_dst (N := 1) rfl ?_); refine box_event ?hg (N := 1) ?hd (cs := #[.int .i64 a0_0, .int .i64 a0_1, .int .i64 a0_2, .int .i64 a0_3]) (t := 23) ?hr ?_; (case hd => rfl); (case hg => rfl); (case hr => (go_simp; done)); intro gb173 hg w27 hbox hb; have BK173 := Aside0.mk (hbox); replace HB := Aside0.mk (below_step (by repeat ((with_reducible exact HB.out))) hb); clear hb hbox hg; have hcz28_0 : w27.cell? ⟨gb173, 0, none⟩ = some (.int .i64 a0_0) := (blk_cell BK173.out 0).trans rfl; have hcz28_1 : w27.cell? ⟨gb173, 1, none⟩ = some (.int .i64 a0_1) := (blk_cell BK173.out 1).trans rfl; have hcz28_2 : w27.cell? ⟨gb173, 2, none⟩ = some (.int .i64 a0_2) := (blk_cell BK173.out 2).trans rfl; have hcz28_3 : w27.cell? ⟨gb173, 3, none⟩ = some (.int .i64 a0_3) := (blk_cell BK173.out 3).trans rfl; have hfz28_0 := blk_frozen BK173.out 0; have hfz28_1 := blk_frozen BK173.out 1; have hfz28_2 := blk_frozen BK173.out 2; have hfz28_3 := blk_frozen BK173.out 3))
       go_ret
       exact ⟨by rfl, by repeat ((with_reducible exact HB.out))⟩
     ·rw [if_neg c14] at H
      have c14b0 : decide (0 < a0_2) = false := decide_eq_false c14
      clear c14
      obtain rfl := Option.some.inj H
      go_enter Try.func57, Try.ntmps57
      go_wp2_with (((with_reducible refine gate_dst (N := 1) rfl ?_); refine box_event ?hg (N := 1) ?hd (cs := #[.int .i64 a0_0, .int .i64 a0_1, .int .i64 a0_2, .int .i64 a0_3]) (t := 23) ?hr ?_; (case hd => rfl); (case hg => rfl); (case hr => (go_simp; done)); intro gb173 hg w29 hbox hb; have BK173 := Aside0.mk (hbox); replace HB := Aside0.mk (below_step (by repeat ((with_reducible exact HB.out))) hb); clear hb hbox hg; have hcz30_0 : w29.cell? ⟨gb173, 0, none⟩ = some (.int .i64 a0_0) := (blk_cell BK173.out 0).trans rfl; have hcz30_1 : w29.cell? ⟨gb173, 1, none⟩ = some (.int .i64 a0_1) := (blk_cell BK173.out 1).trans rfl; have hcz30_2 : w29.cell? ⟨gb173, 2, none⟩ = some (.int .i64 a0_2) := (blk_cell BK173.out 2).trans rfl; have hcz30_3 : w29.cell? ⟨gb173, 3, none⟩ = some (.int .i64 a0_3) := (blk_cell BK173.out 3).trans rfl; have hfz30_0 := blk_frozen BK173.out 0; have hfz30_1 := blk_frozen BK173.out 1; have hfz30_2 := blk_frozen BK173.out 2; have hfz30_3 := blk_frozen BK173.out 3))
      go_ret
      exact ⟨by rfl, by repeat ((with_reducible exact HB.out))⟩

end Go.Proofs.Ytfdmfgaiblfbhaa.P
namespace Go.Proofs.Ytfdmfgaiblfbhaa.P
open Go.RowKit Go.Proofs.YtfdmfgaiblfbhaaW.PrintWords Go.Proofs.YtfdmfgaiblfbhaaW.PrintLast Go.Proofs.YtfdmfgaiblfbhaaW.PrintMore
attribute [local go_sem] max2_int min2_int max_two min_two max_three min_three max_four min_four   -- for this text's walks alone
set_option linter.unusedVariables false
set_option linter.unusedSimpArgs false

/-! ### sashref05_May: function 38 -/
mutual
def sashref05_May.l0 : Nat → List (S26) → Int → Int → Int → Int → Int → Int → Int → Int → List (S26) → Option (Bool)
 | 0, _, _, _, _, _, _, _, _, _, _ => none
 | k + 1, x3, x14, x15, x175000, x175001, x175002, x175003, x175004, x175005, x175006 => if x15 < x14 then (if 0 ≤ x15 then (if x15 < (x3.length : Int) then ((sashref04_May.f ((rd_T26 x3 x15).f1.f0) ((rd_T26 x3 x15).f1.f1) ((rd_T26 x3 x15).f1.f2) ((rd_T26 x3 x15).f1.f3)).bind fun t179 => (if t179 = true then (if ((rd_T26 x3 x15).f0) < 1 then (sashref05_May.j1 k x3 x15 x14 x15 true x175000 x175001 x175002 x175003 x175004 x175005 x175006) else (sashref05_May.j1 k x3 x15 x14 x15 (decide (((rd_T26 x3 x15).f0) > 3)) x175000 x175001 x175002 x175003 x175004 x175005 x175006)) else (sashref05_May.j1 k x3 x15 x14 x15 true x175000 x175001 x175002 x175003 x175004 x175005 x175006))) else (none)) else (none)) else ((sashref05_Leaves.f k x175000 x175001 x175002 x175003 x175004 x175005 x175006).bind fun t192 => (sashref05_May.l1 k t192 (t192.length : Int) 0))
def sashref05_May.j1 : Nat → List (S26) → Int → Int → Int → Bool → Int → Int → Int → Int → Int → Int → List (S26) → Option (Bool)
 | 0, _, _, _, _, _, _, _, _, _, _, _, _ => none
 | k + 1, x3, x4, x14, x15, x40, x175000, x175001, x175002, x175003, x175004, x175005, x175006 => if x40 = true then (some false) else (if 0 ≤ x4 then (if x4 < (x3.length : Int) then (if ((rd_T26 x3 x4).f0) = 1 then (if (((rd_T26 x3 x4).f3).length : Int) > 0 then (some false) else (if ((rd_T26 x3 x4).f2) < 0 then (some false) else (if ((rd_T26 x3 x4).f2) > 2147483647 then (some false) else (if ((rd_T26 x3 x4).f0) > 1 then (if (((rd_T26 x3 x4).f3).length : Int) < 2 then (some false) else (if ((rd_T26 x3 x4).f2) = 0 then (sashref05_May.l0 k x3 x14 (wrap64 (x15 + 1)) x175000 x175001 x175002 x175003 x175004 x175005 x175006) else (some false))) else (sashref05_May.l0 k x3 x14 (wrap64 (x15 + 1)) x175000 x175001 x175002 x175003 x175004 x175005 x175006))))) else (if ((rd_T26 x3 x4).f0) > 1 then (if (((rd_T26 x3 x4).f3).length : Int) < 2 then (some false) else (if ((rd_T26 x3 x4).f2) = 0 then (sashref05_May.l0 k x3 x14 (wrap64 (x15 + 1)) x175000 x175001 x175002 x175003 x175004 x175005 x175006) else (some false))) else (sashref05_May.l0 k x3 x14 (wrap64 (x15 + 1)) x175000 x175001 x175002 x175003 x175004 x175005 x175006))) else (none)) else (none))
def sashref05_May.l1 : Nat → List (S26) → Int → Int → Option (Bool)
 | 0, _, _, _ => none
 | k + 1, x5, x101, x102 => if x102 < x101 then (sashref05_May.l2 k x5 x102 0 x101 x102) else (some true)
def sashref05_May.l2 : Nat → List (S26) → Int → Int → Int → Int → Option (Bool)
 | 0, _, _, _, _, _ => none
 | k + 1, x5, x6, x7, x101, x102 => if x7 < x6 then (if 0 ≤ x6 then (if x6 < (x5.length : Int) then (if 0 ≤ x7 then (if x7 < (x5.length : Int) then (if ((rd_T26 x5 x6).f2) = ((rd_T26 x5 x7).f2) then (some false) else (sashref05_May.l2 k x5 x6 (wrap64 (x7 + 1)) x101 x102)) else (none)) else (none)) else (none)) else (none)) else (sashref05_May.l1 k x5 x101 (wrap64 (x102 + 1)))
end
def sashref05_May.f (k : Nat) (a0_0 : Int) (a0_1 : Int) (a0_2 : Int) (a0_3 : Int) (a0_4 : Int) (a0_5 : Int) (l0_6 : List (S26)) : Option (Bool) := (sashref05_All.f k a0_0 a0_1 a0_2 a0_3 a0_4 a0_5 l0_6).bind fun t175 => (if (t175.length : Int) > 20000 then (some false) else (sashref05_May.l0 k t175 (t175.length : Int) 0 a0_0 a0_1 a0_2 a0_3 a0_4 a0_5 l0_6))
theorem sashref05_May.mono_l : ∀ k, (∀ y0 y1 y2 y3 y4 y5 y6 y7 y8 y9, LeO (sashref05_May.l0 k y0 y1 y2 y3 y4 y5 y6 y7 y8 y9) (sashref05_May.l0 (k + 1) y0 y1 y2 y3 y4 y5 y6 y7 y8 y9)) ∧ (∀ y0 y1 y2 y3 y4 y5 y6 y7 y8 y9 y10 y11, LeO (sashref05_May.j1 k y0 y1 y2 y3 y4 y5 y6 y7 y8 y9 y10 y11) (sashref05_May.j1 (k + 1) y0 y1 y2 y3 y4 y5 y6 y7 y8 y9 y10 y11)) ∧ (∀ y0 y1 y2, LeO (sashref05_May.l1 k y0 y1 y2) (sashref05_May.l1 (k + 1) y0 y1 y2)) ∧ (∀ y0 y1 y2 y3 y4, LeO (sashref05_May.l2 k y0 y1 y2 y3 y4) (sashref05_May.l2 (k + 1) y0 y1 y2 y3 y4))
 | 0 => ⟨fun _ _ _ _ _ _ _ _ _ _ r h => by simp [sashref05_May.l0] at h, fun _ _ _ _ _ _ _ _ _ _ _ _ r h => by simp [sashref05_May.j1] at h, fun _ _ _ r h => by simp [sashref05_May.l1] at h, fun _ _ _ _ _ r h => by simp [sashref05_May.l2] at h⟩
 | k + 1 => by
  obtain ⟨ih0, ih1, ih2, ih3⟩ := sashref05_May.mono_l k
  refine ⟨?_, ?_, ?_, ?_⟩
  ·intro y0 y1 y2 y3 y4 y5 y6 y7 y8 y9
   unfold sashref05_May.l0
   repeat' first | (with_reducible exact ih1 _ _ _ _ _ _ _ _ _ _ _ _) | (with_reducible exact ih2 _ _ _) | (with_reducible exact sashref05_Leaves.mono _ _ _ _ _ _ _ _) | (with_reducible exact LeO.refl _) | (with_reducible refine LeO.ite ?_ ?_) | (with_reducible refine LeO.bind ?_ (fun _ => ?_))
  ·intro y0 y1 y2 y3 y4 y5 y6 y7 y8 y9 y10 y11
   unfold sashref05_May.j1
   repeat' first | (with_reducible exact ih0 _ _ _ _ _ _ _ _ _ _) | (with_reducible exact LeO.refl _) | (with_reducible refine LeO.ite ?_ ?_)
  ·intro y0 y1 y2
   unfold sashref05_May.l1
   repeat' first | (with_reducible exact ih3 _ _ _ _ _) | (with_reducible exact LeO.refl _) | (with_reducible refine LeO.ite ?_ ?_)
  ·intro y0 y1 y2 y3 y4
   unfold sashref05_May.l2
   repeat' first | (with_reducible exact ih2 _ _ _) | (with_reducible exact ih3 _ _ _ _ _) | (with_reducible exact LeO.refl _) | (with_reducible refine LeO.ite ?_ ?_)
theorem sashref05_May.mono : ∀ a0 a1 a2 a3 a4 a5 a6 k, LeO (sashref05_May.f k a0 a1 a2 a3 a4 a5 a6) (sashref05_May.f (k + 1) a0 a1 a2 a3 a4 a5 a6) := by
 intro a0 a1 a2 a3 a4 a5 a6 k
 obtain ⟨ih0, ih1, ih2, ih3⟩ := sashref05_May.mono_l k
 unfold sashref05_May.f
 repeat' first | (with_reducible exact ih0 _ _ _ _ _ _ _ _ _ _) | (with_reducible exact sashref05_All.mono _ _ _ _ _ _ _ _) | (with_reducible exact LeO.refl _) | (with_reducible refine LeO.ite ?_ ?_) | (with_reducible refine LeO.bind ?_ (fun _ => ?_))
set_option maxHeartbeats 8000000 in
set_option maxRecDepth 100000 in
theorem sashref05_May.calls (k : Nat) (a0_0 : Int) (a0_1 : Int) (a0_2 : Int) (a0_3 : Int) (a0_4 : Int) (a0_5 : Int) (A0_6 : Option Addr) (c0_6 : Nat) (l0_6 : List (S26)) (r : Bool) (w : World) (hr0_6 : Kd.C k26 w A0_6 l0_6.length l0_6) (hc0_6 : l0_6.length ≤ c0_6) (h : sashref05_May.f k a0_0 a0_1 a0_2 a0_3 a0_4 a0_5 l0_6 = some r) :
  Calls Try.prog 38 #[.agg #[.int .u8 a0_0, .int .i64 a0_1, .int .i64 a0_2, .int .i64 a0_3, .int .i64 a0_4, .int .i64 a0_5, .slice A0_6 l0_6.length c0_6]] w fun e w' => e = .returned (.bool r) ∧ Below w.heap.size w w' := by
 have hu26 := Try.underlying26
 have hu23 := Try.underlying23
 have HR0_6 := Aside0.mk hr0_6
 have HC0_6 := Aside0.mk hc0_6
 clear hr0_6 hc0_6
 have HB := Aside0.mk (Below.refl w.heap.size w)
 have H : ((sashref05_All.f k a0_0 a0_1 a0_2 a0_3 a0_4 a0_5 l0_6).bind fun t175 => (if (t175.length : Int) > 20000 then (some false) else (sashref05_May.l0 k t175 (t175.length : Int) 0 a0_0 a0_1 a0_2 a0_3 a0_4 a0_5 l0_6))) = some r := h
 clear h
 replace H := Option.bind_eq_some_iff.mp H
 obtain ⟨t175, A20, H⟩ := H
 replace H : (if (t175.length : Int) > 20000 then (some false) else (sashref05_May.l0 k t175 (t175.length : Int) 0 a0_0 a0_1 a0_2 a0_3 a0_4 a0_5 l0_6)) = some r := H
 have A2 := Aside0.mk A20
 clear A20
 by_cases c3 : (t175.length : Int) > 20000
 ·rw [if_pos c3] at H
  have c3b0 : decide (20000 < (t175.length : Int)) = true := decide_eq_true c3
  have c3b1 : decide (20000 < t175.length) = true := decide_eq_true (by omega)
  clear c3
  obtain rfl := Option.some.inj H
  go_enter Try.func38, Try.ntmps38
  go_wp2_with (first | ((with_reducible refine gate_dst (N := 1) rfl ?_); (try (refine gate_guard (by rfl) ?_; dsimp only)); refine box_event ?hg (N := 1) ?hd (cs := #[.int .u8 a0_0, .int .i64 a0_1, .int .i64 a0_2, .int .i64 a0_3, .int .i64 a0_4, .int .i64 a0_5, .slice A0_6 l0_6.length c0_6]) (t := 26) ?hr ?_; (case hd => rfl); (case hg => rfl); (case hr => (go_simp; done)); intro gb174 hg w4 hbox hb; have BK174 := Aside0.mk (hbox); have GW174 := Aside0.mk ((by rw [hg]; exact (below_size (by repeat ((with_reducible exact HB.out)))) : w.heap.size ≤ gb174)); replace HB := Aside0.mk (below_step (by repeat ((with_reducible exact HB.out))) hb); clear hb hbox hg; have hcz5_0 : w4.cell? ⟨gb174, 0, none⟩ = some (.int .u8 a0_0) := (blk_cell BK174.out 0).trans rfl; have hcz5_1 : w4.cell? ⟨gb174, 1, none⟩ = some (.int .i64 a0_1) := (blk_cell BK174.out 1).trans rfl; have hcz5_2 : w4.cell? ⟨gb174, 2, none⟩ = some (.int .i64 a0_2) := (blk_cell BK174.out 2).trans rfl; have hcz5_3 : w4.cell? ⟨gb174, 3, none⟩ = some (.int .i64 a0_3) := (blk_cell BK174.out 3).trans rfl; have hcz5_4 : w4.cell? ⟨gb174, 4, none⟩ = some (.int .i64 a0_4) := (blk_cell BK174.out 4).trans rfl; have hcz5_5 : w4.cell? ⟨gb174, 5, none⟩ = some (.int .i64 a0_5) := (blk_cell BK174.out 5).trans rfl; have hcz5_6 : w4.cell? ⟨gb174, 6, none⟩ = some (.slice A0_6 l0_6.length c0_6) := (blk_cell BK174.out 6).trans rfl; have hfz5_0 := blk_frozen BK174.out 0; have hfz5_1 := blk_frozen BK174.out 1; have hfz5_2 := blk_frozen BK174.out 2; have hfz5_3 := blk_frozen BK174.out 3; have hfz5_4 := blk_frozen BK174.out 4; have hfz5_5 := blk_frozen BK174.out 5; have hfz5_6 := blk_frozen BK174.out 6) | (go_at_call 79; (with_reducible refine (sashref05_All.calls k a0_0 a0_1 a0_2 a0_3 a0_4 a0_5 (fun k_ => k_ < w.heap.size) _ _ l0_6 t175 _ ?side1 A2.out).mono ?_); (case side1 => exact Kd.V_mk HC0_6.out (Kd.F_below (Kd.C_F k26_heap HR0_6.out) (by repeat ((with_reducible exact HB.out))))); rintro e w6 ⟨v176, rfl, ho0, hb⟩; have HO177 := Aside0.mk (Kd.N_lower (Kd.N_mono (ok' := fun k_ => k_ ≠ gb174) ho0 (fun k_ hk_ => Or.elim hk_ (fun hs_ => fun e_ => Nat.not_le.2 hs_ (by rw [e_]; exact GW174.out)) (fun hn_ => (Kd.freshB BK174.out k_ hn_)))) (below_size (by repeat ((with_reducible exact HB.out))))); replace BK174 := Aside0.mk (blk_below BK174.out hb); replace HB := Aside0.mk (below_step (by repeat ((with_reducible exact HB.out))) hb); (try clear hb); (try clear ho0); obtain ⟨Ao7, co7, eo7⟩ := Kd.N_slice HO177.out; subst eo7))
  go_ret
  exact ⟨by rfl, by repeat ((with_reducible exact HB.out))⟩
 ·rw [if_neg c3] at H
  have c3b0 : decide (20000 < (t175.length : Int)) = false := decide_eq_false c3
  have c3b1 : decide (20000 < t175.length) = false := decide_eq_false (by omega)
  clear c3
  have H' := Aside0.mk H
  clear H
  go_enter Try.func38, Try.ntmps38
  go_wp2_with (first | ((with_reducible refine gate_dst (N := 1) rfl ?_); (try (refine gate_guard (by rfl) ?_; dsimp only)); refine box_event ?hg (N := 1) ?hd (cs := #[.int .u8 a0_0, .int .i64 a0_1, .int .i64 a0_2, .int .i64 a0_3, .int .i64 a0_4, .int .i64 a0_5, .slice A0_6 l0_6.length c0_6]) (t := 26) ?hr ?_; (case hd => rfl); (case hg => rfl); (case hr => (go_simp; done)); intro gb174 hg w8 hbox hb; have BK174 := Aside0.mk (hbox); have GW174 := Aside0.mk ((by rw [hg]; exact (below_size (by repeat ((with_reducible exact HB.out)))) : w.heap.size ≤ gb174)); replace HB := Aside0.mk (below_step (by repeat ((with_reducible exact HB.out))) hb); clear hb hbox hg; have hcz9_0 : w8.cell? ⟨gb174, 0, none⟩ = some (.int .u8 a0_0) := (blk_cell BK174.out 0).trans rfl; have hcz9_1 : w8.cell? ⟨gb174, 1, none⟩ = some (.int .i64 a0_1) := (blk_cell BK174.out 1).trans rfl; have hcz9_2 : w8.cell? ⟨gb174, 2, none⟩ = some (.int .i64 a0_2) := (blk_cell BK174.out 2).trans rfl; have hcz9_3 : w8.cell? ⟨gb174, 3, none⟩ = some (.int .i64 a0_3) := (blk_cell BK174.out 3).trans rfl; have hcz9_4 : w8.cell? ⟨gb174, 4, none⟩ = some (.int .i64 a0_4) := (blk_cell BK174.out 4).trans rfl; have hcz9_5 : w8.cell? ⟨gb174, 5, none⟩ = some (.int .i64 a0_5) := (blk_cell BK174.out 5).trans rfl; have hcz9_6 : w8.cell? ⟨gb174, 6, none⟩ = some (.slice A0_6 l0_6.length c0_6) := (blk_cell BK174.out 6).trans rfl; have hfz9_0 := blk_frozen BK174.out 0; have hfz9_1 := blk_frozen BK174.out 1; have hfz9_2 := blk_frozen BK174.out 2; have hfz9_3 := blk_frozen BK174.out 3; have hfz9_4 := blk_frozen BK174.out 4; have hfz9_5 := blk_frozen BK174.out 5; have hfz9_6 := blk_frozen BK174.out 6) | (go_at_call 79; (with_reducible refine (sashref05_All.calls k a0_0 a0_1 a0_2 a0_3 a0_4 a0_5 (fun k_ => k_ < w.heap.size) _ _ l0_6 t175 _ ?side1 A2.out).mono ?_); (case side1 => exact Kd.V_mk HC0_6.out (Kd.F_below (Kd.C_F k26_heap HR0_6.out) (by repeat ((with_reducible exact HB.out))))); rintro e w10 ⟨v176, rfl, ho0, hb⟩; have HO177 := Aside0.mk (Kd.N_lower (Kd.N_mono (ok' := fun k_ => k_ ≠ gb174) ho0 (fun k_ hk_ => Or.elim hk_ (fun hs_ => fun e_ => Nat.not_le.2 hs_ (by rw [e_]; exact GW174.out)) (fun hn_ => (Kd.freshB BK174.out k_ hn_)))) (below_size (by repeat ((with_reducible exact HB.out))))); replace BK174 := Aside0.mk (blk_below BK174.out hb); replace HB := Aside0.mk (below_step (by repeat ((with_reducible exact HB.out))) hb); (try clear hb); (try clear ho0); obtain ⟨Ao11, co11, eo11⟩ := Kd.N_slice HO177.out; subst eo11))
  go_loopg [15] k (fun kq v15 w' => ∃ (x15_1 : Int), v15 = .int .i64 x15_1 ∧ Aside0 (sashref05_May.l0 kq t175 (t175.length : Int) x15_1 a0_0 a0_1 a0_2 a0_3 a0_4 a0_5 l0_6 = some r) ∧ Aside0 (kq ≤ k) ∧ Aside0 (Kd.N k26 26 w' w.heap.size (fun k_ => k_ ≠ gb174) (.slice Ao11 t175.length co11) t175) ∧ Aside0 (w'.heap[gb174]? = some (.cells #[.int .u8 a0_0, .int .i64 a0_1, .int .i64 a0_2, .int .i64 a0_3, .int .i64 a0_4, .int .i64 a0_5, (.slice A0_6 l0_6.length c0_6)] 26 (0, 0))) ∧ Aside0 (Below w.heap.size w w'))
  case atStart => exact ⟨(0), (by rfl), H', ⟨Nat.le_refl _⟩, ⟨by exact HO177.out⟩, ⟨by exact BK174.out⟩, ⟨by repeat ((with_reducible exact HB.out))⟩⟩
  case round =>
   clear H'
   clear c3b0 c3b1 hcz9_0 hcz9_1 hcz9_2 hcz9_3 hcz9_4 hcz9_5 hcz9_6 hfz9_0 hfz9_1 hfz9_2 hfz9_3 hfz9_4 hfz9_5 hfz9_6
   obtain ⟨x15_1, rfl, HA, HK1, HO_3, BK174, HB⟩ := hrel
   cases gk with
   | zero => exact absurd HA.out (by simp [sashref05_May.l0])
   | succ k1 =>
    have H := HA.out
    clear HA
    simp only [sashref05_May.l0] at H
    by_cases c12 : x15_1 < (t175.length : Int)
    ·rw [if_pos c12] at H
     have c12b0 : decide (x15_1 < (t175.length : Int)) = true := decide_eq_true c12
     clear c12
     have HC13 := Aside0.mk H
     clear H
     go_upto_region 7 with (fail)
     go_cut [40] (fun v40 wc => ∃ (kq : Nat) (x40_12 : Bool), v40 = .bool x40_12 ∧ Aside0 (sashref05_May.j1 kq t175 x15_1 (t175.length : Int) x15_1 x40_12 a0_0 a0_1 a0_2 a0_3 a0_4 a0_5 l0_6 = some r) ∧ Aside0 (kq ≤ k1) ∧ Aside0 (Kd.N k26 26 wc w.heap.size (fun k_ => k_ ≠ gb174) (.slice Ao11 t175.length co11) t175) ∧ Aside0 (wc.heap[gb174]? = some (.cells #[.int .u8 a0_0, .int .i64 a0_1, .int .i64 a0_2, .int .i64 a0_3, .int .i64 a0_4, .int .i64 a0_5, (.slice A0_6 l0_6.length c0_6)] 26 (0, 0))) ∧ Aside0 (Below w.heap.size w wc))
     case first =>
      have H := HC13.out
      clear HC13
      by_cases c14 : 0 ≤ x15_1
      ·rw [if_pos c14] at H
       have c14b0 : decide (0 ≤ x15_1) = true := decide_eq_true c14
       clear c14
       (skip)
       by_cases c15 : x15_1 < (t175.length : Int)
       ·rw [if_pos c15] at H
        have c15b0 : decide (x15_1 < (t175.length : Int)) = true := decide_eq_true c15
        clear c15
        replace H := Option.bind_eq_some_iff.mp H
        obtain ⟨t179, A160, H⟩ := H
        replace H : (if t179 = true then (if ((rd_T26 t175 x15_1).f0) < 1 then (sashref05_May.j1 k1 t175 x15_1 (t175.length : Int) x15_1 true a0_0 a0_1 a0_2 a0_3 a0_4 a0_5 l0_6) else (sashref05_May.j1 k1 t175 x15_1 (t175.length : Int) x15_1 (decide (((rd_T26 t175 x15_1).f0) > 3)) a0_0 a0_1 a0_2 a0_3 a0_4 a0_5 l0_6)) else (sashref05_May.j1 k1 t175 x15_1 (t175.length : Int) x15_1 true a0_0 a0_1 a0_2 a0_3 a0_4 a0_5 l0_6)) = some r := H
        have A16 := Aside0.mk A160
        clear A160
        by_cases c17 : t179 = true
        ·subst c17
         have H1 : (if ((rd_T26 t175 x15_1).f0) < 1 then (sashref05_May.j1 k1 t175 x15_1 (t175.length : Int) x15_1 true a0_0 a0_1 a0_2 a0_3 a0_4 a0_5 l0_6) else (sashref05_May.j1 k1 t175 x15_1 (t175.length : Int) x15_1 (decide (((rd_T26 t175 x15_1).f0) > 3)) a0_0 a0_1 a0_2 a0_3 a0_4 a0_5 l0_6)) = some r := by rw [if_pos rfl] at H; exact H
         clear H
         have H := H1
         clear H1
         by_cases c18 : ((rd_T26 t175 x15_1).f0) < 1
         ·rw [if_pos c18] at H
          have c18b0 : decide (((rd_T26 t175 x15_1).f0) < 1) = true := decide_eq_true c18
          clear c18
          have H' := Aside0.mk H
          clear H
          have p178 : 0 ≤ (x15_1 : Int) := of_decide_eq_true (by (with_reducible assumption))
          have q178 : x15_1 < (t175.length : Int) := of_decide_eq_true (by (with_reducible assumption))
          obtain ⟨ad178, A178_6, c178_6, e178, hx178_0, hx178_1, hx178_2, hx178_3, hx178_4, hx178_5, hx178_6, hl178_6, hi178_6⟩ := at_T26 (Kd.N_reads' HO_3.out).2.2 x15_1 p178 q178
          cases e178
          obtain ⟨ce178, hce178, hMe178, hcc178⟩ := Kd.N_get HO_3.out z26 x15_1 p178 q178
          obtain ⟨ua178_6, uc178_6, rfl, ul178_6, ge178_6⟩ := k26_openF hMe178
          have hv178_6 := hcc178 6 _ rfl
          rw [add_field _ _ 6 (by omega)] at hv178_6
          replace hv178_6 := Option.some.inj (hv178_6.symm.trans hx178_6)
          injection hv178_6 with hva_ hvn_ hvc_
          rw [hva_] at ge178_6
          rw [hvc_] at ul178_6
          clear hva_ hvn_ hvc_ ge178_6 ul178_6
          clear hcc178 hce178
          clear hi178_6 hl178_6
          replace p178 := eq_true p178
          replace q178 := eq_true q178
          go_wp2_with ((go_at_call 57; (with_reducible refine (sashref04_May.calls ((rd_T26 t175 x15_1).f1.f0) ((rd_T26 t175 x15_1).f1.f1) ((rd_T26 t175 x15_1).f1.f2) ((rd_T26 t175 x15_1).f1.f3) true _ A16.out).mono ?_); rintro e w19 ⟨rfl, hb⟩; replace HO_3 := Aside0.mk (Kd.N_below HO_3.out hb); replace BK174 := Aside0.mk (blk_below BK174.out hb); replace HB := Aside0.mk (below_step (by repeat ((with_reducible exact HB.out))) hb); (try clear hb); have p180 : 0 ≤ (x15_1 : Int) := of_decide_eq_true (by (with_reducible assumption)); have q180 : x15_1 < (t175.length : Int) := of_decide_eq_true (by (with_reducible assumption)); obtain ⟨ad180, A180_6, c180_6, e180, hx180_0, hx180_1, hx180_2, hx180_3, hx180_4, hx180_5, hx180_6, hl180_6, hi180_6⟩ := at_T26 (Kd.N_reads' HO_3.out).2.2 x15_1 p180 q180; obtain rfl : ad178 = ad180 := (by injection e180); obtain ⟨ce180, hce180, hMe180, hcc180⟩ := Kd.N_get HO_3.out z26 x15_1 p180 q180; obtain ⟨ua180_6, uc180_6, rfl, ul180_6, ge180_6⟩ := k26_openF hMe180; have hv180_6 := hcc180 6 _ rfl; rw [add_field _ _ 6 (by omega)] at hv180_6; replace hv180_6 := Option.some.inj (hv180_6.symm.trans hx180_6); injection hv180_6 with hva_ hvn_ hvc_; rw [hva_] at ge180_6; rw [hvc_] at ul180_6; clear hva_ hvn_ hvc_ ge180_6 ul180_6; clear hcc180 hce180; clear hi180_6 hl180_6; replace p180 := eq_true p180; replace q180 := eq_true q180))
          go_meet
          case rel => exact ⟨_, (true), (by rfl), H', ⟨by have := HK1.out; omega⟩, ⟨by exact HO_3.out⟩, ⟨by exact BK174.out⟩, ⟨by repeat ((with_reducible exact HB.out))⟩⟩
         ·rw [if_neg c18] at H
          have c18b0 : decide (((rd_T26 t175 x15_1).f0) < 1) = false := decide_eq_false c18
          clear c18
          have H' := Aside0.mk H
          clear H
          have p178 : 0 ≤ (x15_1 : Int) := of_decide_eq_true (by (with_reducible assumption))
          have q178 : x15_1 < (t175.length : Int) := of_decide_eq_true (by (with_reducible assumption))
          obtain ⟨ad178, A178_6, c178_6, e178, hx178_0, hx178_1, hx178_2, hx178_3, hx178_4, hx178_5, hx178_6, hl178_6, hi178_6⟩ := at_T26 (Kd.N_reads' HO_3.out).2.2 x15_1 p178 q178
          cases e178
          obtain ⟨ce178, hce178, hMe178, hcc178⟩ := Kd.N_get HO_3.out z26 x15_1 p178 q178
          obtain ⟨ua178_6, uc178_6, rfl, ul178_6, ge178_6⟩ := k26_openF hMe178
          have hv178_6 := hcc178 6 _ rfl
          rw [add_field _ _ 6 (by omega)] at hv178_6
          replace hv178_6 := Option.some.inj (hv178_6.symm.trans hx178_6)
          injection hv178_6 with hva_ hvn_ hvc_
          rw [hva_] at ge178_6
          rw [hvc_] at ul178_6
          clear hva_ hvn_ hvc_ ge178_6 ul178_6
          clear hcc178 hce178
          clear hi178_6 hl178_6
          replace p178 := eq_true p178
          replace q178 := eq_true q178
          go_wp2_with ((go_at_call 57; (with_reducible refine (sashref04_May.calls ((rd_T26 t175 x15_1).f1.f0) ((rd_T26 t175 x15_1).f1.f1) ((rd_T26 t175 x15_1).f1.f2) ((rd_T26 t175 x15_1).f1.f3) true _ A16.out).mono ?_); rintro e w20 ⟨rfl, hb⟩; replace HO_3 := Aside0.mk (Kd.N_below HO_3.out hb); replace BK174 := Aside0.mk (blk_below BK174.out hb); replace HB := Aside0.mk (below_step (by repeat ((with_reducible exact HB.out))) hb); (try clear hb); have p180 : 0 ≤ (x15_1 : Int) := of_decide_eq_true (by (with_reducible assumption)); have q180 : x15_1 < (t175.length : Int) := of_decide_eq_true (by (with_reducible assumption)); obtain ⟨ad180, A180_6, c180_6, e180, hx180_0, hx180_1, hx180_2, hx180_3, hx180_4, hx180_5, hx180_6, hl180_6, hi180_6⟩ := at_T26 (Kd.N_reads' HO_3.out).2.2 x15_1 p180 q180; obtain rfl : ad178 = ad180 := (by injection e180); obtain ⟨ce180, hce180, hMe180, hcc180⟩ := Kd.N_get HO_3.out z26 x15_1 p180 q180; obtain ⟨ua180_6, uc180_6, rfl, ul180_6, ge180_6⟩ := k26_openF hMe180; have hv180_6 := hcc180 6 _ rfl; rw [add_field _ _ 6 (by omega)] at hv180_6; replace hv180_6 := Option.some.inj (hv180_6.symm.trans hx180_6); injection hv180_6 with hva_ hvn_ hvc_; rw [hva_] at ge180_6; rw [hvc_] at ul180_6; clear hva_ hvn_ hvc_ ge180_6 ul180_6; clear hcc180 hce180; clear hi180_6 hl180_6; replace p180 := eq_true p180; replace q180 := eq_true q180; have p181 : 0 ≤ (x15_1 : Int) := of_decide_eq_true (by (with_reducible assumption)); have q181 : x15_1 < (t175.length : Int) := of_decide_eq_true (by (with_reducible assumption)); obtain ⟨ad181, A181_6, c181_6, e181, hx181_0, hx181_1, hx181_2, hx181_3, hx181_4, hx181_5, hx181_6, hl181_6, hi181_6⟩ := at_T26 (Kd.N_reads' HO_3.out).2.2 x15_1 p181 q181; obtain rfl : ad178 = ad181 := (by injection e181); obtain ⟨ce181, hce181, hMe181, hcc181⟩ := Kd.N_get HO_3.out z26 x15_1 p181 q181; obtain ⟨ua181_6, uc181_6, rfl, ul181_6, ge181_6⟩ := k26_openF hMe181; have hv181_6 := hcc181 6 _ rfl; rw [add_field _ _ 6 (by omega)] at hv181_6; replace hv181_6 := Option.some.inj (hv181_6.symm.trans hx181_6); injection hv181_6 with hva_ hvn_ hvc_; rw [hva_] at ge181_6; rw [hvc_] at ul181_6; clear hva_ hvn_ hvc_ ge181_6 ul181_6; clear hcc181 hce181; clear hi181_6 hl181_6; replace p181 := eq_true p181; replace q181 := eq_true q181; have ea_ := Option.some.inj (hx180_6.symm.trans hx181_6); injection ea_ with ea_ en_ ec_; subst ea_; subst ec_; clear en_))
          go_meet
          case rel => exact ⟨_, (decide (((rd_T26 t175 x15_1).f0) > 3)), (by rfl), H', ⟨by have := HK1.out; omega⟩, ⟨by exact HO_3.out⟩, ⟨by exact BK174.out⟩, ⟨by repeat ((with_reducible exact HB.out))⟩⟩
        ·replace c17 := Bool.eq_false_iff.mpr c17
         subst c17
         have H1 : (sashref05_May.j1 k1 t175 x15_1 (t175.length : Int) x15_1 true a0_0 a0_1 a0_2 a0_3 a0_4 a0_5 l0_6) = some r := by rw [if_neg (show ¬ (false = true) by decide)] at H; exact H
         clear H
         have H := H1
         clear H1
         have H' := Aside0.mk H
         clear H
         have p178 : 0 ≤ (x15_1 : Int) := of_decide_eq_true (by (with_reducible assumption))
         have q178 : x15_1 < (t175.length : Int) := of_decide_eq_true (by (with_reducible assumption))
         obtain ⟨ad178, A178_6, c178_6, e178, hx178_0, hx178_1, hx178_2, hx178_3, hx178_4, hx178_5, hx178_6, hl178_6, hi178_6⟩ := at_T26 (Kd.N_reads' HO_3.out).2.2 x15_1 p178 q178
         cases e178
         obtain ⟨ce178, hce178, hMe178, hcc178⟩ := Kd.N_get HO_3.out z26 x15_1 p178 q178
         obtain ⟨ua178_6, uc178_6, rfl, ul178_6, ge178_6⟩ := k26_openF hMe178
         have hv178_6 := hcc178 6 _ rfl
         rw [add_field _ _ 6 (by omega)] at hv178_6
         replace hv178_6 := Option.some.inj (hv178_6.symm.trans hx178_6)
         injection hv178_6 with hva_ hvn_ hvc_
         rw [hva_] at ge178_6
         rw [hvc_] at ul178_6
         clear hva_ hvn_ hvc_ ge178_6 ul178_6
         clear hcc178 hce178
         clear hi178_6 hl178_6
         replace p178 := eq_true p178
         replace q178 := eq_true q178
         go_wp2_with ((go_at_call 57; (with_reducible refine (sashref04_May.calls ((rd_T26 t175 x15_1).f1.f0) ((rd_T26 t175 x15_1).f1.f1) ((rd_T26 t175 x15_1).f1.f2) ((rd_T26 t175 x15_1).f1.f3) false _ A16.out).mono ?_); rintro e w21 ⟨rfl, hb⟩; replace HO_3 := Aside0.mk (Kd.N_below HO_3.out hb); replace BK174 := Aside0.mk (blk_below BK174.out hb); replace HB := Aside0.mk (below_step (by repeat ((with_reducible exact HB.out))) hb); (try clear hb)))
         go_meet
         case rel => exact ⟨_, (true), (by rfl), H', ⟨by have := HK1.out; omega⟩, ⟨by exact HO_3.out⟩, ⟨by exact BK174.out⟩, ⟨by repeat ((with_reducible exact HB.out))⟩⟩
       ·rw [if_neg c15] at H
        exact absurd H (by simp)
      ·rw [if_neg c14] at H
       exact absurd H (by simp)
     case rest =>
      clear HC13
      clear c12b0
      obtain ⟨kq, x40_12, rfl, HA, HJ12, HO_3, BK174, HB⟩ := hcut
      cases kq with
      | zero => exact absurd HA.out (by simp [sashref05_May.j1])
      | succ kj12 =>
       have H := HA.out
       clear HA
       simp only [sashref05_May.j1] at H
       by_cases c22 : x40_12 = true
       ·subst c22
        have H1 : (some false) = some r := by rw [if_pos rfl] at H; exact H
        clear H
        have H := H1
        clear H1
        obtain rfl := Option.some.inj H
        go_wp2
        go_ret
        exact ⟨by rfl, by repeat ((with_reducible exact HB.out))⟩
       ·replace c22 := Bool.eq_false_iff.mpr c22
        subst c22
        have H1 : (if 0 ≤ x15_1 then (if x15_1 < (t175.length : Int) then (if ((rd_T26 t175 x15_1).f0) = 1 then (if (((rd_T26 t175 x15_1).f3).length : Int) > 0 then (some false) else (if ((rd_T26 t175 x15_1).f2) < 0 then (some false) else (if ((rd_T26 t175 x15_1).f2) > 2147483647 then (some false) else (if ((rd_T26 t175 x15_1).f0) > 1 then (if (((rd_T26 t175 x15_1).f3).length : Int) < 2 then (some false) else (if ((rd_T26 t175 x15_1).f2) = 0 then (sashref05_May.l0 kj12 t175 (t175.length : Int) (wrap64 (x15_1 + 1)) a0_0 a0_1 a0_2 a0_3 a0_4 a0_5 l0_6) else (some false))) else (sashref05_May.l0 kj12 t175 (t175.length : Int) (wrap64 (x15_1 + 1)) a0_0 a0_1 a0_2 a0_3 a0_4 a0_5 l0_6))))) else (if ((rd_T26 t175 x15_1).f0) > 1 then (if (((rd_T26 t175 x15_1).f3).length : Int) < 2 then (some false) else (if ((rd_T26 t175 x15_1).f2) = 0 then (sashref05_May.l0 kj12 t175 (t175.length : Int) (wrap64 (x15_1 + 1)) a0_0 a0_1 a0_2 a0_3 a0_4 a0_5 l0_6) else (some false))) else (sashref05_May.l0 kj12 t175 (t175.length : Int) (wrap64 (x15_1 + 1)) a0_0 a0_1 a0_2 a0_3 a0_4 a0_5 l0_6))) else (none)) else (none)) = some r := by rw [if_neg (show ¬ (false = true) by decide)] at H; exact H
        clear H
        have H := H1
        clear H1
        by_cases c23 : 0 ≤ x15_1
        ·rw [if_pos c23] at H
         have c23b0 : decide (0 ≤ x15_1) = true := decide_eq_true c23
         clear c23
         by_cases c24 : x15_1 < (t175.length : Int)
         ·rw [if_pos c24] at H
          have c24b0 : decide (x15_1 < (t175.length : Int)) = true := decide_eq_true c24
          clear c24
          by_cases c25 : ((rd_T26 t175 x15_1).f0) = 1
          ·rw [if_pos c25] at H
           have c25b0 : (((rd_T26 t175 x15_1).f0) == 1) = true := beq_iff_eq.mpr c25
           have c25b1 : (((rd_T26 t175 x15_1).f0) != 1) = false := bne_eq_false_iff_eq.mpr c25
           clear c25
           by_cases c26 : (((rd_T26 t175 x15_1).f3).length : Int) > 0
           ·rw [if_pos c26] at H
            have c26b0 : decide (0 < (((rd_T26 t175 x15_1).f3).length : Int)) = true := decide_eq_true c26
            have c26b1 : decide (0 < ((rd_T26 t175 x15_1).f3).length) = true := decide_eq_true (by omega)
            clear c26
            obtain rfl := Option.some.inj H
            have p182 : 0 ≤ (x15_1 : Int) := of_decide_eq_true (by (with_reducible assumption))
            have q182 : x15_1 < (t175.length : Int) := of_decide_eq_true (by (with_reducible assumption))
            obtain ⟨ad182, A182_6, c182_6, e182, hx182_0, hx182_1, hx182_2, hx182_3, hx182_4, hx182_5, hx182_6, hl182_6, hi182_6⟩ := at_T26 (Kd.N_reads' HO_3.out).2.2 x15_1 p182 q182
            cases e182
            obtain ⟨ce182, hce182, hMe182, hcc182⟩ := Kd.N_get HO_3.out z26 x15_1 p182 q182
            obtain ⟨ua182_6, uc182_6, rfl, ul182_6, ge182_6⟩ := k26_openF hMe182
            have hv182_6 := hcc182 6 _ rfl
            rw [add_field _ _ 6 (by omega)] at hv182_6
            replace hv182_6 := Option.some.inj (hv182_6.symm.trans hx182_6)
            injection hv182_6 with hva_ hvn_ hvc_
            rw [hva_] at ge182_6
            rw [hvc_] at ul182_6
            clear hva_ hvn_ hvc_ ge182_6 ul182_6
            clear hcc182 hce182
            clear hi182_6 hl182_6
            replace p182 := eq_true p182
            replace q182 := eq_true q182
            have p183 : 0 ≤ (x15_1 : Int) := of_decide_eq_true (by (with_reducible assumption))
            have q183 : x15_1 < (t175.length : Int) := of_decide_eq_true (by (with_reducible assumption))
            obtain ⟨ad183, A183_6, c183_6, e183, hx183_0, hx183_1, hx183_2, hx183_3, hx183_4, hx183_5, hx183_6, hl183_6, hi183_6⟩ := at_T26 (Kd.N_reads' HO_3.out).2.2 x15_1 p183 q183
            obtain rfl : ad182 = ad183 := (by injection e183)
            obtain ⟨ce183, hce183, hMe183, hcc183⟩ := Kd.N_get HO_3.out z26 x15_1 p183 q183
            obtain ⟨ua183_6, uc183_6, rfl, ul183_6, ge183_6⟩ := k26_openF hMe183
            have hv183_6 := hcc183 6 _ rfl
            rw [add_field _ _ 6 (by omega)] at hv183_6
            replace hv183_6 := Option.some.inj (hv183_6.symm.trans hx183_6)
            injection hv183_6 with hva_ hvn_ hvc_
            rw [hva_] at ge183_6
            rw [hvc_] at ul183_6
            clear hva_ hvn_ hvc_ ge183_6 ul183_6
            clear hcc183 hce183
            clear hi183_6 hl183_6
            replace p183 := eq_true p183
            replace q183 := eq_true q183
            have ea_ := Option.some.inj (hx182_6.symm.trans hx183_6)
            injection ea_ with ea_ en_ ec_
            subst ea_
            subst ec_
            clear en_
            go_wp2
            go_ret
            exact ⟨by rfl, by repeat ((with_reducible exact HB.out))⟩
           ·rw [if_neg c26] at H
            have c26b0 : decide (0 < (((rd_T26 t175 x15_1).f3).length : Int)) = false := decide_eq_false c26
            have c26b1 : decide (0 < ((rd_T26 t175 x15_1).f3).length) = false := decide_eq_false (by omega)
            clear c26
            by_cases c27 : ((rd_T26 t175 x15_1).f2) < 0
            ·rw [if_pos c27] at H
             have c27b0 : decide (((rd_T26 t175 x15_1).f2) < 0) = true := decide_eq_true c27
             clear c27
             obtain rfl := Option.some.inj H
             have p182 : 0 ≤ (x15_1 : Int) := of_decide_eq_true (by (with_reducible assumption))
             have q182 : x15_1 < (t175.length : Int) := of_decide_eq_true (by (with_reducible assumption))
             obtain ⟨ad182, A182_6, c182_6, e182, hx182_0, hx182_1, hx182_2, hx182_3, hx182_4, hx182_5, hx182_6, hl182_6, hi182_6⟩ := at_T26 (Kd.N_reads' HO_3.out).2.2 x15_1 p182 q182
             cases e182
             obtain ⟨ce182, hce182, hMe182, hcc182⟩ := Kd.N_get HO_3.out z26 x15_1 p182 q182
             obtain ⟨ua182_6, uc182_6, rfl, ul182_6, ge182_6⟩ := k26_openF hMe182
             have hv182_6 := hcc182 6 _ rfl
             rw [add_field _ _ 6 (by omega)] at hv182_6
             replace hv182_6 := Option.some.inj (hv182_6.symm.trans hx182_6)
             injection hv182_6 with hva_ hvn_ hvc_
             rw [hva_] at ge182_6
             rw [hvc_] at ul182_6
             clear hva_ hvn_ hvc_ ge182_6 ul182_6
             clear hcc182 hce182
             clear hi182_6 hl182_6
             replace p182 := eq_true p182
             replace q182 := eq_true q182
             have p183 : 0 ≤ (x15_1 : Int) := of_decide_eq_true (by (with_reducible assumption))
             have q183 : x15_1 < (t175.length : Int) := of_decide_eq_true (by (with_reducible assumption))
             obtain ⟨ad183, A183_6, c183_6, e183, hx183_0, hx183_1, hx183_2, hx183_3, hx183_4, hx183_5, hx183_6, hl183_6, hi183_6⟩ := at_T26 (Kd.N_reads' HO_3.out).2.2 x15_1 p183 q183
             obtain rfl : ad182 = ad183 := (by injection e183)
             obtain ⟨ce183, hce183, hMe183, hcc183⟩ := Kd.N_get HO_3.out z26 x15_1 p183 q183
             obtain ⟨ua183_6, uc183_6, rfl, ul183_6, ge183_6⟩ := k26_openF hMe183
             have hv183_6 := hcc183 6 _ rfl
             rw [add_field _ _ 6 (by omega)] at hv183_6
             replace hv183_6 := Option.some.inj (hv183_6.symm.trans hx183_6)
             injection hv183_6 with hva_ hvn_ hvc_
             rw [hva_] at ge183_6
             rw [hvc_] at ul183_6
             clear hva_ hvn_ hvc_ ge183_6 ul183_6
             clear hcc183 hce183
             clear hi183_6 hl183_6
             replace p183 := eq_true p183
             replace q183 := eq_true q183
             have ea_ := Option.some.inj (hx182_6.symm.trans hx183_6)
             injection ea_ with ea_ en_ ec_
             subst ea_
             subst ec_
             clear en_
             have p184 : 0 ≤ (x15_1 : Int) := of_decide_eq_true (by (with_reducible assumption))
             have q184 : x15_1 < (t175.length : Int) := of_decide_eq_true (by (with_reducible assumption))
             obtain ⟨ad184, A184_6, c184_6, e184, hx184_0, hx184_1, hx184_2, hx184_3, hx184_4, hx184_5, hx184_6, hl184_6, hi184_6⟩ := at_T26 (Kd.N_reads' HO_3.out).2.2 x15_1 p184 q184
             obtain rfl : ad182 = ad184 := (by injection e184)
             obtain ⟨ce184, hce184, hMe184, hcc184⟩ := Kd.N_get HO_3.out z26 x15_1 p184 q184
             obtain ⟨ua184_6, uc184_6, rfl, ul184_6, ge184_6⟩ := k26_openF hMe184
             have hv184_6 := hcc184 6 _ rfl
             rw [add_field _ _ 6 (by omega)] at hv184_6
             replace hv184_6 := Option.some.inj (hv184_6.symm.trans hx184_6)
             injection hv184_6 with hva_ hvn_ hvc_
             rw [hva_] at ge184_6
             rw [hvc_] at ul184_6
             clear hva_ hvn_ hvc_ ge184_6 ul184_6
             clear hcc184 hce184
             clear hi184_6 hl184_6
             replace p184 := eq_true p184
             replace q184 := eq_true q184
             have ea_ := Option.some.inj (hx182_6.symm.trans hx184_6)
             injection ea_ with ea_ en_ ec_
             subst ea_
             subst ec_
             clear en_
             go_wp2
             go_ret
             exact ⟨by rfl, by repeat ((with_reducible exact HB.out))⟩
            ·rw [if_neg c27] at H
             have c27b0 : decide (((rd_T26 t175 x15_1).f2) < 0) = false := decide_eq_false c27
             clear c27
             by_cases c28 : ((rd_T26 t175 x15_1).f2) > 2147483647
             ·rw [if_pos c28] at H
              have c28b0 : decide (2147483647 < ((rd_T26 t175 x15_1).f2)) = true := decide_eq_true c28
              clear c28
              obtain rfl := Option.some.inj H
              have p182 : 0 ≤ (x15_1 : Int) := of_decide_eq_true (by (with_reducible assumption))
              have q182 : x15_1 < (t175.length : Int) := of_decide_eq_true (by (with_reducible assumption))
              obtain ⟨ad182, A182_6, c182_6, e182, hx182_0, hx182_1, hx182_2, hx182_3, hx182_4, hx182_5, hx182_6, hl182_6, hi182_6⟩ := at_T26 (Kd.N_reads' HO_3.out).2.2 x15_1 p182 q182
              cases e182
              obtain ⟨ce182, hce182, hMe182, hcc182⟩ := Kd.N_get HO_3.out z26 x15_1 p182 q182
              obtain ⟨ua182_6, uc182_6, rfl, ul182_6, ge182_6⟩ := k26_openF hMe182
              have hv182_6 := hcc182 6 _ rfl
              rw [add_field _ _ 6 (by omega)] at hv182_6
              replace hv182_6 := Option.some.inj (hv182_6.symm.trans hx182_6)
              injection hv182_6 with hva_ hvn_ hvc_
              rw [hva_] at ge182_6
              rw [hvc_] at ul182_6
              clear hva_ hvn_ hvc_ ge182_6 ul182_6
              clear hcc182 hce182
              clear hi182_6 hl182_6
              replace p182 := eq_true p182
              replace q182 := eq_true q182
              have p183 : 0 ≤ (x15_1 : Int) := of_decide_eq_true (by (with_reducible assumption))
              have q183 : x15_1 < (t175.length : Int) := of_decide_eq_true (by (with_reducible assumption))
              obtain ⟨ad183, A183_6, c183_6, e183, hx183_0, hx183_1, hx183_2, hx183_3, hx183_4, hx183_5, hx183_6, hl183_6, hi183_6⟩ := at_T26 (Kd.N_reads' HO_3.out).2.2 x15_1 p183 q183
              obtain rfl : ad182 = ad183 := (by injection e183)
              obtain ⟨ce183, hce183, hMe183, hcc183⟩ := Kd.N_get HO_3.out z26 x15_1 p183 q183
              obtain ⟨ua183_6, uc183_6, rfl, ul183_6, ge183_6⟩ := k26_openF hMe183
              have hv183_6 := hcc183 6 _ rfl
              rw [add_field _ _ 6 (by omega)] at hv183_6
              replace hv183_6 := Option.some.inj (hv183_6.symm.trans hx183_6)
              injection hv183_6 with hva_ hvn_ hvc_
              rw [hva_] at ge183_6
              rw [hvc_] at ul183_6
              clear hva_ hvn_ hvc_ ge183_6 ul183_6
              clear hcc183 hce183
              clear hi183_6 hl183_6
              replace p183 := eq_true p183
              replace q183 := eq_true q183
              have ea_ := Option.some.inj (hx182_6.symm.trans hx183_6)
              injection ea_ with ea_ en_ ec_
              subst ea_
              subst ec_
              clear en_
              have p184 : 0 ≤ (x15_1 : Int) := of_decide_eq_true (by (with_reducible assumption))
              have q184 : x15_1 < (t175.length : Int) := of_decide_eq_true (by (with_reducible assumption))
              obtain ⟨ad184, A184_6, c184_6, e184, hx184_0, hx184_1, hx184_2, hx184_3, hx184_4, hx184_5, hx184_6, hl184_6, hi184_6⟩ := at_T26 (Kd.N_reads' HO_3.out).2.2 x15_1 p184 q184
              obtain rfl : ad182 = ad184 := (by injection e184)
              obtain ⟨ce184, hce184, hMe184, hcc184⟩ := Kd.N_get HO_3.out z26 x15_1 p184 q184
              obtain ⟨ua184_6, uc184_6, rfl, ul184_6, ge184_6⟩ := k26_openF hMe184
              have hv184_6 := hcc184 6 _ rfl
              rw [add_field _ _ 6 (by omega)] at hv184_6
              replace hv184_6 := Option.some.inj (hv184_6.symm.trans hx184_6)
              injection hv184_6 with hva_ hvn_ hvc_
              rw [hva_] at ge184_6
              rw [hvc_] at ul184_6
              clear hva_ hvn_ hvc_ ge184_6 ul184_6
              clear hcc184 hce184
              clear hi184_6 hl184_6
              replace p184 := eq_true p184
              replace q184 := eq_true q184
              have ea_ := Option.some.inj (hx182_6.symm.trans hx184_6)
              injection ea_ with ea_ en_ ec_
              subst ea_
              subst ec_
              clear en_
              have p185 : 0 ≤ (x15_1 : Int) := of_decide_eq_true (by (with_reducible assumption))
              have q185 : x15_1 < (t175.length : Int) := of_decide_eq_true (by (with_reducible assumption))
              obtain ⟨ad185, A185_6, c185_6, e185, hx185_0, hx185_1, hx185_2, hx185_3, hx185_4, hx185_5, hx185_6, hl185_6, hi185_6⟩ := at_T26 (Kd.N_reads' HO_3.out).2.2 x15_1 p185 q185
              obtain rfl : ad182 = ad185 := (by injection e185)
              obtain ⟨ce185, hce185, hMe185, hcc185⟩ := Kd.N_get HO_3.out z26 x15_1 p185 q185
              obtain ⟨ua185_6, uc185_6, rfl, ul185_6, ge185_6⟩ := k26_openF hMe185
              have hv185_6 := hcc185 6 _ rfl
              rw [add_field _ _ 6 (by omega)] at hv185_6
              replace hv185_6 := Option.some.inj (hv185_6.symm.trans hx185_6)
              injection hv185_6 with hva_ hvn_ hvc_
              rw [hva_] at ge185_6
              rw [hvc_] at ul185_6
              clear hva_ hvn_ hvc_ ge185_6 ul185_6
              clear hcc185 hce185
              clear hi185_6 hl185_6
              replace p185 := eq_true p185
              replace q185 := eq_true q185
              have ea_ := Option.some.inj (hx182_6.symm.trans hx185_6)
              injection ea_ with ea_ en_ ec_
              subst ea_
              subst ec_
              clear en_
              go_wp2
              go_ret
              exact ⟨by rfl, by repeat ((with_reducible exact HB.out))⟩
             ·rw [if_neg c28] at H
              have c28b0 : decide (2147483647 < ((rd_T26 t175 x15_1).f2)) = false := decide_eq_false c28
              clear c28
              by_cases c29 : ((rd_T26 t175 x15_1).f0) > 1
              ·rw [if_pos c29] at H
               have c29b0 : decide (1 < ((rd_T26 t175 x15_1).f0)) = true := decide_eq_true c29
               clear c29
               by_cases c30 : (((rd_T26 t175 x15_1).f3).length : Int) < 2
               ·rw [if_pos c30] at H
                have c30b0 : decide ((((rd_T26 t175 x15_1).f3).length : Int) < 2) = true := decide_eq_true c30
                have c30b1 : decide (((rd_T26 t175 x15_1).f3).length < 2) = true := decide_eq_true (by omega)
                clear c30
                obtain rfl := Option.some.inj H
                have p182 : 0 ≤ (x15_1 : Int) := of_decide_eq_true (by (with_reducible assumption))
                have q182 : x15_1 < (t175.length : Int) := of_decide_eq_true (by (with_reducible assumption))
                obtain ⟨ad182, A182_6, c182_6, e182, hx182_0, hx182_1, hx182_2, hx182_3, hx182_4, hx182_5, hx182_6, hl182_6, hi182_6⟩ := at_T26 (Kd.N_reads' HO_3.out).2.2 x15_1 p182 q182
                cases e182
                obtain ⟨ce182, hce182, hMe182, hcc182⟩ := Kd.N_get HO_3.out z26 x15_1 p182 q182
                obtain ⟨ua182_6, uc182_6, rfl, ul182_6, ge182_6⟩ := k26_openF hMe182
                have hv182_6 := hcc182 6 _ rfl
                rw [add_field _ _ 6 (by omega)] at hv182_6
                replace hv182_6 := Option.some.inj (hv182_6.symm.trans hx182_6)
                injection hv182_6 with hva_ hvn_ hvc_
                rw [hva_] at ge182_6
                rw [hvc_] at ul182_6
                clear hva_ hvn_ hvc_ ge182_6 ul182_6
                clear hcc182 hce182
                clear hi182_6 hl182_6
                replace p182 := eq_true p182
                replace q182 := eq_true q182
                have p183 : 0 ≤ (x15_1 : Int) := of_decide_eq_true (by (with_reducible assumption))
                have q183 : x15_1 < (t175.length : Int) := of_decide_eq_true (by (with_reducible assumption))
                obtain ⟨ad183, A183_6, c183_6, e183, hx183_0, hx183_1, hx183_2, hx183_3, hx183_4, hx183_5, hx183_6, hl183_6, hi183_6⟩ := at_T26 (Kd.N_reads' HO_3.out).2.2 x15_1 p183 q183
                obtain rfl : ad182 = ad183 := (by injection e183)
                obtain ⟨ce183, hce183, hMe183, hcc183⟩ := Kd.N_get HO_3.out z26 x15_1 p183 q183
                obtain ⟨ua183_6, uc183_6, rfl, ul183_6, ge183_6⟩ := k26_openF hMe183
                have hv183_6 := hcc183 6 _ rfl
                rw [add_field _ _ 6 (by omega)] at hv183_6
                replace hv183_6 := Option.some.inj (hv183_6.symm.trans hx183_6)
                injection hv183_6 with hva_ hvn_ hvc_
                rw [hva_] at ge183_6
                rw [hvc_] at ul183_6
                clear hva_ hvn_ hvc_ ge183_6 ul183_6
                clear hcc183 hce183
                clear hi183_6 hl183_6
                replace p183 := eq_true p183
                replace q183 := eq_true q183
                have ea_ := Option.some.inj (hx182_6.symm.trans hx183_6)
                injection ea_ with ea_ en_ ec_
                subst ea_
                subst ec_
                clear en_
                have p184 : 0 ≤ (x15_1 : Int) := of_decide_eq_true (by (with_reducible assumption))
                have q184 : x15_1 < (t175.length : Int) := of_decide_eq_true (by (with_reducible assumption))
                obtain ⟨ad184, A184_6, c184_6, e184, hx184_0, hx184_1, hx184_2, hx184_3, hx184_4, hx184_5, hx184_6, hl184_6, hi184_6⟩ := at_T26 (Kd.N_reads' HO_3.out).2.2 x15_1 p184 q184
                obtain rfl : ad182 = ad184 := (by injection e184)
                obtain ⟨ce184, hce184, hMe184, hcc184⟩ := Kd.N_get HO_3.out z26 x15_1 p184 q184
                obtain ⟨ua184_6, uc184_6, rfl, ul184_6, ge184_6⟩ := k26_openF hMe184
                have hv184_6 := hcc184 6 _ rfl
                rw [add_field _ _ 6 (by omega)] at hv184_6
                replace hv184_6 := Option.some.inj (hv184_6.symm.trans hx184_6)
                injection hv184_6 with hva_ hvn_ hvc_
                rw [hva_] at ge184_6
                rw [hvc_] at ul184_6
                clear hva_ hvn_ hvc_ ge184_6 ul184_6
                clear hcc184 hce184
                clear hi184_6 hl184_6
                replace p184 := eq_true p184
                replace q184 := eq_true q184
                have ea_ := Option.some.inj (hx182_6.symm.trans hx184_6)
                injection ea_ with ea_ en_ ec_
                subst ea_
                subst ec_
                clear en_
                have p185 : 0 ≤ (x15_1 : Int) := of_decide_eq_true (by (with_reducible assumption))
                have q185 : x15_1 < (t175.length : Int) := of_decide_eq_true (by (with_reducible assumption))
                obtain ⟨ad185, A185_6, c185_6, e185, hx185_0, hx185_1, hx185_2, hx185_3, hx185_4, hx185_5, hx185_6, hl185_6, hi185_6⟩ := at_T26 (Kd.N_reads' HO_3.out).2.2 x15_1 p185 q185
                obtain rfl : ad182 = ad185 := (by injection e185)
                obtain ⟨ce185, hce185, hMe185, hcc185⟩ := Kd.N_get HO_3.out z26 x15_1 p185 q185
                obtain ⟨ua185_6, uc185_6, rfl, ul185_6, ge185_6⟩ := k26_openF hMe185
                have hv185_6 := hcc185 6 _ rfl
                rw [add_field _ _ 6 (by omega)] at hv185_6
                replace hv185_6 := Option.some.inj (hv185_6.symm.trans hx185_6)
                injection hv185_6 with hva_ hvn_ hvc_
                rw [hva_] at ge185_6
                rw [hvc_] at ul185_6
                clear hva_ hvn_ hvc_ ge185_6 ul185_6
                clear hcc185 hce185
                clear hi185_6 hl185_6
                replace p185 := eq_true p185
                replace q185 := eq_true q185
                have ea_ := Option.some.inj (hx182_6.symm.trans hx185_6)
                injection ea_ with ea_ en_ ec_
                subst ea_
                subst ec_
                clear en_
                have p186 : 0 ≤ (x15_1 : Int) := of_decide_eq_true (by (with_reducible assumption))
                have q186 : x15_1 < (t175.length : Int) := of_decide_eq_true (by (with_reducible assumption))
                obtain ⟨ad186, A186_6, c186_6, e186, hx186_0, hx186_1, hx186_2, hx186_3, hx186_4, hx186_5, hx186_6, hl186_6, hi186_6⟩ := at_T26 (Kd.N_reads' HO_3.out).2.2 x15_1 p186 q186
                obtain rfl : ad182 = ad186 := (by injection e186)
                obtain ⟨ce186, hce186, hMe186, hcc186⟩ := Kd.N_get HO_3.out z26 x15_1 p186 q186
                obtain ⟨ua186_6, uc186_6, rfl, ul186_6, ge186_6⟩ := k26_openF hMe186
                have hv186_6 := hcc186 6 _ rfl
                rw [add_field _ _ 6 (by omega)] at hv186_6
                replace hv186_6 := Option.some.inj (hv186_6.symm.trans hx186_6)
                injection hv186_6 with hva_ hvn_ hvc_
                rw [hva_] at ge186_6
                rw [hvc_] at ul186_6
                clear hva_ hvn_ hvc_ ge186_6 ul186_6
                clear hcc186 hce186
                clear hi186_6 hl186_6
                replace p186 := eq_true p186
                replace q186 := eq_true q186
                have ea_ := Option.some.inj (hx182_6.symm.trans hx186_6)
                injection ea_ with ea_ en_ ec_
                subst ea_
                subst ec_
                clear en_
                have p187 : 0 ≤ (x15_1 : Int) := of_decide_eq_true (by (with_reducible assumption))
                have q187 : x15_1 < (t175.length : Int) := of_decide_eq_true (by (with_reducible assumption))
                obtain ⟨ad187, A187_6, c187_6, e187, hx187_0, hx187_1, hx187_2, hx187_3, hx187_4, hx187_5, hx187_6, hl187_6, hi187_6⟩ := at_T26 (Kd.N_reads' HO_3.out).2.2 x15_1 p187 q187
                obtain rfl : ad182 = ad187 := (by injection e187)
                obtain ⟨ce187, hce187, hMe187, hcc187⟩ := Kd.N_get HO_3.out z26 x15_1 p187 q187
                obtain ⟨ua187_6, uc187_6, rfl, ul187_6, ge187_6⟩ := k26_openF hMe187
                have hv187_6 := hcc187 6 _ rfl
                rw [add_field _ _ 6 (by omega)] at hv187_6
                replace hv187_6 := Option.some.inj (hv187_6.symm.trans hx187_6)
                injection hv187_6 with hva_ hvn_ hvc_
                rw [hva_] at ge187_6
                rw [hvc_] at ul187_6
                clear hva_ hvn_ hvc_ ge187_6 ul187_6
                clear hcc187 hce187
                clear hi187_6 hl187_6
                replace p187 := eq_true p187
                replace q187 := eq_true q187
                have ea_ := Option.some.inj (hx182_6.symm.trans hx187_6)
                injection ea_ with ea_ en_ ec_
                subst ea_
                subst ec_
                clear en_
                go_wp2
                go_ret
                exact ⟨by rfl, by repeat ((with_reducible exact HB.out))⟩
               ·rw [if_neg c30] at H
                have c30b0 : decide ((((rd_T26 t175 x15_1).f3).length : Int) < 2) = false := decide_eq_false c30
                have c30b1 : decide (((rd_T26 t175 x15_1).f3).length < 2) = false := decide_eq_false (by omega)
                clear c30
                by_cases c31 : ((rd_T26 t175 x15_1).f2) = 0
                ·rw [if_pos c31] at H
                 have c31b0 : (((rd_T26 t175 x15_1).f2) == 0) = true := beq_iff_eq.mpr c31
                 have c31b1 : (((rd_T26 t175 x15_1).f2) != 0) = false := bne_eq_false_iff_eq.mpr c31
                 clear c31
                 have H' := Aside0.mk H
                 clear H
                 have p182 : 0 ≤ (x15_1 : Int) := of_decide_eq_true (by (with_reducible assumption))
                 have q182 : x15_1 < (t175.length : Int) := of_decide_eq_true (by (with_reducible assumption))
                 obtain ⟨ad182, A182_6, c182_6, e182, hx182_0, hx182_1, hx182_2, hx182_3, hx182_4, hx182_5, hx182_6, hl182_6, hi182_6⟩ := at_T26 (Kd.N_reads' HO_3.out).2.2 x15_1 p182 q182
                 cases e182
                 obtain ⟨ce182, hce182, hMe182, hcc182⟩ := Kd.N_get HO_3.out z26 x15_1 p182 q182
                 obtain ⟨ua182_6, uc182_6, rfl, ul182_6, ge182_6⟩ := k26_openF hMe182
                 have hv182_6 := hcc182 6 _ rfl
                 rw [add_field _ _ 6 (by omega)] at hv182_6
                 replace hv182_6 := Option.some.inj (hv182_6.symm.trans hx182_6)
                 injection hv182_6 with hva_ hvn_ hvc_
                 rw [hva_] at ge182_6
                 rw [hvc_] at ul182_6
                 clear hva_ hvn_ hvc_ ge182_6 ul182_6
                 clear hcc182 hce182
                 clear hi182_6 hl182_6
                 replace p182 := eq_true p182
                 replace q182 := eq_true q182
                 have p183 : 0 ≤ (x15_1 : Int) := of_decide_eq_true (by (with_reducible assumption))
                 have q183 : x15_1 < (t175.length : Int) := of_decide_eq_true (by (with_reducible assumption))
                 obtain ⟨ad183, A183_6, c183_6, e183, hx183_0, hx183_1, hx183_2, hx183_3, hx183_4, hx183_5, hx183_6, hl183_6, hi183_6⟩ := at_T26 (Kd.N_reads' HO_3.out).2.2 x15_1 p183 q183
                 obtain rfl : ad182 = ad183 := (by injection e183)
                 obtain ⟨ce183, hce183, hMe183, hcc183⟩ := Kd.N_get HO_3.out z26 x15_1 p183 q183
                 obtain ⟨ua183_6, uc183_6, rfl, ul183_6, ge183_6⟩ := k26_openF hMe183
                 have hv183_6 := hcc183 6 _ rfl
                 rw [add_field _ _ 6 (by omega)] at hv183_6
                 replace hv183_6 := Option.some.inj (hv183_6.symm.trans hx183_6)
                 injection hv183_6 with hva_ hvn_ hvc_
                 rw [hva_] at ge183_6
                 rw [hvc_] at ul183_6
                 clear hva_ hvn_ hvc_ ge183_6 ul183_6
                 clear hcc183 hce183
                 clear hi183_6 hl183_6
                 replace p183 := eq_true p183
                 replace q183 := eq_true q183
                 have ea_ := Option.some.inj (hx182_6.symm.trans hx183_6)
                 injection ea_ with ea_ en_ ec_
                 subst ea_
                 subst ec_
                 clear en_
                 have p184 : 0 ≤ (x15_1 : Int) := of_decide_eq_true (by (with_reducible assumption))
                 have q184 : x15_1 < (t175.length : Int) := of_decide_eq_true (by (with_reducible assumption))
                 obtain ⟨ad184, A184_6, c184_6, e184, hx184_0, hx184_1, hx184_2, hx184_3, hx184_4, hx184_5, hx184_6, hl184_6, hi184_6⟩ := at_T26 (Kd.N_reads' HO_3.out).2.2 x15_1 p184 q184
                 obtain rfl : ad182 = ad184 := (by injection e184)
                 obtain ⟨ce184, hce184, hMe184, hcc184⟩ := Kd.N_get HO_3.out z26 x15_1 p184 q184
                 obtain ⟨ua184_6, uc184_6, rfl, ul184_6, ge184_6⟩ := k26_openF hMe184
                 have hv184_6 := hcc184 6 _ rfl
                 rw [add_field _ _ 6 (by omega)] at hv184_6
                 replace hv184_6 := Option.some.inj (hv184_6.symm.trans hx184_6)
                 injection hv184_6 with hva_ hvn_ hvc_
                 rw [hva_] at ge184_6
                 rw [hvc_] at ul184_6
                 clear hva_ hvn_ hvc_ ge184_6 ul184_6
                 clear hcc184 hce184
                 clear hi184_6 hl184_6
                 replace p184 := eq_true p184
                 replace q184 := eq_true q184
                 have ea_ := Option.some.inj (hx182_6.symm.trans hx184_6)
                 injection ea_ with ea_ en_ ec_
                 subst ea_
                 subst ec_
                 clear en_
                 have p185 : 0 ≤ (x15_1 : Int) := of_decide_eq_true (by (with_reducible assumption))
                 have q185 : x15_1 < (t175.length : Int) := of_decide_eq_true (by (with_reducible assumption))
                 obtain ⟨ad185, A185_6, c185_6, e185, hx185_0, hx185_1, hx185_2, hx185_3, hx185_4, hx185_5, hx185_6, hl185_6, hi185_6⟩ := at_T26 (Kd.N_reads' HO_3.out).2.2 x15_1 p185 q185
                 obtain rfl : ad182 = ad185 := (by injection e185)
                 obtain ⟨ce185, hce185, hMe185, hcc185⟩ := Kd.N_get HO_3.out z26 x15_1 p185 q185
                 obtain ⟨ua185_6, uc185_6, rfl, ul185_6, ge185_6⟩ := k26_openF hMe185
                 have hv185_6 := hcc185 6 _ rfl
                 rw [add_field _ _ 6 (by omega)] at hv185_6
                 replace hv185_6 := Option.some.inj (hv185_6.symm.trans hx185_6)
                 injection hv185_6 with hva_ hvn_ hvc_
                 rw [hva_] at ge185_6
                 rw [hvc_] at ul185_6
                 clear hva_ hvn_ hvc_ ge185_6 ul185_6
                 clear hcc185 hce185
                 clear hi185_6 hl185_6
                 replace p185 := eq_true p185
                 replace q185 := eq_true q185
                 have ea_ := Option.some.inj (hx182_6.symm.trans hx185_6)
                 injection ea_ with ea_ en_ ec_
                 subst ea_
                 subst ec_
                 clear en_
                 have p186 : 0 ≤ (x15_1 : Int) := of_decide_eq_true (by (with_reducible assumption))
                 have q186 : x15_1 < (t175.length : Int) := of_decide_eq_true (by (with_reducible assumption))
                 obtain ⟨ad186, A186_6, c186_6, e186, hx186_0, hx186_1, hx186_2, hx186_3, hx186_4, hx186_5, hx186_6, hl186_6, hi186_6⟩ := at_T26 (Kd.N_reads' HO_3.out).2.2 x15_1 p186 q186
                 obtain rfl : ad182 = ad186 := (by injection e186)
                 obtain ⟨ce186, hce186, hMe186, hcc186⟩ := Kd.N_get HO_3.out z26 x15_1 p186 q186
                 obtain ⟨ua186_6, uc186_6, rfl, ul186_6, ge186_6⟩ := k26_openF hMe186
                 have hv186_6 := hcc186 6 _ rfl
                 rw [add_field _ _ 6 (by omega)] at hv186_6
                 replace hv186_6 := Option.some.inj (hv186_6.symm.trans hx186_6)
                 injection hv186_6 with hva_ hvn_ hvc_
                 rw [hva_] at ge186_6
                 rw [hvc_] at ul186_6
                 clear hva_ hvn_ hvc_ ge186_6 ul186_6
                 clear hcc186 hce186
                 clear hi186_6 hl186_6
                 replace p186 := eq_true p186
                 replace q186 := eq_true q186
                 have ea_ := Option.some.inj (hx182_6.symm.trans hx186_6)
                 injection ea_ with ea_ en_ ec_
                 subst ea_
                 subst ec_
                 clear en_
                 have p187 : 0 ≤ (x15_1 : Int) := of_decide_eq_true (by (with_reducible assumption))
                 have q187 : x15_1 < (t175.length : Int) := of_decide_eq_true (by (with_reducible assumption))
                 obtain ⟨ad187, A187_6, c187_6, e187, hx187_0, hx187_1, hx187_2, hx187_3, hx187_4, hx187_5, hx187_6, hl187_6, hi187_6⟩ := at_T26 (Kd.N_reads' HO_3.out).2.2 x15_1 p187 q187
                 obtain rfl : ad182 = ad187 := (by injection e187)
                 obtain ⟨ce187, hce187, hMe187, hcc187⟩ := Kd.N_get HO_3.out z26 x15_1 p187 q187
                 obtain ⟨ua187_6, uc187_6, rfl, ul187_6, ge187_6⟩ := k26_openF hMe187
                 have hv187_6 := hcc187 6 _ rfl
                 rw [add_field _ _ 6 (by omega)] at hv187_6
                 replace hv187_6 := Option.some.inj (hv187_6.symm.trans hx187_6)
                 injection hv187_6 with hva_ hvn_ hvc_
                 rw [hva_] at ge187_6
                 rw [hvc_] at ul187_6
                 clear hva_ hvn_ hvc_ ge187_6 ul187_6
                 clear hcc187 hce187
                 clear hi187_6 hl187_6
                 replace p187 := eq_true p187
                 replace q187 := eq_true q187
                 have ea_ := Option.some.inj (hx182_6.symm.trans hx187_6)
                 injection ea_ with ea_ en_ ec_
                 subst ea_
                 subst ec_
                 clear en_
                 have p188 : 0 ≤ (x15_1 : Int) := of_decide_eq_true (by (with_reducible assumption))
                 have q188 : x15_1 < (t175.length : Int) := of_decide_eq_true (by (with_reducible assumption))
                 obtain ⟨ad188, A188_6, c188_6, e188, hx188_0, hx188_1, hx188_2, hx188_3, hx188_4, hx188_5, hx188_6, hl188_6, hi188_6⟩ := at_T26 (Kd.N_reads' HO_3.out).2.2 x15_1 p188 q188
                 obtain rfl : ad182 = ad188 := (by injection e188)
                 clear hi188_6 hl188_6
                 replace p188 := eq_true p188
                 replace q188 := eq_true q188
                 have ea_ := Option.some.inj (hx182_6.symm.trans hx188_6)
                 injection ea_ with ea_ en_ ec_
                 subst ea_
                 subst ec_
                 clear en_
                 go_wp2
                 go_roundg kj12
                 case measure => have := HK1.out; have := HJ12.out; omega
                 case rel => exact ⟨(wrap64 (x15_1 + 1)), (by rfl), H', ⟨by have := HK1.out; have := HJ12.out; omega⟩, ⟨by exact HO_3.out⟩, ⟨by exact BK174.out⟩, ⟨by repeat ((with_reducible exact HB.out))⟩⟩
                ·rw [if_neg c31] at H
                 have c31b0 : (((rd_T26 t175 x15_1).f2) == 0) = false := beq_eq_false_iff_ne.mpr c31
                 have c31b1 : (((rd_T26 t175 x15_1).f2) != 0) = true := bne_iff_ne.mpr c31
                 obtain rfl := Option.some.inj H
                 have p182 : 0 ≤ (x15_1 : Int) := of_decide_eq_true (by (with_reducible assumption))
                 have q182 : x15_1 < (t175.length : Int) := of_decide_eq_true (by (with_reducible assumption))
                 obtain ⟨ad182, A182_6, c182_6, e182, hx182_0, hx182_1, hx182_2, hx182_3, hx182_4, hx182_5, hx182_6, hl182_6, hi182_6⟩ := at_T26 (Kd.N_reads' HO_3.out).2.2 x15_1 p182 q182
                 cases e182
                 obtain ⟨ce182, hce182, hMe182, hcc182⟩ := Kd.N_get HO_3.out z26 x15_1 p182 q182
                 obtain ⟨ua182_6, uc182_6, rfl, ul182_6, ge182_6⟩ := k26_openF hMe182
                 have hv182_6 := hcc182 6 _ rfl
                 rw [add_field _ _ 6 (by omega)] at hv182_6
                 replace hv182_6 := Option.some.inj (hv182_6.symm.trans hx182_6)
                 injection hv182_6 with hva_ hvn_ hvc_
                 rw [hva_] at ge182_6
                 rw [hvc_] at ul182_6
                 clear hva_ hvn_ hvc_ ge182_6 ul182_6
                 clear hcc182 hce182
                 clear hi182_6 hl182_6
                 replace p182 := eq_true p182
                 replace q182 := eq_true q182
                 have p183 : 0 ≤ (x15_1 : Int) := of_decide_eq_true (by (with_reducible assumption))
                 have q183 : x15_1 < (t175.length : Int) := of_decide_eq_true (by (with_reducible assumption))
                 obtain ⟨ad183, A183_6, c183_6, e183, hx183_0, hx183_1, hx183_2, hx183_3, hx183_4, hx183_5, hx183_6, hl183_6, hi183_6⟩ := at_T26 (Kd.N_reads' HO_3.out).2.2 x15_1 p183 q183
                 obtain rfl : ad182 = ad183 := (by injection e183)
                 obtain ⟨ce183, hce183, hMe183, hcc183⟩ := Kd.N_get HO_3.out z26 x15_1 p183 q183
                 obtain ⟨ua183_6, uc183_6, rfl, ul183_6, ge183_6⟩ := k26_openF hMe183
                 have hv183_6 := hcc183 6 _ rfl
                 rw [add_field _ _ 6 (by omega)] at hv183_6
                 replace hv183_6 := Option.some.inj (hv183_6.symm.trans hx183_6)
                 injection hv183_6 with hva_ hvn_ hvc_
                 rw [hva_] at ge183_6
                 rw [hvc_] at ul183_6
                 clear hva_ hvn_ hvc_ ge183_6 ul183_6
                 clear hcc183 hce183
                 clear hi183_6 hl183_6
                 replace p183 := eq_true p183
                 replace q183 := eq_true q183
                 have ea_ := Option.some.inj (hx182_6.symm.trans hx183_6)
                 injection ea_ with ea_ en_ ec_
                 subst ea_
                 subst ec_
                 clear en_
                 have p184 : 0 ≤ (x15_1 : Int) := of_decide_eq_true (by (with_reducible assumption))
                 have q184 : x15_1 < (t175.length : Int) := of_decide_eq_true (by (with_reducible assumption))
                 obtain ⟨ad184, A184_6, c184_6, e184, hx184_0, hx184_1, hx184_2, hx184_3, hx184_4, hx184_5, hx184_6, hl184_6, hi184_6⟩ := at_T26 (Kd.N_reads' HO_3.out).2.2 x15_1 p184 q184
                 obtain rfl : ad182 = ad184 := (by injection e184)
                 obtain ⟨ce184, hce184, hMe184, hcc184⟩ := Kd.N_get HO_3.out z26 x15_1 p184 q184
                 obtain ⟨ua184_6, uc184_6, rfl, ul184_6, ge184_6⟩ := k26_openF hMe184
                 have hv184_6 := hcc184 6 _ rfl
                 rw [add_field _ _ 6 (by omega)] at hv184_6
                 replace hv184_6 := Option.some.inj (hv184_6.symm.trans hx184_6)
                 injection hv184_6 with hva_ hvn_ hvc_
                 rw [hva_] at ge184_6
                 rw [hvc_] at ul184_6
                 clear hva_ hvn_ hvc_ ge184_6 ul184_6
                 clear hcc184 hce184
                 clear hi184_6 hl184_6
                 replace p184 := eq_true p184
                 replace q184 := eq_true q184
                 have ea_ := Option.some.inj (hx182_6.symm.trans hx184_6)
                 injection ea_ with ea_ en_ ec_
                 subst ea_
                 subst ec_
                 clear en_
                 have p185 : 0 ≤ (x15_1 : Int) := of_decide_eq_true (by (with_reducible assumption))
                 have q185 : x15_1 < (t175.length : Int) := of_decide_eq_true (by (with_reducible assumption))
                 obtain ⟨ad185, A185_6, c185_6, e185, hx185_0, hx185_1, hx185_2, hx185_3, hx185_4, hx185_5, hx185_6, hl185_6, hi185_6⟩ := at_T26 (Kd.N_reads' HO_3.out).2.2 x15_1 p185 q185
                 obtain rfl : ad182 = ad185 := (by injection e185)
                 obtain ⟨ce185, hce185, hMe185, hcc185⟩ := Kd.N_get HO_3.out z26 x15_1 p185 q185
                 obtain ⟨ua185_6, uc185_6, rfl, ul185_6, ge185_6⟩ := k26_openF hMe185
                 have hv185_6 := hcc185 6 _ rfl
                 rw [add_field _ _ 6 (by omega)] at hv185_6
                 replace hv185_6 := Option.some.inj (hv185_6.symm.trans hx185_6)
                 injection hv185_6 with hva_ hvn_ hvc_
                 rw [hva_] at ge185_6
                 rw [hvc_] at ul185_6
                 clear hva_ hvn_ hvc_ ge185_6 ul185_6
                 clear hcc185 hce185
                 clear hi185_6 hl185_6
                 replace p185 := eq_true p185
                 replace q185 := eq_true q185
                 have ea_ := Option.some.inj (hx182_6.symm.trans hx185_6)
                 injection ea_ with ea_ en_ ec_
                 subst ea_
                 subst ec_
                 clear en_
                 have p186 : 0 ≤ (x15_1 : Int) := of_decide_eq_true (by (with_reducible assumption))
                 have q186 : x15_1 < (t175.length : Int) := of_decide_eq_true (by (with_reducible assumption))
                 obtain ⟨ad186, A186_6, c186_6, e186, hx186_0, hx186_1, hx186_2, hx186_3, hx186_4, hx186_5, hx186_6, hl186_6, hi186_6⟩ := at_T26 (Kd.N_reads' HO_3.out).2.2 x15_1 p186 q186
                 obtain rfl : ad182 = ad186 := (by injection e186)
                 obtain ⟨ce186, hce186, hMe186, hcc186⟩ := Kd.N_get HO_3.out z26 x15_1 p186 q186
                 obtain ⟨ua186_6, uc186_6, rfl, ul186_6, ge186_6⟩ := k26_openF hMe186
                 have hv186_6 := hcc186 6 _ rfl
                 rw [add_field _ _ 6 (by omega)] at hv186_6
                 replace hv186_6 := Option.some.inj (hv186_6.symm.trans hx186_6)
                 injection hv186_6 with hva_ hvn_ hvc_
                 rw [hva_] at ge186_6
                 rw [hvc_] at ul186_6
                 clear hva_ hvn_ hvc_ ge186_6 ul186_6
                 clear hcc186 hce186
                 clear hi186_6 hl186_6
                 replace p186 := eq_true p186
                 replace q186 := eq_true q186
                 have ea_ := Option.some.inj (hx182_6.symm.trans hx186_6)
                 injection ea_ with ea_ en_ ec_
                 subst ea_
                 subst ec_
                 clear en_
                 have p187 : 0 ≤ (x15_1 : Int) := of_decide_eq_true (by (with_reducible assumption))
                 have q187 : x15_1 < (t175.length : Int) := of_decide_eq_true (by (with_reducible assumption))
                 obtain ⟨ad187, A187_6, c187_6, e187, hx187_0, hx187_1, hx187_2, hx187_3, hx187_4, hx187_5, hx187_6, hl187_6, hi187_6⟩ := at_T26 (Kd.N_reads' HO_3.out).2.2 x15_1 p187 q187
                 obtain rfl : ad182 = ad187 := (by injection e187)
                 obtain ⟨ce187, hce187, hMe187, hcc187⟩ := Kd.N_get HO_3.out z26 x15_1 p187 q187
                 obtain ⟨ua187_6, uc187_6, rfl, ul187_6, ge187_6⟩ := k26_openF hMe187
                 have hv187_6 := hcc187 6 _ rfl
                 rw [add_field _ _ 6 (by omega)] at hv187_6
                 replace hv187_6 := Option.some.inj (hv187_6.symm.trans hx187_6)
                 injection hv187_6 with hva_ hvn_ hvc_
                 rw [hva_] at ge187_6
                 rw [hvc_] at ul187_6
                 clear hva_ hvn_ hvc_ ge187_6 ul187_6
                 clear hcc187 hce187
                 clear hi187_6 hl187_6
                 replace p187 := eq_true p187
                 replace q187 := eq_true q187
                 have ea_ := Option.some.inj (hx182_6.symm.trans hx187_6)
                 injection ea_ with ea_ en_ ec_
                 subst ea_
                 subst ec_
                 clear en_
                 have p188 : 0 ≤ (x15_1 : Int) := of_decide_eq_true (by (with_reducible assumption))
                 have q188 : x15_1 < (t175.length : Int) := of_decide_eq_true (by (with_reducible assumption))
                 obtain ⟨ad188, A188_6, c188_6, e188, hx188_0, hx188_1, hx188_2, hx188_3, hx188_4, hx188_5, hx188_6, hl188_6, hi188_6⟩ := at_T26 (Kd.N_reads' HO_3.out).2.2 x15_1 p188 q188
                 obtain rfl : ad182 = ad188 := (by injection e188)
                 clear hi188_6 hl188_6
                 replace p188 := eq_true p188
                 replace q188 := eq_true q188
                 have ea_ := Option.some.inj (hx182_6.symm.trans hx188_6)
                 injection ea_ with ea_ en_ ec_
                 subst ea_
                 subst ec_
                 clear en_
                 go_wp2
                 go_ret
                 exact ⟨by rfl, by repeat ((with_reducible exact HB.out))⟩
              ·rw [if_neg c29] at H
               have c29b0 : decide (1 < ((rd_T26 t175 x15_1).f0)) = false := decide_eq_false c29
               clear c29
               have H' := Aside0.mk H
               clear H
               have p182 : 0 ≤ (x15_1 : Int) := of_decide_eq_true (by (with_reducible assumption))
               have q182 : x15_1 < (t175.length : Int) := of_decide_eq_true (by (with_reducible assumption))
               obtain ⟨ad182, A182_6, c182_6, e182, hx182_0, hx182_1, hx182_2, hx182_3, hx182_4, hx182_5, hx182_6, hl182_6, hi182_6⟩ := at_T26 (Kd.N_reads' HO_3.out).2.2 x15_1 p182 q182
               cases e182
               obtain ⟨ce182, hce182, hMe182, hcc182⟩ := Kd.N_get HO_3.out z26 x15_1 p182 q182
               obtain ⟨ua182_6, uc182_6, rfl, ul182_6, ge182_6⟩ := k26_openF hMe182
               have hv182_6 := hcc182 6 _ rfl
               rw [add_field _ _ 6 (by omega)] at hv182_6
               replace hv182_6 := Option.some.inj (hv182_6.symm.trans hx182_6)
               injection hv182_6 with hva_ hvn_ hvc_
               rw [hva_] at ge182_6
               rw [hvc_] at ul182_6
               clear hva_ hvn_ hvc_ ge182_6 ul182_6
               clear hcc182 hce182
               clear hi182_6 hl182_6
               replace p182 := eq_true p182
               replace q182 := eq_true q182
               have p183 : 0 ≤ (x15_1 : Int) := of_decide_eq_true (by (with_reducible assumption))
               have q183 : x15_1 < (t175.length : Int) := of_decide_eq_true (by (with_reducible assumption))
               obtain ⟨ad183, A183_6, c183_6, e183, hx183_0, hx183_1, hx183_2, hx183_3, hx183_4, hx183_5, hx183_6, hl183_6, hi183_6⟩ := at_T26 (Kd.N_reads' HO_3.out).2.2 x15_1 p183 q183
               obtain rfl : ad182 = ad183 := (by injection e183)
               obtain ⟨ce183, hce183, hMe183, hcc183⟩ := Kd.N_get HO_3.out z26 x15_1 p183 q183
               obtain ⟨ua183_6, uc183_6, rfl, ul183_6, ge183_6⟩ := k26_openF hMe183
               have hv183_6 := hcc183 6 _ rfl
               rw [add_field _ _ 6 (by omega)] at hv183_6
               replace hv183_6 := Option.some.inj (hv183_6.symm.trans hx183_6)
               injection hv183_6 with hva_ hvn_ hvc_
               rw [hva_] at ge183_6
               rw [hvc_] at ul183_6
               clear hva_ hvn_ hvc_ ge183_6 ul183_6
               clear hcc183 hce183
               clear hi183_6 hl183_6
               replace p183 := eq_true p183
               replace q183 := eq_true q183
               have ea_ := Option.some.inj (hx182_6.symm.trans hx183_6)
               injection ea_ with ea_ en_ ec_
               subst ea_
               subst ec_
               clear en_
               have p184 : 0 ≤ (x15_1 : Int) := of_decide_eq_true (by (with_reducible assumption))
               have q184 : x15_1 < (t175.length : Int) := of_decide_eq_true (by (with_reducible assumption))
               obtain ⟨ad184, A184_6, c184_6, e184, hx184_0, hx184_1, hx184_2, hx184_3, hx184_4, hx184_5, hx184_6, hl184_6, hi184_6⟩ := at_T26 (Kd.N_reads' HO_3.out).2.2 x15_1 p184 q184
               obtain rfl : ad182 = ad184 := (by injection e184)
               obtain ⟨ce184, hce184, hMe184, hcc184⟩ := Kd.N_get HO_3.out z26 x15_1 p184 q184
               obtain ⟨ua184_6, uc184_6, rfl, ul184_6, ge184_6⟩ := k26_openF hMe184
               have hv184_6 := hcc184 6 _ rfl
               rw [add_field _ _ 6 (by omega)] at hv184_6
               replace hv184_6 := Option.some.inj (hv184_6.symm.trans hx184_6)
               injection hv184_6 with hva_ hvn_ hvc_
               rw [hva_] at ge184_6
               rw [hvc_] at ul184_6
               clear hva_ hvn_ hvc_ ge184_6 ul184_6
               clear hcc184 hce184
               clear hi184_6 hl184_6
               replace p184 := eq_true p184
               replace q184 := eq_true q184
               have ea_ := Option.some.inj (hx182_6.symm.trans hx184_6)
               injection ea_ with ea_ en_ ec_
               subst ea_
               subst ec_
               clear en_
               have p185 : 0 ≤ (x15_1 : Int) := of_decide_eq_true (by (with_reducible assumption))
               have q185 : x15_1 < (t175.length : Int) := of_decide_eq_true (by (with_reducible assumption))
               obtain ⟨ad185, A185_6, c185_6, e185, hx185_0, hx185_1, hx185_2, hx185_3, hx185_4, hx185_5, hx185_6, hl185_6, hi185_6⟩ := at_T26 (Kd.N_reads' HO_3.out).2.2 x15_1 p185 q185
               obtain rfl : ad182 = ad185 := (by injection e185)
               obtain ⟨ce185, hce185, hMe185, hcc185⟩ := Kd.N_get HO_3.out z26 x15_1 p185 q185
               obtain ⟨ua185_6, uc185_6, rfl, ul185_6, ge185_6⟩ := k26_openF hMe185
               have hv185_6 := hcc185 6 _ rfl
               rw [add_field _ _ 6 (by omega)] at hv185_6
               replace hv185_6 := Option.some.inj (hv185_6.symm.trans hx185_6)
               injection hv185_6 with hva_ hvn_ hvc_
               rw [hva_] at ge185_6
               rw [hvc_] at ul185_6
               clear hva_ hvn_ hvc_ ge185_6 ul185_6
               clear hcc185 hce185
               clear hi185_6 hl185_6
               replace p185 := eq_true p185
               replace q185 := eq_true q185
               have ea_ := Option.some.inj (hx182_6.symm.trans hx185_6)
               injection ea_ with ea_ en_ ec_
               subst ea_
               subst ec_
               clear en_
               have p186 : 0 ≤ (x15_1 : Int) := of_decide_eq_true (by (with_reducible assumption))
               have q186 : x15_1 < (t175.length : Int) := of_decide_eq_true (by (with_reducible assumption))
               obtain ⟨ad186, A186_6, c186_6, e186, hx186_0, hx186_1, hx186_2, hx186_3, hx186_4, hx186_5, hx186_6, hl186_6, hi186_6⟩ := at_T26 (Kd.N_reads' HO_3.out).2.2 x15_1 p186 q186
               obtain rfl : ad182 = ad186 := (by injection e186)
               obtain ⟨ce186, hce186, hMe186, hcc186⟩ := Kd.N_get HO_3.out z26 x15_1 p186 q186
               obtain ⟨ua186_6, uc186_6, rfl, ul186_6, ge186_6⟩ := k26_openF hMe186
               have hv186_6 := hcc186 6 _ rfl
               rw [add_field _ _ 6 (by omega)] at hv186_6
               replace hv186_6 := Option.some.inj (hv186_6.symm.trans hx186_6)
               injection hv186_6 with hva_ hvn_ hvc_
               rw [hva_] at ge186_6
               rw [hvc_] at ul186_6
               clear hva_ hvn_ hvc_ ge186_6 ul186_6
               clear hcc186 hce186
               clear hi186_6 hl186_6
               replace p186 := eq_true p186
               replace q186 := eq_true q186
               have ea_ := Option.some.inj (hx182_6.symm.trans hx186_6)
               injection ea_ with ea_ en_ ec_
               subst ea_
               subst ec_
               clear en_
               go_wp2
               go_roundg kj12
               case measure => have := HK1.out; have := HJ12.out; omega
               case rel => exact ⟨(wrap64 (x15_1 + 1)), (by rfl), H', ⟨by have := HK1.out; have := HJ12.out; omega⟩, ⟨by exact HO_3.out⟩, ⟨by exact BK174.out⟩, ⟨by repeat ((with_reducible exact HB.out))⟩⟩
          ·rw [if_neg c25] at H
           have c25b0 : (((rd_T26 t175 x15_1).f0) == 1) = false := beq_eq_false_iff_ne.mpr c25
           have c25b1 : (((rd_T26 t175 x15_1).f0) != 1) = true := bne_iff_ne.mpr c25
           by_cases c32 : ((rd_T26 t175 x15_1).f0) > 1
           ·rw [if_pos c32] at H
            have c32b0 : decide (1 < ((rd_T26 t175 x15_1).f0)) = true := decide_eq_true c32
            clear c32
            by_cases c33 : (((rd_T26 t175 x15_1).f3).length : Int) < 2
            ·rw [if_pos c33] at H
             have c33b0 : decide ((((rd_T26 t175 x15_1).f3).length : Int) < 2) = true := decide_eq_true c33
             have c33b1 : decide (((rd_T26 t175 x15_1).f3).length < 2) = true := decide_eq_true (by omega)
             clear c33
             obtain rfl := Option.some.inj H
             have p182 : 0 ≤ (x15_1 : Int) := of_decide_eq_true (by (with_reducible assumption))
             have q182 : x15_1 < (t175.length : Int) := of_decide_eq_true (by (with_reducible assumption))
             obtain ⟨ad182, A182_6, c182_6, e182, hx182_0, hx182_1, hx182_2, hx182_3, hx182_4, hx182_5, hx182_6, hl182_6, hi182_6⟩ := at_T26 (Kd.N_reads' HO_3.out).2.2 x15_1 p182 q182
             cases e182
             obtain ⟨ce182, hce182, hMe182, hcc182⟩ := Kd.N_get HO_3.out z26 x15_1 p182 q182
             obtain ⟨ua182_6, uc182_6, rfl, ul182_6, ge182_6⟩ := k26_openF hMe182
             have hv182_6 := hcc182 6 _ rfl
             rw [add_field _ _ 6 (by omega)] at hv182_6
             replace hv182_6 := Option.some.inj (hv182_6.symm.trans hx182_6)
             injection hv182_6 with hva_ hvn_ hvc_
             rw [hva_] at ge182_6
             rw [hvc_] at ul182_6
             clear hva_ hvn_ hvc_ ge182_6 ul182_6
             clear hcc182 hce182
             clear hi182_6 hl182_6
             replace p182 := eq_true p182
             replace q182 := eq_true q182
             have p189 : 0 ≤ (x15_1 : Int) := of_decide_eq_true (by (with_reducible assumption))
             have q189 : x15_1 < (t175.length : Int) := of_decide_eq_true (by (with_reducible assumption))
             obtain ⟨ad189, A189_6, c189_6, e189, hx189_0, hx189_1, hx189_2, hx189_3, hx189_4, hx189_5, hx189_6, hl189_6, hi189_6⟩ := at_T26 (Kd.N_reads' HO_3.out).2.2 x15_1 p189 q189
             obtain rfl : ad182 = ad189 := (by injection e189)
             obtain ⟨ce189, hce189, hMe189, hcc189⟩ := Kd.N_get HO_3.out z26 x15_1 p189 q189
             obtain ⟨ua189_6, uc189_6, rfl, ul189_6, ge189_6⟩ := k26_openF hMe189
             have hv189_6 := hcc189 6 _ rfl
             rw [add_field _ _ 6 (by omega)] at hv189_6
             replace hv189_6 := Option.some.inj (hv189_6.symm.trans hx189_6)
             injection hv189_6 with hva_ hvn_ hvc_
             rw [hva_] at ge189_6
             rw [hvc_] at ul189_6
             clear hva_ hvn_ hvc_ ge189_6 ul189_6
             clear hcc189 hce189
             clear hi189_6 hl189_6
             replace p189 := eq_true p189
             replace q189 := eq_true q189
             have ea_ := Option.some.inj (hx182_6.symm.trans hx189_6)
             injection ea_ with ea_ en_ ec_
             subst ea_
             subst ec_
             clear en_
             have p190 : 0 ≤ (x15_1 : Int) := of_decide_eq_true (by (with_reducible assumption))
             have q190 : x15_1 < (t175.length : Int) := of_decide_eq_true (by (with_reducible assumption))
             obtain ⟨ad190, A190_6, c190_6, e190, hx190_0, hx190_1, hx190_2, hx190_3, hx190_4, hx190_5, hx190_6, hl190_6, hi190_6⟩ := at_T26 (Kd.N_reads' HO_3.out).2.2 x15_1 p190 q190
             obtain rfl : ad182 = ad190 := (by injection e190)
             obtain ⟨ce190, hce190, hMe190, hcc190⟩ := Kd.N_get HO_3.out z26 x15_1 p190 q190
             obtain ⟨ua190_6, uc190_6, rfl, ul190_6, ge190_6⟩ := k26_openF hMe190
             have hv190_6 := hcc190 6 _ rfl
             rw [add_field _ _ 6 (by omega)] at hv190_6
             replace hv190_6 := Option.some.inj (hv190_6.symm.trans hx190_6)
             injection hv190_6 with hva_ hvn_ hvc_
             rw [hva_] at ge190_6
             rw [hvc_] at ul190_6
             clear hva_ hvn_ hvc_ ge190_6 ul190_6
             clear hcc190 hce190
             clear hi190_6 hl190_6
             replace p190 := eq_true p190
             replace q190 := eq_true q190
             have ea_ := Option.some.inj (hx182_6.symm.trans hx190_6)
             injection ea_ with ea_ en_ ec_
             subst ea_
             subst ec_
             clear en_
             go_wp2
             go_ret
             exact ⟨by rfl, by repeat ((with_reducible exact HB.out))⟩
            ·rw [if_neg c33] at H
             have c33b0 : decide ((((rd_T26 t175 x15_1).f3).length : Int) < 2) = false := decide_eq_false c33
             have c33b1 : decide (((rd_T26 t175 x15_1).f3).length < 2) = false := decide_eq_false (by omega)
             clear c33
             by_cases c34 : ((rd_T26 t175 x15_1).f2) = 0
             ·rw [if_pos c34] at H
              have c34b0 : (((rd_T26 t175 x15_1).f2) == 0) = true := beq_iff_eq.mpr c34
              have c34b1 : (((rd_T26 t175 x15_1).f2) != 0) = false := bne_eq_false_iff_eq.mpr c34
              clear c34
              have H' := Aside0.mk H
              clear H
              have p182 : 0 ≤ (x15_1 : Int) := of_decide_eq_true (by (with_reducible assumption))
              have q182 : x15_1 < (t175.length : Int) := of_decide_eq_true (by (with_reducible assumption))
              obtain ⟨ad182, A182_6, c182_6, e182, hx182_0, hx182_1, hx182_2, hx182_3, hx182_4, hx182_5, hx182_6, hl182_6, hi182_6⟩ := at_T26 (Kd.N_reads' HO_3.out).2.2 x15_1 p182 q182
              cases e182
              obtain ⟨ce182, hce182, hMe182, hcc182⟩ := Kd.N_get HO_3.out z26 x15_1 p182 q182
              obtain ⟨ua182_6, uc182_6, rfl, ul182_6, ge182_6⟩ := k26_openF hMe182
              have hv182_6 := hcc182 6 _ rfl
              rw [add_field _ _ 6 (by omega)] at hv182_6
              replace hv182_6 := Option.some.inj (hv182_6.symm.trans hx182_6)
              injection hv182_6 with hva_ hvn_ hvc_
              rw [hva_] at ge182_6
              rw [hvc_] at ul182_6
              clear hva_ hvn_ hvc_ ge182_6 ul182_6
              clear hcc182 hce182
              clear hi182_6 hl182_6
              replace p182 := eq_true p182
              replace q182 := eq_true q182
              have p189 : 0 ≤ (x15_1 : Int) := of_decide_eq_true (by (with_reducible assumption))
              have q189 : x15_1 < (t175.length : Int) := of_decide_eq_true (by (with_reducible assumption))
              obtain ⟨ad189, A189_6, c189_6, e189, hx189_0, hx189_1, hx189_2, hx189_3, hx189_4, hx189_5, hx189_6, hl189_6, hi189_6⟩ := at_T26 (Kd.N_reads' HO_3.out).2.2 x15_1 p189 q189
              obtain rfl : ad182 = ad189 := (by injection e189)
              obtain ⟨ce189, hce189, hMe189, hcc189⟩ := Kd.N_get HO_3.out z26 x15_1 p189 q189
              obtain ⟨ua189_6, uc189_6, rfl, ul189_6, ge189_6⟩ := k26_openF hMe189
              have hv189_6 := hcc189 6 _ rfl
              rw [add_field _ _ 6 (by omega)] at hv189_6
              replace hv189_6 := Option.some.inj (hv189_6.symm.trans hx189_6)
              injection hv189_6 with hva_ hvn_ hvc_
              rw [hva_] at ge189_6
              rw [hvc_] at ul189_6
              clear hva_ hvn_ hvc_ ge189_6 ul189_6
              clear hcc189 hce189
              clear hi189_6 hl189_6
              replace p189 := eq_true p189
              replace q189 := eq_true q189
              have ea_ := Option.some.inj (hx182_6.symm.trans hx189_6)
              injection ea_ with ea_ en_ ec_
              subst ea_
              subst ec_
              clear en_
              have p190 : 0 ≤ (x15_1 : Int) := of_decide_eq_true (by (with_reducible assumption))
              have q190 : x15_1 < (t175.length : Int) := of_decide_eq_true (by (with_reducible assumption))
              obtain ⟨ad190, A190_6, c190_6, e190, hx190_0, hx190_1, hx190_2, hx190_3, hx190_4, hx190_5, hx190_6, hl190_6, hi190_6⟩ := at_T26 (Kd.N_reads' HO_3.out).2.2 x15_1 p190 q190
              obtain rfl : ad182 = ad190 := (by injection e190)
              obtain ⟨ce190, hce190, hMe190, hcc190⟩ := Kd.N_get HO_3.out z26 x15_1 p190 q190
              obtain ⟨ua190_6, uc190_6, rfl, ul190_6, ge190_6⟩ := k26_openF hMe190
              have hv190_6 := hcc190 6 _ rfl
              rw [add_field _ _ 6 (by omega)] at hv190_6
              replace hv190_6 := Option.some.inj (hv190_6.symm.trans hx190_6)
              injection hv190_6 with hva_ hvn_ hvc_
              rw [hva_] at ge190_6
              rw [hvc_] at ul190_6
              clear hva_ hvn_ hvc_ ge190_6 ul190_6
              clear hcc190 hce190
              clear hi190_6 hl190_6
              replace p190 := eq_true p190
              replace q190 := eq_true q190
              have ea_ := Option.some.inj (hx182_6.symm.trans hx190_6)
              injection ea_ with ea_ en_ ec_
              subst ea_
              subst ec_
              clear en_
              have p191 : 0 ≤ (x15_1 : Int) := of_decide_eq_true (by (with_reducible assumption))
              have q191 : x15_1 < (t175.length : Int) := of_decide_eq_true (by (with_reducible assumption))
              obtain ⟨ad191, A191_6, c191_6, e191, hx191_0, hx191_1, hx191_2, hx191_3, hx191_4, hx191_5, hx191_6, hl191_6, hi191_6⟩ := at_T26 (Kd.N_reads' HO_3.out).2.2 x15_1 p191 q191
              obtain rfl : ad182 = ad191 := (by injection e191)
              clear hi191_6 hl191_6
              replace p191 := eq_true p191
              replace q191 := eq_true q191
              have ea_ := Option.some.inj (hx182_6.symm.trans hx191_6)
              injection ea_ with ea_ en_ ec_
              subst ea_
              subst ec_
              clear en_
              go_wp2
              go_roundg kj12
              case measure => have := HK1.out; have := HJ12.out; omega
              case rel => exact ⟨(wrap64 (x15_1 + 1)), (by rfl), H', ⟨by have := HK1.out; have := HJ12.out; omega⟩, ⟨by exact HO_3.out⟩, ⟨by exact BK174.out⟩, ⟨by repeat ((with_reducible exact HB.out))⟩⟩
             ·rw [if_neg c34] at H
              have c34b0 : (((rd_T26 t175 x15_1).f2) == 0) = false := beq_eq_false_iff_ne.mpr c34
              have c34b1 : (((rd_T26 t175 x15_1).f2) != 0) = true := bne_iff_ne.mpr c34
              obtain rfl := Option.some.inj H
              have p182 : 0 ≤ (x15_1 : Int) := of_decide_eq_true (by (with_reducible assumption))
              have q182 : x15_1 < (t175.length : Int) := of_decide_eq_true (by (with_reducible assumption))
              obtain ⟨ad182, A182_6, c182_6, e182, hx182_0, hx182_1, hx182_2, hx182_3, hx182_4, hx182_5, hx182_6, hl182_6, hi182_6⟩ := at_T26 (Kd.N_reads' HO_3.out).2.2 x15_1 p182 q182
              cases e182
              obtain ⟨ce182, hce182, hMe182, hcc182⟩ := Kd.N_get HO_3.out z26 x15_1 p182 q182
              obtain ⟨ua182_6, uc182_6, rfl, ul182_6, ge182_6⟩ := k26_openF hMe182
              have hv182_6 := hcc182 6 _ rfl
              rw [add_field _ _ 6 (by omega)] at hv182_6
              replace hv182_6 := Option.some.inj (hv182_6.symm.trans hx182_6)
              injection hv182_6 with hva_ hvn_ hvc_
              rw [hva_] at ge182_6
              rw [hvc_] at ul182_6
              clear hva_ hvn_ hvc_ ge182_6 ul182_6
              clear hcc182 hce182
              clear hi182_6 hl182_6
              replace p182 := eq_true p182
              replace q182 := eq_true q182
              have p189 : 0 ≤ (x15_1 : Int) := of_decide_eq_true (by (with_reducible assumption))
              have q189 : x15_1 < (t175.length : Int) := of_decide_eq_true (by (with_reducible assumption))
              obtain ⟨ad189, A189_6, c189_6, e189, hx189_0, hx189_1, hx189_2, hx189_3, hx189_4, hx189_5, hx189_6, hl189_6, hi189_6⟩ := at_T26 (Kd.N_reads' HO_3.out).2.2 x15_1 p189 q189
              obtain rfl : ad182 = ad189 := (by injection e189)
              obtain ⟨ce189, hce189, hMe189, hcc189⟩ := Kd.N_get HO_3.out z26 x15_1 p189 q189
              obtain ⟨ua189_6, uc189_6, rfl, ul189_6, ge189_6⟩ := k26_openF hMe189
              have hv189_6 := hcc189 6 _ rfl
              rw [add_field _ _ 6 (by omega)] at hv189_6
              replace hv189_6 := Option.some.inj (hv189_6.symm.trans hx189_6)
              injection hv189_6 with hva_ hvn_ hvc_
              rw [hva_] at ge189_6
              rw [hvc_] at ul189_6
              clear hva_ hvn_ hvc_ ge189_6 ul189_6
              clear hcc189 hce189
              clear hi189_6 hl189_6
              replace p189 := eq_true p189
              replace q189 := eq_true q189
              have ea_ := Option.some.inj (hx182_6.symm.trans hx189_6)
              injection ea_ with ea_ en_ ec_
              subst ea_
              subst ec_
              clear en_
              have p190 : 0 ≤ (x15_1 : Int) := of_decide_eq_true (by (with_reducible assumption))
              have q190 : x15_1 < (t175.length : Int) := of_decide_eq_true (by (with_reducible assumption))
              obtain ⟨ad190, A190_6, c190_6, e190, hx190_0, hx190_1, hx190_2, hx190_3, hx190_4, hx190_5, hx190_6, hl190_6, hi190_6⟩ := at_T26 (Kd.N_reads' HO_3.out).2.2 x15_1 p190 q190
              obtain rfl : ad182 = ad190 := (by injection e190)
              obtain ⟨ce190, hce190, hMe190, hcc190⟩ := Kd.N_get HO_3.out z26 x15_1 p190 q190
              obtain ⟨ua190_6, uc190_6, rfl, ul190_6, ge190_6⟩ := k26_openF hMe190
              have hv190_6 := hcc190 6 _ rfl
              rw [add_field _ _ 6 (by omega)] at hv190_6
              replace hv190_6 := Option.some.inj (hv190_6.symm.trans hx190_6)
              injection hv190_6 with hva_ hvn_ hvc_
              rw [hva_] at ge190_6
              rw [hvc_] at ul190_6
              clear hva_ hvn_ hvc_ ge190_6 ul190_6
              clear hcc190 hce190
              clear hi190_6 hl190_6
              replace p190 := eq_true p190
              replace q190 := eq_true q190
              have ea_ := Option.some.inj (hx182_6.symm.trans hx190_6)
              injection ea_ with ea_ en_ ec_
              subst ea_
              subst ec_
              clear en_
              have p191 : 0 ≤ (x15_1 : Int) := of_decide_eq_true (by (with_reducible assumption))
              have q191 : x15_1 < (t175.length : Int) := of_decide_eq_true (by (with_reducible assumption))
              obtain ⟨ad191, A191_6, c191_6, e191, hx191_0, hx191_1, hx191_2, hx191_3, hx191_4, hx191_5, hx191_6, hl191_6, hi191_6⟩ := at_T26 (Kd.N_reads' HO_3.out).2.2 x15_1 p191 q191
              obtain rfl : ad182 = ad191 := (by injection e191)
              clear hi191_6 hl191_6
              replace p191 := eq_true p191
              replace q191 := eq_true q191
              have ea_ := Option.some.inj (hx182_6.symm.trans hx191_6)
              injection ea_ with ea_ en_ ec_
              subst ea_
              subst ec_
              clear en_
              go_wp2
              go_ret
              exact ⟨by rfl, by repeat ((with_reducible exact HB.out))⟩
           ·rw [if_neg c32] at H
            have c32b0 : decide (1 < ((rd_T26 t175 x15_1).f0)) = false := decide_eq_false c32
            clear c32
            have H' := Aside0.mk H
            clear H
            have p182 : 0 ≤ (x15_1 : Int) := of_decide_eq_true (by (with_reducible assumption))
            have q182 : x15_1 < (t175.length : Int) := of_decide_eq_true (by (with_reducible assumption))
            obtain ⟨ad182, A182_6, c182_6, e182, hx182_0, hx182_1, hx182_2, hx182_3, hx182_4, hx182_5, hx182_6, hl182_6, hi182_6⟩ := at_T26 (Kd.N_reads' HO_3.out).2.2 x15_1 p182 q182
            cases e182
            obtain ⟨ce182, hce182, hMe182, hcc182⟩ := Kd.N_get HO_3.out z26 x15_1 p182 q182
            obtain ⟨ua182_6, uc182_6, rfl, ul182_6, ge182_6⟩ := k26_openF hMe182
            have hv182_6 := hcc182 6 _ rfl
            rw [add_field _ _ 6 (by omega)] at hv182_6
            replace hv182_6 := Option.some.inj (hv182_6.symm.trans hx182_6)
            injection hv182_6 with hva_ hvn_ hvc_
            rw [hva_] at ge182_6
            rw [hvc_] at ul182_6
            clear hva_ hvn_ hvc_ ge182_6 ul182_6
            clear hcc182 hce182
            clear hi182_6 hl182_6
            replace p182 := eq_true p182
            replace q182 := eq_true q182
            have p189 : 0 ≤ (x15_1 : Int) := of_decide_eq_true (by (with_reducible assumption))
            have q189 : x15_1 < (t175.length : Int) := of_decide_eq_true (by (with_reducible assumption))
            obtain ⟨ad189, A189_6, c189_6, e189, hx189_0, hx189_1, hx189_2, hx189_3, hx189_4, hx189_5, hx189_6, hl189_6, hi189_6⟩ := at_T26 (Kd.N_reads' HO_3.out).2.2 x15_1 p189 q189
            obtain rfl : ad182 = ad189 := (by injection e189)
            obtain ⟨ce189, hce189, hMe189, hcc189⟩ := Kd.N_get HO_3.out z26 x15_1 p189 q189
            obtain ⟨ua189_6, uc189_6, rfl, ul189_6, ge189_6⟩ := k26_openF hMe189
            have hv189_6 := hcc189 6 _ rfl
            rw [add_field _ _ 6 (by omega)] at hv189_6
            replace hv189_6 := Option.some.inj (hv189_6.symm.trans hx189_6)
            injection hv189_6 with hva_ hvn_ hvc_
            rw [hva_] at ge189_6
            rw [hvc_] at ul189_6
            clear hva_ hvn_ hvc_ ge189_6 ul189_6
            clear hcc189 hce189
            clear hi189_6 hl189_6
            replace p189 := eq_true p189
            replace q189 := eq_true q189
            have ea_ := Option.some.inj (hx182_6.symm.trans hx189_6)
            injection ea_ with ea_ en_ ec_
            subst ea_
            subst ec_
            clear en_
            go_wp2
            go_roundg kj12
            case measure => have := HK1.out; have := HJ12.out; omega
            case rel => exact ⟨(wrap64 (x15_1 + 1)), (by rfl), H', ⟨by have := HK1.out; have := HJ12.out; omega⟩, ⟨by exact HO_3.out⟩, ⟨by exact BK174.out⟩, ⟨by repeat ((with_reducible exact HB.out))⟩⟩
         ·rw [if_neg c24] at H
          exact absurd H (by simp)
        ·rw [if_neg c23] at H
         exact absurd H (by simp)
    ·rw [if_neg c12] at H
     have c12b0 : decide (x15_1 < (t175.length : Int)) = false := decide_eq_false c12
     clear c12
     replace H := Option.bind_eq_some_iff.mp H
     obtain ⟨t192, A350, H⟩ := H
     replace H : (sashref05_May.l1 k1 t192 (t192.length : Int) 0) = some r := H
     have A35 := Aside0.mk A350
     clear A350
     have H' := Aside0.mk H
     clear H
     have hcz36_0 : wr.cell? ⟨gb174, 0, none⟩ = some (.int .u8 a0_0) := (blk_cell BK174.out 0).trans rfl
     have hcz36_1 : wr.cell? ⟨gb174, 1, none⟩ = some (.int .i64 a0_1) := (blk_cell BK174.out 1).trans rfl
     have hcz36_2 : wr.cell? ⟨gb174, 2, none⟩ = some (.int .i64 a0_2) := (blk_cell BK174.out 2).trans rfl
     have hcz36_3 : wr.cell? ⟨gb174, 3, none⟩ = some (.int .i64 a0_3) := (blk_cell BK174.out 3).trans rfl
     have hcz36_4 : wr.cell? ⟨gb174, 4, none⟩ = some (.int .i64 a0_4) := (blk_cell BK174.out 4).trans rfl
     have hcz36_5 : wr.cell? ⟨gb174, 5, none⟩ = some (.int .i64 a0_5) := (blk_cell BK174.out 5).trans rfl
     have hcz36_6 : wr.cell? ⟨gb174, 6, none⟩ = some (.slice A0_6 l0_6.length c0_6) := (blk_cell BK174.out 6).trans rfl
     have hfz36_0 := blk_frozen BK174.out 0
     have hfz36_1 := blk_frozen BK174.out 1
     have hfz36_2 := blk_frozen BK174.out 2
     have hfz36_3 := blk_frozen BK174.out 3
     have hfz36_4 := blk_frozen BK174.out 4
     have hfz36_5 := blk_frozen BK174.out 5
     have hfz36_6 := blk_frozen BK174.out 6
     go_wp2_with ((go_at_call 126; (with_reducible refine (sashref05_Leaves.calls k1 a0_0 a0_1 a0_2 a0_3 a0_4 a0_5 (fun k_ => k_ < w.heap.size) _ _ l0_6 t192 _ ?side1 A35.out).mono ?_); (case side1 => exact Kd.V_mk HC0_6.out (Kd.F_below (Kd.C_F k26_heap HR0_6.out) (by repeat ((with_reducible exact HB.out))))); rintro e w37 ⟨v193, rfl, ho0, hb⟩; have HO194 := Aside0.mk (Kd.N_lower (Kd.N_mono (ok' := fun k_ => some k_ ≠ (.slice Ao11 t175.length co11 : Value).ownBlock ∧ k_ ≠ gb174) ho0 (fun k_ hk_ => ⟨Or.elim hk_ (fun hs_ => fun e_ => Nat.not_le.2 hs_ (Kd.N_base HO_3.out k_ e_.symm)) (fun hn_ => (Kd.fresh' (Kd.N_lt HO_3.out) k_ hn_)), Or.elim hk_ (fun hs_ => fun e_ => Nat.not_le.2 hs_ (by rw [e_]; exact GW174.out)) (fun hn_ => (Kd.freshB BK174.out k_ hn_))⟩)) (below_size (by repeat ((with_reducible exact HB.out))))); replace HO_3 := Aside0.mk (Kd.N_elder' HO_3.out (Kd.N_base ho0) hb); replace BK174 := Aside0.mk (blk_below BK174.out hb); replace HB := Aside0.mk (below_step (by repeat ((with_reducible exact HB.out))) hb); (try clear hb); (try clear ho0); obtain ⟨Ao38, co38, eo38⟩ := Kd.N_slice HO194.out; subst eo38))
     go_loopg [102] k1 (fun kq v102 w' => ∃ (x102_2 : Int), v102 = .int .i64 x102_2 ∧ Aside0 (sashref05_May.l1 kq t192 (t192.length : Int) x102_2 = some r) ∧ Aside0 (kq ≤ k1) ∧ Aside0 (Kd.N k26 26 w' w.heap.size (fun k_ => k_ ≠ gb174) (.slice Ao38 t192.length co38) t192) ∧ Aside0 (w'.heap[gb174]? = some (.cells #[.int .u8 a0_0, .int .i64 a0_1, .int .i64 a0_2, .int .i64 a0_3, .int .i64 a0_4, .int .i64 a0_5, (.slice A0_6 l0_6.length c0_6)] 26 (0, 0))) ∧ Aside0 (Below w.heap.size w w'))
     case atStart => exact ⟨(0), (by rfl), H', ⟨Nat.le_refl _⟩, ⟨by exact Kd.N_mono HO194.out (fun _ hk => hk.2)⟩, ⟨by exact BK174.out⟩, ⟨by repeat ((with_reducible exact HB.out))⟩⟩
     case round =>
      clear H'
      clear c12b0 hcz36_0 hcz36_1 hcz36_2 hcz36_3 hcz36_4 hcz36_5 hcz36_6 hfz36_0 hfz36_1 hfz36_2 hfz36_3 hfz36_4 hfz36_5 hfz36_6
      obtain ⟨x102_2, rfl, HA, HK2, HO_5, BK174, HB⟩ := hrel
      cases gk with
      | zero => exact absurd HA.out (by simp [sashref05_May.l1])
      | succ k2 =>
       have H := HA.out
       clear HA
       simp only [sashref05_May.l1] at H
       by_cases c39 : x102_2 < (t192.length : Int)
       ·rw [if_pos c39] at H
        have c39b0 : decide (x102_2 < (t192.length : Int)) = true := decide_eq_true c39
        clear c39
        have H' := Aside0.mk H
        clear H
        go_wp2
        go_loopg [7] k2 (fun kq v7 w' => ∃ (x7_3 : Int), v7 = .int .i64 x7_3 ∧ Aside0 (sashref05_May.l2 kq t192 x102_2 x7_3 (t192.length : Int) x102_2 = some r) ∧ Aside0 (kq ≤ k2) ∧ Aside0 (Kd.N k26 26 w' w.heap.size (fun k_ => k_ ≠ gb174) (.slice Ao38 t192.length co38) t192) ∧ Aside0 (w'.heap[gb174]? = some (.cells #[.int .u8 a0_0, .int .i64 a0_1, .int .i64 a0_2, .int .i64 a0_3, .int .i64 a0_4, .int .i64 a0_5, (.slice A0_6 l0_6.length c0_6)] 26 (0, 0))) ∧ Aside0 (Below w.heap.size w w'))
        case atStart => exact ⟨(0), (by rfl), H', ⟨Nat.le_refl _⟩, ⟨by exact HO_5.out⟩, ⟨by exact BK174.out⟩, ⟨by repeat ((with_reducible exact HB.out))⟩⟩
        case round =>
         clear H'
         clear c39b0
         obtain ⟨x7_3, rfl, HA, HK3, HO_5, BK174, HB⟩ := hrel
         cases gk with
         | zero => exact absurd HA.out (by simp [sashref05_May.l2])
         | succ k3 =>
          have H := HA.out
          clear HA
          simp only [sashref05_May.l2] at H
          by_cases c40 : x7_3 < x102_2
          ·rw [if_pos c40] at H
           have c40b0 : decide (x7_3 < x102_2) = true := decide_eq_true c40
           clear c40
           by_cases c41 : 0 ≤ x102_2
           ·rw [if_pos c41] at H
            have c41b0 : decide (0 ≤ x102_2) = true := decide_eq_true c41
            clear c41
            by_cases c42 : x102_2 < (t192.length : Int)
            ·rw [if_pos c42] at H
             have c42b0 : decide (x102_2 < (t192.length : Int)) = true := decide_eq_true c42
             clear c42
             by_cases c43 : 0 ≤ x7_3
             ·rw [if_pos c43] at H
              have c43b0 : decide (0 ≤ x7_3) = true := decide_eq_true c43
              clear c43
              by_cases c44 : x7_3 < (t192.length : Int)
              ·rw [if_pos c44] at H
               have c44b0 : decide (x7_3 < (t192.length : Int)) = true := decide_eq_true c44
               clear c44
               by_cases c45 : ((rd_T26 t192 x102_2).f2) = ((rd_T26 t192 x7_3).f2)
               ·rw [if_pos c45] at H
                have c45b0 : (((rd_T26 t192 x102_2).f2) == ((rd_T26 t192 x7_3).f2)) = true := beq_iff_eq.mpr c45
                have c45b1 : (((rd_T26 t192 x102_2).f2) != ((rd_T26 t192 x7_3).f2)) = false := bne_eq_false_iff_eq.mpr c45
                clear c45
                obtain rfl := Option.some.inj H
                have p195 : 0 ≤ (x102_2 : Int) := of_decide_eq_true (by (with_reducible assumption))
                have q195 : x102_2 < (t192.length : Int) := of_decide_eq_true (by (with_reducible assumption))
                obtain ⟨ad195, A195_6, c195_6, e195, hx195_0, hx195_1, hx195_2, hx195_3, hx195_4, hx195_5, hx195_6, hl195_6, hi195_6⟩ := at_T26 (Kd.N_reads' HO_5.out).2.2 x102_2 p195 q195
                cases e195
                clear hi195_6 hl195_6
                replace p195 := eq_true p195
                replace q195 := eq_true q195
                have p196 : 0 ≤ (x7_3 : Int) := of_decide_eq_true (by (with_reducible assumption))
                have q196 : x7_3 < (t192.length : Int) := of_decide_eq_true (by (with_reducible assumption))
                obtain ⟨ad196, A196_6, c196_6, e196, hx196_0, hx196_1, hx196_2, hx196_3, hx196_4, hx196_5, hx196_6, hl196_6, hi196_6⟩ := at_T26 (Kd.N_reads' HO_5.out).2.2 x7_3 p196 q196
                obtain rfl : ad195 = ad196 := (by injection e196)
                clear hi196_6 hl196_6
                replace p196 := eq_true p196
                replace q196 := eq_true q196
                go_wp2
                repeat (go_quiet (fail); try go_wp2)
                go_ret
                exact ⟨by rfl, by repeat ((with_reducible first | exact HB.out | apply pw_below_drewN))⟩
               ·rw [if_neg c45] at H
                have c45b0 : (((rd_T26 t192 x102_2).f2) == ((rd_T26 t192 x7_3).f2)) = false := beq_eq_false_iff_ne.mpr c45
                have c45b1 : (((rd_T26 t192 x102_2).f2) != ((rd_T26 t192 x7_3).f2)) = true := bne_iff_ne.mpr c45
                have H' := Aside0.mk H
                clear H
                have p195 : 0 ≤ (x102_2 : Int) := of_decide_eq_true (by (with_reducible assumption))
                have q195 : x102_2 < (t192.length : Int) := of_decide_eq_true (by (with_reducible assumption))
                obtain ⟨ad195, A195_6, c195_6, e195, hx195_0, hx195_1, hx195_2, hx195_3, hx195_4, hx195_5, hx195_6, hl195_6, hi195_6⟩ := at_T26 (Kd.N_reads' HO_5.out).2.2 x102_2 p195 q195
                cases e195
                clear hi195_6 hl195_6
                replace p195 := eq_true p195
                replace q195 := eq_true q195
                have p196 : 0 ≤ (x7_3 : Int) := of_decide_eq_true (by (with_reducible assumption))
                have q196 : x7_3 < (t192.length : Int) := of_decide_eq_true (by (with_reducible assumption))
                obtain ⟨ad196, A196_6, c196_6, e196, hx196_0, hx196_1, hx196_2, hx196_3, hx196_4, hx196_5, hx196_6, hl196_6, hi196_6⟩ := at_T26 (Kd.N_reads' HO_5.out).2.2 x7_3 p196 q196
                obtain rfl : ad195 = ad196 := (by injection e196)
                clear hi196_6 hl196_6
                replace p196 := eq_true p196
                replace q196 := eq_true q196
                go_wp2
                repeat (go_quiet (fail); try go_wp2)
                go_roundg k3
                case measure => have := HK1.out; have := HK2.out; have := HK3.out; omega
                case rel => exact ⟨(wrap64 (x7_3 + 1)), (by rfl), H', ⟨by have := HK1.out; have := HK2.out; have := HK3.out; omega⟩, ⟨by (with_reducible repeat (apply Kd.N_drewN)); exact HO_5.out⟩, ⟨by (with_reducible repeat (refine blk_drewN ?_ _)); exact BK174.out⟩, ⟨by repeat ((with_reducible first | exact HB.out | apply pw_below_drewN))⟩⟩
              ·rw [if_neg c44] at H
               exact absurd H (by simp)
             ·rw [if_neg c43] at H
              exact absurd H (by simp)
            ·rw [if_neg c42] at H
             exact absurd H (by simp)
           ·rw [if_neg c41] at H
            exact absurd H (by simp)
          ·rw [if_neg c40] at H
           have c40b0 : decide (x7_3 < x102_2) = false := decide_eq_false c40
           clear c40
           have H' := Aside0.mk H
           clear H
           go_wp2
           go_roundg k3
           case measure => have := HK1.out; have := HK2.out; have := HK3.out; omega
           case rel => exact ⟨(wrap64 (x102_2 + 1)), (by rfl), H', ⟨by have := HK1.out; have := HK2.out; have := HK3.out; omega⟩, ⟨by exact HO_5.out⟩, ⟨by exact BK174.out⟩, ⟨by repeat ((with_reducible exact HB.out))⟩⟩
       ·rw [if_neg c39] at H
        have c39b0 : decide (x102_2 < (t192.length : Int)) = false := decide_eq_false c39
        clear c39
        obtain rfl := Option.some.inj H
        go_wp2
        go_ret
        exact ⟨by rfl, by repeat ((with_reducible exact HB.out))⟩

end Go.Proofs.Ytfdmfgaiblfbhaa.P
namespace Go.Proofs.Ytfdmfgaiblfbhaa.P
open Go.RowKit Go.Proofs.YtfdmfgaiblfbhaaW.PrintWords Go.Proofs.YtfdmfgaiblfbhaaW.PrintLast Go.Proofs.YtfdmfgaiblfbhaaW.PrintMore
attribute [local go_sem] max2_int min2_int max_two min_two max_three min_three max_four min_four   -- for this text's walks alone
set_option linter.unusedVariables false
set_option linter.unusedSimpArgs false

theorem eqA23 (d : Nat) (w : World) (x0 y0 : Int) (x1 y1 : Int) (x2 y2 : Int) (x3 y3 : Int) :
    (Op.equalIn (d + 2) 23 (.agg #[.int .i64 x0, .int .i64 x1, .int .i64 x2, .int .i64 x3]) (.agg #[.int .i64 y0, .int .i64 y1, .int .i64 y2, .int .i64 y3])).run Try.prog w = .ok (x0 == y0 && (x1 == y1 && (x2 == y2 && (x3 == y3)))) w := by
  refine eqA_of Try.underlying23 (by kernel_rfl) ?_
  refine eqf_cons (by rfl) (by go_simp; rfl) (by go_simp; rfl) (by go_simp) ?_
  refine eqf_cons (by rfl) (by go_simp; rfl) (by go_simp; rfl) (by go_simp) ?_
  refine eqf_cons (by rfl) (by go_simp; rfl) (by go_simp; rfl) (by go_simp) ?_
  exact eqf_last (by rfl) (by go_simp; rfl) (by go_simp; rfl) (by go_simp)
end Go.Proofs.Ytfdmfgaiblfbhaa.P
