/- LeastIs: part 3 of 7 of this claim's texts, one behind the other. The words of the kit's printer stand in it cut down, by a program, to those that are used. -/
import Derived.Test.YtfdmfgaiblfbhaaProg
import Derived.Below
import Derived.Deep.Draws
import Derived.Deep.AppendLies
import Derived.Maps.AppendAt
import Derived.OwnWalk
import Derived.Laws.BytesArg
import Derived.Laws.MakeOwn
import Derived.Laws.OwnMore
import Derived.Deep.OwnRows
import Derived.Tactics
import Derived.Lib.ConvBytes
import Derived.Laws.Slices
import Derived.WalkKit
import Derived.KernelRfl
import Derived.RowKit3
import Derived.Deep.LoopGhost
import Derived.Deep.QuietTactic
import Derived.BigQuiet
import Derived.WideLaws
import Derived.Deep.DeepCutAuto
import Derived.Deep.CutBlock
import Derived.Deep.RegionHeld3
import Derived.Laws.Rows
import Derived.Lib.AppendStr
import Derived.ArgAppend
import Derived.Laws.IdiomCopy
import Derived.OrdersHeld
import Derived.Laws.BitsLemmas
import Derived.RowKit
import Derived.Test.YtfdmfgaiblfbhaaMLeastIsa
import Derived.Test.YtfdmfgaiblfbhaaMLeastIsb
import Derived.Lib.Hide
namespace Go.Proofs.Ytfdmfgaiblfbhaa.P
open Go.RowKit Go.Proofs.YtfdmfgaiblfbhaaW.PrintWords Go.Proofs.YtfdmfgaiblfbhaaW.PrintLast Go.Proofs.YtfdmfgaiblfbhaaW.PrintMore
attribute [local go_sem] max2_int min2_int max_two min_two max_three min_three max_four min_four   -- for this text's walks alone
set_option linter.unusedVariables false
set_option linter.unusedSimpArgs false



def errW : Option Int → Value
  | none => .nilIface
  | some c => .iface 0 (.int .i64 c)
theorem info3 : (Try.prog.info? 3).map (fun i => (i.zero, i.size, i.bytes)) = some (some (.int .i64 0), 1, 8) := by kernel_rfl
theorem info23 : (Try.prog.info? 23).map (fun i => (i.zero, i.size, i.bytes)) = some (some (.agg #[(.int .i64 0), (.int .i64 0), (.int .i64 0), (.int .i64 0)]), 4, 32) := by kernel_rfl
theorem info26 : (Try.prog.info? 26).map (fun i => (i.zero, i.size, i.bytes)) = some (some (.agg #[(.int .u8 0), (.int .i64 0), (.int .i64 0), (.int .i64 0), (.int .i64 0), (.int .i64 0), (.slice none 0 0)]), 7, 72) := by kernel_rfl
-- the values' own types
/-! #### struct type 23 -/
structure S23 where
  f0 : Int
  f1 : Int
  f2 : Int
  f3 : Int
def z23 : S23 := ⟨(0 : Int), (0 : Int), (0 : Int), (0 : Int)⟩
def k23 : Kd S23 := Kd.iso (Kd.pair (Kd.int .i64) (Kd.pair (Kd.int .i64) (Kd.pair (Kd.int .i64) (Kd.int .i64)))) (fun x : S23 => (x.f0, x.f1, x.f2, x.f3))
theorem k23_heap : Kd.Heap k23 := Kd.heap_iso _ (Kd.heap_pair (Kd.heap_int .i64) (Kd.heap_pair (Kd.heap_int .i64) (Kd.heap_pair (Kd.heap_int .i64) (Kd.heap_int .i64))))
theorem k23_open {w : World} {x : S23} {cs : List Value} (h : k23.K w x cs) : cs = [.int .i64 x.f0, .int .i64 x.f1, .int .i64 x.f2, .int .i64 x.f3] := by
  obtain ⟨_, _, rfl, rfl, ⟨_, _, rfl, rfl, ⟨_, _, rfl, rfl, rfl⟩⟩⟩ := h
  exact rfl
theorem k23_mk (w : World) (x : S23)  : k23.K w x [.int .i64 x.f0, .int .i64 x.f1, .int .i64 x.f2, .int .i64 x.f3] := ⟨[.int .i64 x.f0], [.int .i64 x.f1, .int .i64 x.f2, .int .i64 x.f3], rfl, rfl, ⟨[.int .i64 x.f1], [.int .i64 x.f2, .int .i64 x.f3], rfl, rfl, ⟨[.int .i64 x.f2], [.int .i64 x.f3], rfl, rfl, rfl⟩⟩⟩
theorem k23_mkM (w : World) (base : Nat) (ok : Nat → Prop) (x : S23)  : k23.M w base ok x [.int .i64 x.f0, .int .i64 x.f1, .int .i64 x.f2, .int .i64 x.f3] := ⟨[.int .i64 x.f0], [.int .i64 x.f1, .int .i64 x.f2, .int .i64 x.f3], rfl, rfl, ⟨[.int .i64 x.f1], [.int .i64 x.f2, .int .i64 x.f3], rfl, rfl, ⟨[.int .i64 x.f2], [.int .i64 x.f3], rfl, rfl, rfl⟩⟩⟩
def rd_T23 (xs : List S23) (i : Int) : S23 := xs.getD i.toNat z23
theorem at_T23 {w : World} {A : Option Addr} {n : Nat} {xs : List S23} (h : Kd.C k23 w A n xs) (i : Int) (h0 : 0 ≤ i) (h1 : i < n) : ∃ ad , A = some ad ∧ w.cell? (ad.add (i.toNat * 4)) = some (.int .i64 (rd_T23 xs i).f0) ∧ w.cell? ⟨(ad.add (i.toNat * 4)).block, (ad.add (i.toNat * 4)).off + 1, none⟩ = some (.int .i64 (rd_T23 xs i).f1) ∧ w.cell? ⟨(ad.add (i.toNat * 4)).block, (ad.add (i.toNat * 4)).off + 2, none⟩ = some (.int .i64 (rd_T23 xs i).f2) ∧ w.cell? ⟨(ad.add (i.toNat * 4)).block, (ad.add (i.toNat * 4)).off + 3, none⟩ = some (.int .i64 (rd_T23 xs i).f3) := by
  obtain ⟨ad, c, e, _, hK, hc0⟩ := Kd.C_get h z23 i h0 h1
  have hc : ∀ j u, c[j]? = some u → w.cell? (ad.add (i.toNat * 4 + j)) = some u := hc0
  obtain rfl := k23_open hK
  exact ⟨ad, e, hc 0 _ rfl, by rw [← add_field _ _ 1 (by omega)]; exact hc 1 _ rfl, by rw [← add_field _ _ 2 (by omega)]; exact hc 2 _ rfl, by rw [← add_field _ _ 3 (by omega)]; exact hc 3 _ rfl⟩

/-! #### struct type 26, nested in itself -/
structure S26 where
  f0 : Int
  f1 : S23
  f2 : Int
  f3 : (List S26)
def z26 : S26 := ⟨(0 : Int), z23, (0 : Int), ([] : List S26)⟩
def F26 (d : Kd S26) : Kd S26 := Kd.iso (Kd.pair (Kd.int .u8) (Kd.pair k23 (Kd.pair (Kd.int .i64) (Kd.slice 26 d)))) (fun x : S26 => (x.f0, x.f1, x.f2, x.f3))
theorem mono26 : Kd.Mono F26 := Kd.mono_iso _ (Kd.mono_pair (Kd.mono_const _) (Kd.mono_pair (Kd.mono_const _) (Kd.mono_pair (Kd.mono_const _) (Kd.mono_slice 26 Kd.mono_id))))
theorem sub26 : Kd.Sub F26 [26] := Kd.sub_iso _ (Kd.sub_pair (Kd.sub_const _ (by decide)) (Kd.sub_pair (Kd.sub_const _ (by decide)) (Kd.sub_pair (Kd.sub_const _ (by decide)) (Kd.sub_slice 26 (by decide) Kd.sub_id))))
theorem sz26 : ∀ n, (Kd.upto F26 7 [26] n).sz = 7 := Kd.upto_sz (fun _ => rfl)
def k26 : Kd S26 := Kd.fix F26 7 [26] sz26 (Kd.upto_E sub26)
theorem k26_heap : Kd.Heap k26 := Kd.heap_fix (fun _ h_ => Kd.heap_iso _ (Kd.heap_pair (Kd.heap_int .u8) (Kd.heap_pair k23_heap (Kd.heap_pair (Kd.heap_int .i64) (Kd.heap_slice 26 h_)))))
theorem k26_open {w : World} {x : S26} {cs : List Value} (h : k26.K w x cs) : ∃ A6 c6, cs = [.int .u8 x.f0, .int .i64 x.f1.f0, .int .i64 x.f1.f1, .int .i64 x.f1.f2, .int .i64 x.f1.f3, .int .i64 x.f2, .slice A6 x.f3.length c6] ∧ x.f3.length ≤ c6 ∧ k26.C w A6 x.f3.length x.f3 := by
  obtain ⟨n, h⟩ := h
  cases n with
  | zero => exact h.elim
  | succ n =>
    obtain ⟨_, _, rfl, rfl, ⟨_, _, rfl, s1, ⟨_, _, rfl, rfl, ⟨A6, c6, rfl, l6, g6⟩⟩⟩⟩ := h
    obtain rfl := k23_open s1
    exact ⟨A6, c6, rfl, l6, Kd.fix_C g6⟩
theorem k26_mk (w : World) (x : S26) {A6 : Option Addr} {c6 : Nat} (l6 : x.f3.length ≤ c6) (g6 : k26.C w A6 x.f3.length x.f3) : k26.K w x [.int .u8 x.f0, .int .i64 x.f1.f0, .int .i64 x.f1.f1, .int .i64 x.f1.f2, .int .i64 x.f1.f3, .int .i64 x.f2, .slice A6 x.f3.length c6] := by
  obtain ⟨n6, q6⟩ := Kd.fix_C_back mono26 g6
  have r6 := Kd.upto_C_le mono26 sz26 (show n6 ≤ n6 by omega) q6
  exact ⟨n6 + 1, ⟨[.int .u8 x.f0], [.int .i64 x.f1.f0, .int .i64 x.f1.f1, .int .i64 x.f1.f2, .int .i64 x.f1.f3, .int .i64 x.f2, .slice A6 x.f3.length c6], rfl, rfl, ⟨[.int .i64 x.f1.f0, .int .i64 x.f1.f1, .int .i64 x.f1.f2, .int .i64 x.f1.f3], [.int .i64 x.f2, .slice A6 x.f3.length c6], rfl, (k23_mk w x.f1 ), ⟨[.int .i64 x.f2], [.slice A6 x.f3.length c6], rfl, rfl, ⟨A6, c6, rfl, l6, r6⟩⟩⟩⟩⟩
theorem k26_mkM (w : World) (base : Nat) (ok : Nat → Prop) (x : S26) {v6 : Value} (g6 : k26.R 26 w base ok v6 x.f3) : k26.M w base ok x [.int .u8 x.f0, .int .i64 x.f1.f0, .int .i64 x.f1.f1, .int .i64 x.f1.f2, .int .i64 x.f1.f3, .int .i64 x.f2, v6] := by
  obtain ⟨n6, q6⟩ := Kd.fix_R_back mono26 g6
  have r6 := Kd.upto_R_le mono26 sz26 (show n6 ≤ n6 by omega) q6
  exact ⟨n6 + 1, ⟨[.int .u8 x.f0], [.int .i64 x.f1.f0, .int .i64 x.f1.f1, .int .i64 x.f1.f2, .int .i64 x.f1.f3, .int .i64 x.f2, v6], rfl, rfl, ⟨[.int .i64 x.f1.f0, .int .i64 x.f1.f1, .int .i64 x.f1.f2, .int .i64 x.f1.f3], [.int .i64 x.f2, v6], rfl, (k23_mkM w base ok x.f1 ), ⟨[.int .i64 x.f2], [v6], rfl, rfl, ⟨v6, rfl, r6⟩⟩⟩⟩⟩
theorem k26_openF {W : World} {ok : Nat → Prop} {x : S26} {cs : List Value} (h : Kd.FK k26 W ok x cs) : ∃ A6 c6, cs = [.int .u8 x.f0, .int .i64 x.f1.f0, .int .i64 x.f1.f1, .int .i64 x.f1.f2, .int .i64 x.f1.f3, .int .i64 x.f2, .slice A6 x.f3.length c6] ∧ x.f3.length ≤ c6 ∧ Kd.F k26 W ok A6 x.f3.length x.f3 := by
  obtain ⟨A6, c6, rfl, l6, _⟩ := k26_open (Kd.FK_now h)
  exact ⟨A6, c6, rfl, l6, (fun W' hW => by obtain ⟨A6_, c6_, he, l6_, g6_⟩ := k26_open (h W' hW); injection (Option.some.inj (show some (Value.slice A6 x.f3.length c6) = some (Value.slice A6_ x.f3.length c6_) from congrArg (fun l => l[6]?) he)) with ha_ _ _; rw [ha_]; exact g6_)⟩
theorem k26_mkF (W : World) (ok : Nat → Prop) (x : S26) {A6 : Option Addr} {c6 : Nat} (l6 : x.f3.length ≤ c6) (g6 : Kd.F k26 W ok A6 x.f3.length x.f3) : Kd.FK k26 W ok x [.int .u8 x.f0, .int .i64 x.f1.f0, .int .i64 x.f1.f1, .int .i64 x.f1.f2, .int .i64 x.f1.f3, .int .i64 x.f2, .slice A6 x.f3.length c6] := fun W2 hW => k26_mk W2 x l6 (g6 W2 hW)
def rd_T26 (xs : List S26) (i : Int) : S26 := xs.getD i.toNat z26
theorem at_T26 {w : World} {A : Option Addr} {n : Nat} {xs : List S26} (h : Kd.C k26 w A n xs) (i : Int) (h0 : 0 ≤ i) (h1 : i < n) : ∃ ad A6 c6, A = some ad ∧ w.cell? (ad.add (i.toNat * 7)) = some (.int .u8 (rd_T26 xs i).f0) ∧ w.cell? ⟨(ad.add (i.toNat * 7)).block, (ad.add (i.toNat * 7)).off + 1, none⟩ = some (.int .i64 (rd_T26 xs i).f1.f0) ∧ w.cell? ⟨(ad.add (i.toNat * 7)).block, (ad.add (i.toNat * 7)).off + 2, none⟩ = some (.int .i64 (rd_T26 xs i).f1.f1) ∧ w.cell? ⟨(ad.add (i.toNat * 7)).block, (ad.add (i.toNat * 7)).off + 3, none⟩ = some (.int .i64 (rd_T26 xs i).f1.f2) ∧ w.cell? ⟨(ad.add (i.toNat * 7)).block, (ad.add (i.toNat * 7)).off + 4, none⟩ = some (.int .i64 (rd_T26 xs i).f1.f3) ∧ w.cell? ⟨(ad.add (i.toNat * 7)).block, (ad.add (i.toNat * 7)).off + 5, none⟩ = some (.int .i64 (rd_T26 xs i).f2) ∧ w.cell? ⟨(ad.add (i.toNat * 7)).block, (ad.add (i.toNat * 7)).off + 6, none⟩ = some (.slice A6 (rd_T26 xs i).f3.length c6) ∧ (rd_T26 xs i).f3.length ≤ c6 ∧ k26.C w A6 (rd_T26 xs i).f3.length (rd_T26 xs i).f3 := by
  obtain ⟨ad, c, e, _, hK, hc0⟩ := Kd.C_get h z26 i h0 h1
  have hc : ∀ j u, c[j]? = some u → w.cell? (ad.add (i.toNat * 7 + j)) = some u := hc0
  obtain ⟨A6, c6, rfl, l6, g6⟩ := k26_open hK
  exact ⟨ad, A6, c6, e, hc 0 _ rfl, by rw [← add_field _ _ 1 (by omega)]; exact hc 1 _ rfl, by rw [← add_field _ _ 2 (by omega)]; exact hc 2 _ rfl, by rw [← add_field _ _ 3 (by omega)]; exact hc 3 _ rfl, by rw [← add_field _ _ 4 (by omega)]; exact hc 4 _ rfl, by rw [← add_field _ _ 5 (by omega)]; exact hc 5 _ rfl, by rw [← add_field _ _ 6 (by omega)]; exact hc 6 _ rfl, l6, g6⟩

/-! #### struct type 35 -/
structure S35 where
  f0 : Int
  f1 : S23
def z35 : S35 := ⟨(0 : Int), z23⟩
def k35 : Kd S35 := Kd.iso (Kd.pair (Kd.int .i64) k23) (fun x : S35 => (x.f0, x.f1))
def rd_T35 (xs : List S35) (i : Int) : S35 := xs.getD i.toNat z35
def rd_L5 (xs : List (List S35)) (i : Int) : (List S35) := xs.getD i.toNat ([] : List S35)
def rd_L6 (xs : List (List Int)) (i : Int) : (List Int) := xs.getD i.toNat ([] : List Int)
def rd_L8 (xs : List (List S23)) (i : Int) : (List S23) := xs.getD i.toNat ([] : List S23)
def rd_L9 (xs : List (List S26)) (i : Int) : (List S26) := xs.getD i.toNat ([] : List S26)
def rd_L10 (xs : List (List Int)) (i : Int) : (List Int) := xs.getD i.toNat ([] : List Int)
end Go.Proofs.Ytfdmfgaiblfbhaa.P
namespace Go.Proofs.Ytfdmfgaiblfbhaa.P
open Go.RowKit Go.Proofs.YtfdmfgaiblfbhaaW.PrintWords Go.Proofs.YtfdmfgaiblfbhaaW.PrintLast Go.Proofs.YtfdmfgaiblfbhaaW.PrintMore
attribute [local go_sem] max2_int min2_int max_two min_two max_three min_three max_four min_four   -- for this text's walks alone
set_option linter.unusedVariables false
set_option linter.unusedSimpArgs false

/-! ### sashref05_count: function 124 -/
mutual
def sashref05_count.l0 : Nat → Int → Int → Int → Int → Int → Int → Int → Int → Int → Int → List (S26) → Option (Int)
 | 0, _, _, _, _, _, _, _, _, _, _, _ => none
 | k + 1, x1, x5, x9, x10, x102000, x102001, x102002, x102003, x102004, x102005, x102006 => if x10 < x9 then (if x5 > x1 then (some x5) else (if 0 ≤ x10 then (if x10 < (x102006.length : Int) then ((sashref05_count.f k ((rd_T26 x102006 x10).f0) ((rd_T26 x102006 x10).f1.f0) ((rd_T26 x102006 x10).f1.f1) ((rd_T26 x102006 x10).f1.f2) ((rd_T26 x102006 x10).f1.f3) ((rd_T26 x102006 x10).f2) ((rd_T26 x102006 x10).f3) x1).bind fun t103 => (sashref05_count.l0 k x1 (wrap64 (x5 + t103)) x9 (wrap64 (x10 + 1)) x102000 x102001 x102002 x102003 x102004 x102005 x102006)) else (none)) else (none))) else (some x5)
def sashref05_count.f : Nat → Int → Int → Int → Int → Int → Int → List (S26) → Int → Option (Int)
 | 0, _, _, _, _, _, _, _, _ => none
 | k + 1, a0_0, a0_1, a0_2, a0_3, a0_4, a0_5, l0_6, a1 => sashref05_count.l0 k a1 1 (l0_6.length : Int) 0 a0_0 a0_1 a0_2 a0_3 a0_4 a0_5 l0_6
end
set_option maxHeartbeats 8000000 in
set_option maxRecDepth 100000 in
theorem sashref05_count.calls (k : Nat) : ∀ (a0_0 : Int) (a0_1 : Int) (a0_2 : Int) (a0_3 : Int) (a0_4 : Int) (a0_5 : Int) (A0_6 : Option Addr) (c0_6 : Nat) (l0_6 : List (S26)) (a1 : Int) (r : Int) (w : World) (hr0_6 : Kd.C k26 w A0_6 l0_6.length l0_6) (hc0_6 : l0_6.length ≤ c0_6) (h : sashref05_count.f k a0_0 a0_1 a0_2 a0_3 a0_4 a0_5 l0_6 a1 = some r),
  Calls Try.prog 124 #[.agg #[.int .u8 a0_0, .int .i64 a0_1, .int .i64 a0_2, .int .i64 a0_3, .int .i64 a0_4, .int .i64 a0_5, .slice A0_6 l0_6.length c0_6], .int .i64 a1] w fun e w' => e = .returned (.int .i64 r) ∧ Below w.heap.size w w' := by
 induction k using Nat.strongRecOn with
 | _ k ih =>
 intro a0_0 a0_1 a0_2 a0_3 a0_4 a0_5 A0_6 c0_6 l0_6 a1 r w hr0_6 hc0_6 h
 cases k with
 | zero => exact absurd h (by simp [sashref05_count.f])
 | succ k =>
 simp only [sashref05_count.f] at h
 have hu26 := Try.underlying26
 have HR0_6 := Aside0.mk hr0_6
 clear hr0_6 hc0_6
 have HB := Aside0.mk (Below.refl w.heap.size w)
 have H : (sashref05_count.l0 k a1 1 (l0_6.length : Int) 0 a0_0 a0_1 a0_2 a0_3 a0_4 a0_5 l0_6) = some r := h
 clear h
 have H' := Aside0.mk H
 clear H
 go_enter Try.func124, Try.ntmps124
 go_wp2_with (((with_reducible refine gate_dst (N := 2) rfl ?_); refine box_event ?hg (N := 2) ?hd (cs := #[.int .u8 a0_0, .int .i64 a0_1, .int .i64 a0_2, .int .i64 a0_3, .int .i64 a0_4, .int .i64 a0_5, .slice A0_6 l0_6.length c0_6]) (t := 26) ?hr ?_; (case hd => rfl); (case hg => rfl); (case hr => (go_simp; done)); intro gb101 hg w3 hbox hb; have BK101 := Aside0.mk (hbox); replace HB := Aside0.mk (below_step (by repeat ((with_reducible exact HB.out))) hb); clear hb hbox hg; have hcz4_0 : w3.cell? ⟨gb101, 0, none⟩ = some (.int .u8 a0_0) := (blk_cell BK101.out 0).trans rfl; have hcz4_1 : w3.cell? ⟨gb101, 1, none⟩ = some (.int .i64 a0_1) := (blk_cell BK101.out 1).trans rfl; have hcz4_2 : w3.cell? ⟨gb101, 2, none⟩ = some (.int .i64 a0_2) := (blk_cell BK101.out 2).trans rfl; have hcz4_3 : w3.cell? ⟨gb101, 3, none⟩ = some (.int .i64 a0_3) := (blk_cell BK101.out 3).trans rfl; have hcz4_4 : w3.cell? ⟨gb101, 4, none⟩ = some (.int .i64 a0_4) := (blk_cell BK101.out 4).trans rfl; have hcz4_5 : w3.cell? ⟨gb101, 5, none⟩ = some (.int .i64 a0_5) := (blk_cell BK101.out 5).trans rfl; have hcz4_6 : w3.cell? ⟨gb101, 6, none⟩ = some (.slice A0_6 l0_6.length c0_6) := (blk_cell BK101.out 6).trans rfl; have hfz4_0 := blk_frozen BK101.out 0; have hfz4_1 := blk_frozen BK101.out 1; have hfz4_2 := blk_frozen BK101.out 2; have hfz4_3 := blk_frozen BK101.out 3; have hfz4_4 := blk_frozen BK101.out 4; have hfz4_5 := blk_frozen BK101.out 5; have hfz4_6 := blk_frozen BK101.out 6))
 go_loopg [5, 10] k (fun kq v5 v10 w' => ∃ (x5_1 : Int) (x10_1 : Int), v5 = .int .i64 x5_1 ∧ v10 = .int .i64 x10_1 ∧ Aside0 (sashref05_count.l0 kq a1 x5_1 (l0_6.length : Int) x10_1 a0_0 a0_1 a0_2 a0_3 a0_4 a0_5 l0_6 = some r) ∧ Aside0 (kq ≤ k) ∧ Aside0 (w'.heap[gb101]? = some (.cells #[.int .u8 a0_0, .int .i64 a0_1, .int .i64 a0_2, .int .i64 a0_3, .int .i64 a0_4, .int .i64 a0_5, (.slice A0_6 l0_6.length c0_6)] 26 (0, 0))) ∧ Aside0 (Below w.heap.size w w'))
 case atStart => exact ⟨(1), (0), (by rfl), (by rfl), H', ⟨Nat.le_refl _⟩, ⟨by exact BK101.out⟩, ⟨by repeat ((with_reducible exact HB.out))⟩⟩
 case round =>
  clear H'
  clear hcz4_0 hcz4_1 hcz4_2 hcz4_3 hcz4_4 hcz4_5 hcz4_6 hfz4_0 hfz4_1 hfz4_2 hfz4_3 hfz4_4 hfz4_5 hfz4_6
  obtain ⟨x5_1, x10_1, rfl, rfl, HA, HK1, BK101, HB⟩ := hrel
  cases gk with
  | zero => exact absurd HA.out (by simp [sashref05_count.l0])
  | succ k1 =>
   have H := HA.out
   clear HA
   simp only [sashref05_count.l0] at H
   by_cases c5 : x10_1 < (l0_6.length : Int)
   ·rw [if_pos c5] at H
    have c5b0 : decide (x10_1 < (l0_6.length : Int)) = true := decide_eq_true c5
    clear c5
    by_cases c6 : x5_1 > a1
    ·rw [if_pos c6] at H
     have c6b0 : decide (a1 < x5_1) = true := decide_eq_true c6
     clear c6
     obtain rfl := Option.some.inj H
     go_wp2
     go_ret
     exact ⟨by rfl, by repeat ((with_reducible exact HB.out))⟩
    ·rw [if_neg c6] at H
     have c6b0 : decide (a1 < x5_1) = false := decide_eq_false c6
     clear c6
     by_cases c7 : 0 ≤ x10_1
     ·rw [if_pos c7] at H
      have c7b0 : decide (0 ≤ x10_1) = true := decide_eq_true c7
      clear c7
      by_cases c8 : x10_1 < (l0_6.length : Int)
      ·rw [if_pos c8] at H
       have c8b0 : decide (x10_1 < (l0_6.length : Int)) = true := decide_eq_true c8
       clear c8
       replace H := Option.bind_eq_some_iff.mp H
       obtain ⟨t103, A90, H⟩ := H
       replace H : (sashref05_count.l0 k1 a1 (wrap64 (x5_1 + t103)) (l0_6.length : Int) (wrap64 (x10_1 + 1)) a0_0 a0_1 a0_2 a0_3 a0_4 a0_5 l0_6) = some r := H
       have A9 := Aside0.mk A90
       clear A90
       have H' := Aside0.mk H
       clear H
       have hcz10_0 : wr.cell? ⟨gb101, 0, none⟩ = some (.int .u8 a0_0) := (blk_cell BK101.out 0).trans rfl
       have hcz10_1 : wr.cell? ⟨gb101, 1, none⟩ = some (.int .i64 a0_1) := (blk_cell BK101.out 1).trans rfl
       have hcz10_2 : wr.cell? ⟨gb101, 2, none⟩ = some (.int .i64 a0_2) := (blk_cell BK101.out 2).trans rfl
       have hcz10_3 : wr.cell? ⟨gb101, 3, none⟩ = some (.int .i64 a0_3) := (blk_cell BK101.out 3).trans rfl
       have hcz10_4 : wr.cell? ⟨gb101, 4, none⟩ = some (.int .i64 a0_4) := (blk_cell BK101.out 4).trans rfl
       have hcz10_5 : wr.cell? ⟨gb101, 5, none⟩ = some (.int .i64 a0_5) := (blk_cell BK101.out 5).trans rfl
       have hcz10_6 : wr.cell? ⟨gb101, 6, none⟩ = some (.slice A0_6 l0_6.length c0_6) := (blk_cell BK101.out 6).trans rfl
       have hfz10_0 := blk_frozen BK101.out 0
       have hfz10_1 := blk_frozen BK101.out 1
       have hfz10_2 := blk_frozen BK101.out 2
       have hfz10_3 := blk_frozen BK101.out 3
       have hfz10_4 := blk_frozen BK101.out 4
       have hfz10_5 := blk_frozen BK101.out 5
       have hfz10_6 := blk_frozen BK101.out 6
       have p102 : 0 ≤ (x10_1 : Int) := of_decide_eq_true (by (with_reducible assumption))
       have q102 : x10_1 < (l0_6.length : Int) := of_decide_eq_true (by (with_reducible assumption))
       obtain ⟨ad102, A102_6, c102_6, e102, hx102_0, hx102_1, hx102_2, hx102_3, hx102_4, hx102_5, hx102_6, hl102_6, hi102_6⟩ := at_T26 HR0_6.out x10_1 p102 q102
       cases e102
       replace hx102_0 := (HB.out.cell (World.block_lt_of_cell? w _ hx102_0)).trans hx102_0
       replace hx102_1 := (HB.out.cell (World.block_lt_of_cell? w _ hx102_1)).trans hx102_1
       replace hx102_2 := (HB.out.cell (World.block_lt_of_cell? w _ hx102_2)).trans hx102_2
       replace hx102_3 := (HB.out.cell (World.block_lt_of_cell? w _ hx102_3)).trans hx102_3
       replace hx102_4 := (HB.out.cell (World.block_lt_of_cell? w _ hx102_4)).trans hx102_4
       replace hx102_5 := (HB.out.cell (World.block_lt_of_cell? w _ hx102_5)).trans hx102_5
       replace hx102_6 := (HB.out.cell (World.block_lt_of_cell? w _ hx102_6)).trans hx102_6
       have HR102_6 := Aside0.mk hi102_6
       have HC102_6 := Aside0.mk hl102_6
       clear hi102_6 hl102_6
       replace p102 := eq_true p102
       replace q102 := eq_true q102
       go_wp2_with (((with_reducible refine gate_callee (f := 124) rfl ?_); refine goesL_ (some 24) rfl rfl Try.func124 (by kernel_rfl) rfl #[.agg #[.int .u8 ((rd_T26 l0_6 x10_1).f0), .int .i64 ((rd_T26 l0_6 x10_1).f1.f0), .int .i64 ((rd_T26 l0_6 x10_1).f1.f1), .int .i64 ((rd_T26 l0_6 x10_1).f1.f2), .int .i64 ((rd_T26 l0_6 x10_1).f1.f3), .int .i64 ((rd_T26 l0_6 x10_1).f2), .slice A102_6 ((rd_T26 l0_6 x10_1).f3).length c102_6], .int .i64 a1] rfl (by (try simp only [List.map_toArray, List.map_cons, List.map_nil]); rfl) ?_; (with_reducible refine (ih k1 (by have := HK1.out; omega) ((rd_T26 l0_6 x10_1).f0) ((rd_T26 l0_6 x10_1).f1.f0) ((rd_T26 l0_6 x10_1).f1.f1) ((rd_T26 l0_6 x10_1).f1.f2) ((rd_T26 l0_6 x10_1).f1.f3) ((rd_T26 l0_6 x10_1).f2) _ _ ((rd_T26 l0_6 x10_1).f3) a1 t103 _ ?side1 ?side2 A9.out).mono ?_); (case side1 => repeat (exact (Kd.C_below HR102_6.out HB.out))); (case side2 => exact HC102_6.out); rintro e w11 ⟨rfl, hb⟩; refine ⟨_, rfl, ?_⟩; replace BK101 := Aside0.mk (blk_below BK101.out hb); replace HB := Aside0.mk (below_step (by repeat ((with_reducible exact HB.out))) hb); (try clear hb)))
       go_roundg k1
       case measure => have := HK1.out; omega
       case rel => exact ⟨(wrap64 (x5_1 + t103)), (wrap64 (x10_1 + 1)), (by rfl), (by rfl), H', ⟨by have := HK1.out; omega⟩, ⟨by exact BK101.out⟩, ⟨by repeat ((with_reducible exact HB.out))⟩⟩
      ·rw [if_neg c8] at H
       exact absurd H (by simp)
     ·rw [if_neg c7] at H
      exact absurd H (by simp)
   ·rw [if_neg c5] at H
    have c5b0 : decide (x10_1 < (l0_6.length : Int)) = false := decide_eq_false c5
    clear c5
    obtain rfl := Option.some.inj H
    go_wp2
    go_ret
    exact ⟨by rfl, by repeat ((with_reducible exact HB.out))⟩

end Go.Proofs.Ytfdmfgaiblfbhaa.P
namespace Go.Proofs.Ytfdmfgaiblfbhaa.P
open Go.RowKit Go.Proofs.YtfdmfgaiblfbhaaW.PrintWords Go.Proofs.YtfdmfgaiblfbhaaW.PrintLast Go.Proofs.YtfdmfgaiblfbhaaW.PrintMore
attribute [local go_sem] max2_int min2_int max_two min_two max_three min_three max_four min_four   -- for this text's walks alone
set_option linter.unusedVariables false
set_option linter.unusedSimpArgs false

/-! ### sashref05_Great: function 34 -/
def sashref05_Great.f (k : Nat) (a0_0 : Int) (a0_1 : Int) (a0_2 : Int) (a0_3 : Int) (a0_4 : Int) (a0_5 : Int) (l0_6 : List (S26)) : Option (Bool) := (sashref05_count.f k a0_0 a0_1 a0_2 a0_3 a0_4 a0_5 l0_6 200).bind fun t105 => (some (decide (t105 > 200)))
set_option maxHeartbeats 8000000 in
set_option maxRecDepth 100000 in
theorem sashref05_Great.calls (k : Nat) (a0_0 : Int) (a0_1 : Int) (a0_2 : Int) (a0_3 : Int) (a0_4 : Int) (a0_5 : Int) (A0_6 : Option Addr) (c0_6 : Nat) (l0_6 : List (S26)) (r : Bool) (w : World) (hr0_6 : Kd.C k26 w A0_6 l0_6.length l0_6) (hc0_6 : l0_6.length ≤ c0_6) (h : sashref05_Great.f k a0_0 a0_1 a0_2 a0_3 a0_4 a0_5 l0_6 = some r) :
  Calls Try.prog 34 #[.agg #[.int .u8 a0_0, .int .i64 a0_1, .int .i64 a0_2, .int .i64 a0_3, .int .i64 a0_4, .int .i64 a0_5, .slice A0_6 l0_6.length c0_6]] w fun e w' => e = .returned (.bool r) ∧ Below w.heap.size w w' := by
 have hu26 := Try.underlying26
 have HR0_6 := Aside0.mk hr0_6
 have HC0_6 := Aside0.mk hc0_6
 clear hr0_6 hc0_6
 have HB := Aside0.mk (Below.refl w.heap.size w)
 have H : ((sashref05_count.f k a0_0 a0_1 a0_2 a0_3 a0_4 a0_5 l0_6 200).bind fun t105 => (some (decide (t105 > 200)))) = some r := h
 clear h
 replace H := Option.bind_eq_some_iff.mp H
 obtain ⟨t105, A20, H⟩ := H
 replace H : (some (decide (t105 > 200))) = some r := H
 have A2 := Aside0.mk A20
 clear A20
 obtain rfl := Option.some.inj H
 go_enter Try.func34, Try.ntmps34
 go_wp2_with (first | ((with_reducible refine gate_dst (N := 1) rfl ?_); refine box_event ?hg (N := 1) ?hd (cs := #[.int .u8 a0_0, .int .i64 a0_1, .int .i64 a0_2, .int .i64 a0_3, .int .i64 a0_4, .int .i64 a0_5, .slice A0_6 l0_6.length c0_6]) (t := 26) ?hr ?_; (case hd => rfl); (case hg => rfl); (case hr => (go_simp; done)); intro gb104 hg w3 hbox hb; have BK104 := Aside0.mk (hbox); replace HB := Aside0.mk (below_step (by repeat ((with_reducible exact HB.out))) hb); clear hb hbox hg; have hcz4_0 : w3.cell? ⟨gb104, 0, none⟩ = some (.int .u8 a0_0) := (blk_cell BK104.out 0).trans rfl; have hcz4_1 : w3.cell? ⟨gb104, 1, none⟩ = some (.int .i64 a0_1) := (blk_cell BK104.out 1).trans rfl; have hcz4_2 : w3.cell? ⟨gb104, 2, none⟩ = some (.int .i64 a0_2) := (blk_cell BK104.out 2).trans rfl; have hcz4_3 : w3.cell? ⟨gb104, 3, none⟩ = some (.int .i64 a0_3) := (blk_cell BK104.out 3).trans rfl; have hcz4_4 : w3.cell? ⟨gb104, 4, none⟩ = some (.int .i64 a0_4) := (blk_cell BK104.out 4).trans rfl; have hcz4_5 : w3.cell? ⟨gb104, 5, none⟩ = some (.int .i64 a0_5) := (blk_cell BK104.out 5).trans rfl; have hcz4_6 : w3.cell? ⟨gb104, 6, none⟩ = some (.slice A0_6 l0_6.length c0_6) := (blk_cell BK104.out 6).trans rfl; have hfz4_0 := blk_frozen BK104.out 0; have hfz4_1 := blk_frozen BK104.out 1; have hfz4_2 := blk_frozen BK104.out 2; have hfz4_3 := blk_frozen BK104.out 3; have hfz4_4 := blk_frozen BK104.out 4; have hfz4_5 := blk_frozen BK104.out 5; have hfz4_6 := blk_frozen BK104.out 6) | ((with_reducible refine gate_callee (f := 124) rfl ?_); refine goesL_ (some 4) rfl rfl Try.func124 (by kernel_rfl) rfl #[.agg #[.int .u8 a0_0, .int .i64 a0_1, .int .i64 a0_2, .int .i64 a0_3, .int .i64 a0_4, .int .i64 a0_5, .slice A0_6 l0_6.length c0_6], .int .i64 200] rfl (by (try simp only [List.map_toArray, List.map_cons, List.map_nil]); rfl) ?_; (with_reducible refine (sashref05_count.calls k a0_0 a0_1 a0_2 a0_3 a0_4 a0_5 _ _ l0_6 200 t105 _ ?side1 ?side2 A2.out).mono ?_); (case side1 => repeat (exact (Kd.C_below HR0_6.out HB.out))); (case side2 => exact HC0_6.out); rintro e w5 ⟨rfl, hb⟩; refine ⟨_, rfl, ?_⟩; replace BK104 := Aside0.mk (blk_below BK104.out hb); replace HB := Aside0.mk (below_step (by repeat ((with_reducible exact HB.out))) hb); (try clear hb)))
 go_ret
 exact ⟨by rfl, by repeat ((with_reducible exact HB.out))⟩

end Go.Proofs.Ytfdmfgaiblfbhaa.P
namespace Go.Proofs.Ytfdmfgaiblfbhaa.P
open Go.RowKit Go.Proofs.YtfdmfgaiblfbhaaW.PrintWords Go.Proofs.YtfdmfgaiblfbhaaW.PrintLast Go.Proofs.YtfdmfgaiblfbhaaW.PrintMore
attribute [local go_sem] max2_int min2_int max_two min_two max_three min_three max_four min_four   -- for this text's walks alone
set_option linter.unusedVariables false
set_option linter.unusedSimpArgs false

/-! ### least_Size: function 98 -/
def least_Size.f (a0_0 : Int) (a0_1 : Int) (a0_2 : Int) (a0_3 : Int) (a1 : Int) : Option (Int) := if a1 = 2 then (some a0_3) else (if a1 = 1 then (some a0_2) else (some 0))
set_option maxHeartbeats 8000000 in
set_option maxRecDepth 100000 in
theorem least_Size.calls (a0_0 : Int) (a0_1 : Int) (a0_2 : Int) (a0_3 : Int) (a1 : Int) (r : Int) (w : World) (h : least_Size.f a0_0 a0_1 a0_2 a0_3 a1 = some r) :
  Calls Try.prog 98 #[.agg #[.int .i64 a0_0, .int .i64 a0_1, .int .i64 a0_2, .int .i64 a0_3], .int .u8 a1] w fun e w' => e = .returned (.int .i64 r) ∧ Below w.heap.size w w' := by
 have hu23 := Try.underlying23
 have HB := Aside0.mk (Below.refl w.heap.size w)
 have H : (if a1 = 2 then (some a0_3) else (if a1 = 1 then (some a0_2) else (some 0))) = some r := h
 clear h
 by_cases c3 : a1 = 2
 ·rw [if_pos c3] at H
  have c3b0 : (a1 == 2) = true := beq_iff_eq.mpr c3
  have c3b1 : (a1 != 2) = false := bne_eq_false_iff_eq.mpr c3
  clear c3
  obtain rfl := Option.some.inj H
  go_enter Try.func98, Try.ntmps98
  go_wp2_with (((with_reducible refine gate_dst (N := 2) rfl ?_); refine box_event ?hg (N := 2) ?hd (cs := #[.int .i64 a0_0, .int .i64 a0_1, .int .i64 a0_2, .int .i64 a0_3]) (t := 23) ?hr ?_; (case hd => rfl); (case hg => rfl); (case hr => (go_simp; done)); intro gb964 hg w4 hbox hb; have BK964 := Aside0.mk (hbox); have GE964 := Aside0.mk ((by rw [hg]; exact (below_size (by repeat ((with_reducible exact HB.out)))) : w.heap.size ≤ gb964)); replace HB := Aside0.mk (below_step (by repeat ((with_reducible exact HB.out))) hb); clear hb hbox hg; have hcz5_0 : w4.cell? ⟨gb964, 0, none⟩ = some (.int .i64 a0_0) := (blk_cell BK964.out 0).trans rfl; have hcz5_1 : w4.cell? ⟨gb964, 1, none⟩ = some (.int .i64 a0_1) := (blk_cell BK964.out 1).trans rfl; have hcz5_2 : w4.cell? ⟨gb964, 2, none⟩ = some (.int .i64 a0_2) := (blk_cell BK964.out 2).trans rfl; have hcz5_3 : w4.cell? ⟨gb964, 3, none⟩ = some (.int .i64 a0_3) := (blk_cell BK964.out 3).trans rfl; have hfz5_0 := blk_frozen BK964.out 0; have hfz5_1 := blk_frozen BK964.out 1; have hfz5_2 := blk_frozen BK964.out 2; have hfz5_3 := blk_frozen BK964.out 3))
  go_ret
  exact ⟨by rfl, by repeat ((with_reducible first | exact HB.out | refine below_set ?_ GE964.out))⟩
 ·rw [if_neg c3] at H
  have c3b0 : (a1 == 2) = false := beq_eq_false_iff_ne.mpr c3
  have c3b1 : (a1 != 2) = true := bne_iff_ne.mpr c3
  by_cases c6 : a1 = 1
  ·rw [if_pos c6] at H
   have c6b0 : (a1 == 1) = true := beq_iff_eq.mpr c6
   have c6b1 : (a1 != 1) = false := bne_eq_false_iff_eq.mpr c6
   clear c6
   obtain rfl := Option.some.inj H
   go_enter Try.func98, Try.ntmps98
   go_wp2_with (((with_reducible refine gate_dst (N := 2) rfl ?_); refine box_event ?hg (N := 2) ?hd (cs := #[.int .i64 a0_0, .int .i64 a0_1, .int .i64 a0_2, .int .i64 a0_3]) (t := 23) ?hr ?_; (case hd => rfl); (case hg => rfl); (case hr => (go_simp; done)); intro gb964 hg w7 hbox hb; have BK964 := Aside0.mk (hbox); have GE964 := Aside0.mk ((by rw [hg]; exact (below_size (by repeat ((with_reducible exact HB.out)))) : w.heap.size ≤ gb964)); replace HB := Aside0.mk (below_step (by repeat ((with_reducible exact HB.out))) hb); clear hb hbox hg; have hcz8_0 : w7.cell? ⟨gb964, 0, none⟩ = some (.int .i64 a0_0) := (blk_cell BK964.out 0).trans rfl; have hcz8_1 : w7.cell? ⟨gb964, 1, none⟩ = some (.int .i64 a0_1) := (blk_cell BK964.out 1).trans rfl; have hcz8_2 : w7.cell? ⟨gb964, 2, none⟩ = some (.int .i64 a0_2) := (blk_cell BK964.out 2).trans rfl; have hcz8_3 : w7.cell? ⟨gb964, 3, none⟩ = some (.int .i64 a0_3) := (blk_cell BK964.out 3).trans rfl; have hfz8_0 := blk_frozen BK964.out 0; have hfz8_1 := blk_frozen BK964.out 1; have hfz8_2 := blk_frozen BK964.out 2; have hfz8_3 := blk_frozen BK964.out 3))
   go_ret
   exact ⟨by rfl, by repeat ((with_reducible exact HB.out))⟩
  ·rw [if_neg c6] at H
   have c6b0 : (a1 == 1) = false := beq_eq_false_iff_ne.mpr c6
   have c6b1 : (a1 != 1) = true := bne_iff_ne.mpr c6
   obtain rfl := Option.some.inj H
   go_enter Try.func98, Try.ntmps98
   go_wp2_with (((with_reducible refine gate_dst (N := 2) rfl ?_); refine box_event ?hg (N := 2) ?hd (cs := #[.int .i64 a0_0, .int .i64 a0_1, .int .i64 a0_2, .int .i64 a0_3]) (t := 23) ?hr ?_; (case hd => rfl); (case hg => rfl); (case hr => (go_simp; done)); intro gb964 hg w9 hbox hb; have BK964 := Aside0.mk (hbox); have GE964 := Aside0.mk ((by rw [hg]; exact (below_size (by repeat ((with_reducible exact HB.out)))) : w.heap.size ≤ gb964)); replace HB := Aside0.mk (below_step (by repeat ((with_reducible exact HB.out))) hb); clear hb hbox hg))
   go_ret
   exact ⟨by rfl, by repeat ((with_reducible exact HB.out))⟩

end Go.Proofs.Ytfdmfgaiblfbhaa.P
namespace Go.Proofs.Ytfdmfgaiblfbhaa.P
open Go.RowKit Go.Proofs.YtfdmfgaiblfbhaaW.PrintWords Go.Proofs.YtfdmfgaiblfbhaaW.PrintLast Go.Proofs.YtfdmfgaiblfbhaaW.PrintMore
attribute [local go_sem] max2_int min2_int max_two min_two max_three min_three max_four min_four   -- for this text's walks alone
set_option linter.unusedVariables false
set_option linter.unusedSimpArgs false

/-! ### least_Along: function 99 -/
def least_Along.f (a0_0 : Int) (a0_1 : Int) (a0_2 : Int) (a0_3 : Int) (a0_4 : Int) (a0_5 : Int) (l0_6 : List (S26)) (a1 : Int) : Option (Bool) := if a0_0 = 2 then (if a1 = 1 then (some true) else (if a0_0 = 3 then (some (a1 == 2)) else (some false))) else (if a0_0 = 3 then (some (a1 == 2)) else (some false))
set_option maxHeartbeats 8000000 in
set_option maxRecDepth 100000 in
theorem least_Along.calls (a0_0 : Int) (a0_1 : Int) (a0_2 : Int) (a0_3 : Int) (a0_4 : Int) (a0_5 : Int) (A0_6 : Option Addr) (c0_6 : Nat) (l0_6 : List (S26)) (a1 : Int) (r : Bool) (w : World) (hr0_6 : Kd.C k26 w A0_6 l0_6.length l0_6) (hc0_6 : l0_6.length ≤ c0_6) (h : least_Along.f a0_0 a0_1 a0_2 a0_3 a0_4 a0_5 l0_6 a1 = some r) :
  Calls Try.prog 99 #[.agg #[.int .u8 a0_0, .int .i64 a0_1, .int .i64 a0_2, .int .i64 a0_3, .int .i64 a0_4, .int .i64 a0_5, .slice A0_6 l0_6.length c0_6], .int .u8 a1] w fun e w' => e = .returned (.bool r) ∧ Below w.heap.size w w' := by
 have hu26 := Try.underlying26
 clear hr0_6 hc0_6
 have HB := Aside0.mk (Below.refl w.heap.size w)
 have H : (if a0_0 = 2 then (if a1 = 1 then (some true) else (if a0_0 = 3 then (some (a1 == 2)) else (some false))) else (if a0_0 = 3 then (some (a1 == 2)) else (some false))) = some r := h
 clear h
 by_cases c3 : a0_0 = 2
 ·rw [if_pos c3] at H
  have c3b0 : (a0_0 == 2) = true := beq_iff_eq.mpr c3
  have c3b1 : (a0_0 != 2) = false := bne_eq_false_iff_eq.mpr c3
  clear c3
  by_cases c4 : a1 = 1
  ·rw [if_pos c4] at H
   have c4b0 : (a1 == 1) = true := beq_iff_eq.mpr c4
   have c4b1 : (a1 != 1) = false := bne_eq_false_iff_eq.mpr c4
   clear c4
   obtain rfl := Option.some.inj H
   go_enter Try.func99, Try.ntmps99
   go_wp2_with (((with_reducible refine gate_dst (N := 2) rfl ?_); refine box_event ?hg (N := 2) ?hd (cs := #[.int .u8 a0_0, .int .i64 a0_1, .int .i64 a0_2, .int .i64 a0_3, .int .i64 a0_4, .int .i64 a0_5, .slice A0_6 l0_6.length c0_6]) (t := 26) ?hr ?_; (case hd => rfl); (case hg => rfl); (case hr => (go_simp; done)); intro gb965 hg w5 hbox hb; have BK965 := Aside0.mk (hbox); replace HB := Aside0.mk (below_step (by repeat ((with_reducible exact HB.out))) hb); clear hb hbox hg; have hcz6_0 : w5.cell? ⟨gb965, 0, none⟩ = some (.int .u8 a0_0) := (blk_cell BK965.out 0).trans rfl; have hcz6_1 : w5.cell? ⟨gb965, 1, none⟩ = some (.int .i64 a0_1) := (blk_cell BK965.out 1).trans rfl; have hcz6_2 : w5.cell? ⟨gb965, 2, none⟩ = some (.int .i64 a0_2) := (blk_cell BK965.out 2).trans rfl; have hcz6_3 : w5.cell? ⟨gb965, 3, none⟩ = some (.int .i64 a0_3) := (blk_cell BK965.out 3).trans rfl; have hcz6_4 : w5.cell? ⟨gb965, 4, none⟩ = some (.int .i64 a0_4) := (blk_cell BK965.out 4).trans rfl; have hcz6_5 : w5.cell? ⟨gb965, 5, none⟩ = some (.int .i64 a0_5) := (blk_cell BK965.out 5).trans rfl; have hcz6_6 : w5.cell? ⟨gb965, 6, none⟩ = some (.slice A0_6 l0_6.length c0_6) := (blk_cell BK965.out 6).trans rfl; have hfz6_0 := blk_frozen BK965.out 0; have hfz6_1 := blk_frozen BK965.out 1; have hfz6_2 := blk_frozen BK965.out 2; have hfz6_3 := blk_frozen BK965.out 3; have hfz6_4 := blk_frozen BK965.out 4; have hfz6_5 := blk_frozen BK965.out 5; have hfz6_6 := blk_frozen BK965.out 6))
   go_ret
   exact ⟨by rfl, by repeat ((with_reducible exact HB.out))⟩
  ·rw [if_neg c4] at H
   have c4b0 : (a1 == 1) = false := beq_eq_false_iff_ne.mpr c4
   have c4b1 : (a1 != 1) = true := bne_iff_ne.mpr c4
   by_cases c7 : a0_0 = 3
   ·rw [if_pos c7] at H
    have c7b0 : (a0_0 == 3) = true := beq_iff_eq.mpr c7
    have c7b1 : (a0_0 != 3) = false := bne_eq_false_iff_eq.mpr c7
    clear c7
    obtain rfl := Option.some.inj H
    go_enter Try.func99, Try.ntmps99
    go_wp2_with (((with_reducible refine gate_dst (N := 2) rfl ?_); refine box_event ?hg (N := 2) ?hd (cs := #[.int .u8 a0_0, .int .i64 a0_1, .int .i64 a0_2, .int .i64 a0_3, .int .i64 a0_4, .int .i64 a0_5, .slice A0_6 l0_6.length c0_6]) (t := 26) ?hr ?_; (case hd => rfl); (case hg => rfl); (case hr => (go_simp; done)); intro gb965 hg w8 hbox hb; have BK965 := Aside0.mk (hbox); replace HB := Aside0.mk (below_step (by repeat ((with_reducible exact HB.out))) hb); clear hb hbox hg; have hcz9_0 : w8.cell? ⟨gb965, 0, none⟩ = some (.int .u8 a0_0) := (blk_cell BK965.out 0).trans rfl; have hcz9_1 : w8.cell? ⟨gb965, 1, none⟩ = some (.int .i64 a0_1) := (blk_cell BK965.out 1).trans rfl; have hcz9_2 : w8.cell? ⟨gb965, 2, none⟩ = some (.int .i64 a0_2) := (blk_cell BK965.out 2).trans rfl; have hcz9_3 : w8.cell? ⟨gb965, 3, none⟩ = some (.int .i64 a0_3) := (blk_cell BK965.out 3).trans rfl; have hcz9_4 : w8.cell? ⟨gb965, 4, none⟩ = some (.int .i64 a0_4) := (blk_cell BK965.out 4).trans rfl; have hcz9_5 : w8.cell? ⟨gb965, 5, none⟩ = some (.int .i64 a0_5) := (blk_cell BK965.out 5).trans rfl; have hcz9_6 : w8.cell? ⟨gb965, 6, none⟩ = some (.slice A0_6 l0_6.length c0_6) := (blk_cell BK965.out 6).trans rfl; have hfz9_0 := blk_frozen BK965.out 0; have hfz9_1 := blk_frozen BK965.out 1; have hfz9_2 := blk_frozen BK965.out 2; have hfz9_3 := blk_frozen BK965.out 3; have hfz9_4 := blk_frozen BK965.out 4; have hfz9_5 := blk_frozen BK965.out 5; have hfz9_6 := blk_frozen BK965.out 6))
    go_ret
    exact ⟨by rfl, by repeat ((with_reducible exact HB.out))⟩
   ·rw [if_neg c7] at H
    have c7b0 : (a0_0 == 3) = false := beq_eq_false_iff_ne.mpr c7
    have c7b1 : (a0_0 != 3) = true := bne_iff_ne.mpr c7
    obtain rfl := Option.some.inj H
    go_enter Try.func99, Try.ntmps99
    go_wp2_with (((with_reducible refine gate_dst (N := 2) rfl ?_); refine box_event ?hg (N := 2) ?hd (cs := #[.int .u8 a0_0, .int .i64 a0_1, .int .i64 a0_2, .int .i64 a0_3, .int .i64 a0_4, .int .i64 a0_5, .slice A0_6 l0_6.length c0_6]) (t := 26) ?hr ?_; (case hd => rfl); (case hg => rfl); (case hr => (go_simp; done)); intro gb965 hg w10 hbox hb; have BK965 := Aside0.mk (hbox); replace HB := Aside0.mk (below_step (by repeat ((with_reducible exact HB.out))) hb); clear hb hbox hg; have hcz11_0 : w10.cell? ⟨gb965, 0, none⟩ = some (.int .u8 a0_0) := (blk_cell BK965.out 0).trans rfl; have hcz11_1 : w10.cell? ⟨gb965, 1, none⟩ = some (.int .i64 a0_1) := (blk_cell BK965.out 1).trans rfl; have hcz11_2 : w10.cell? ⟨gb965, 2, none⟩ = some (.int .i64 a0_2) := (blk_cell BK965.out 2).trans rfl; have hcz11_3 : w10.cell? ⟨gb965, 3, none⟩ = some (.int .i64 a0_3) := (blk_cell BK965.out 3).trans rfl; have hcz11_4 : w10.cell? ⟨gb965, 4, none⟩ = some (.int .i64 a0_4) := (blk_cell BK965.out 4).trans rfl; have hcz11_5 : w10.cell? ⟨gb965, 5, none⟩ = some (.int .i64 a0_5) := (blk_cell BK965.out 5).trans rfl; have hcz11_6 : w10.cell? ⟨gb965, 6, none⟩ = some (.slice A0_6 l0_6.length c0_6) := (blk_cell BK965.out 6).trans rfl; have hfz11_0 := blk_frozen BK965.out 0; have hfz11_1 := blk_frozen BK965.out 1; have hfz11_2 := blk_frozen BK965.out 2; have hfz11_3 := blk_frozen BK965.out 3; have hfz11_4 := blk_frozen BK965.out 4; have hfz11_5 := blk_frozen BK965.out 5; have hfz11_6 := blk_frozen BK965.out 6))
    go_ret
    exact ⟨by rfl, by repeat ((with_reducible exact HB.out))⟩
 ·rw [if_neg c3] at H
  have c3b0 : (a0_0 == 2) = false := beq_eq_false_iff_ne.mpr c3
  have c3b1 : (a0_0 != 2) = true := bne_iff_ne.mpr c3
  by_cases c12 : a0_0 = 3
  ·rw [if_pos c12] at H
   have c12b0 : (a0_0 == 3) = true := beq_iff_eq.mpr c12
   have c12b1 : (a0_0 != 3) = false := bne_eq_false_iff_eq.mpr c12
   clear c12
   obtain rfl := Option.some.inj H
   go_enter Try.func99, Try.ntmps99
   go_wp2_with (((with_reducible refine gate_dst (N := 2) rfl ?_); refine box_event ?hg (N := 2) ?hd (cs := #[.int .u8 a0_0, .int .i64 a0_1, .int .i64 a0_2, .int .i64 a0_3, .int .i64 a0_4, .int .i64 a0_5, .slice A0_6 l0_6.length c0_6]) (t := 26) ?hr ?_; (case hd => rfl); (case hg => rfl); (case hr => (go_simp; done)); intro gb965 hg w13 hbox hb; have BK965 := Aside0.mk (hbox); replace HB := Aside0.mk (below_step (by repeat ((with_reducible exact HB.out))) hb); clear hb hbox hg; have hcz14_0 : w13.cell? ⟨gb965, 0, none⟩ = some (.int .u8 a0_0) := (blk_cell BK965.out 0).trans rfl; have hcz14_1 : w13.cell? ⟨gb965, 1, none⟩ = some (.int .i64 a0_1) := (blk_cell BK965.out 1).trans rfl; have hcz14_2 : w13.cell? ⟨gb965, 2, none⟩ = some (.int .i64 a0_2) := (blk_cell BK965.out 2).trans rfl; have hcz14_3 : w13.cell? ⟨gb965, 3, none⟩ = some (.int .i64 a0_3) := (blk_cell BK965.out 3).trans rfl; have hcz14_4 : w13.cell? ⟨gb965, 4, none⟩ = some (.int .i64 a0_4) := (blk_cell BK965.out 4).trans rfl; have hcz14_5 : w13.cell? ⟨gb965, 5, none⟩ = some (.int .i64 a0_5) := (blk_cell BK965.out 5).trans rfl; have hcz14_6 : w13.cell? ⟨gb965, 6, none⟩ = some (.slice A0_6 l0_6.length c0_6) := (blk_cell BK965.out 6).trans rfl; have hfz14_0 := blk_frozen BK965.out 0; have hfz14_1 := blk_frozen BK965.out 1; have hfz14_2 := blk_frozen BK965.out 2; have hfz14_3 := blk_frozen BK965.out 3; have hfz14_4 := blk_frozen BK965.out 4; have hfz14_5 := blk_frozen BK965.out 5; have hfz14_6 := blk_frozen BK965.out 6))
   go_ret
   exact ⟨by rfl, by repeat ((with_reducible exact HB.out))⟩
  ·rw [if_neg c12] at H
   have c12b0 : (a0_0 == 3) = false := beq_eq_false_iff_ne.mpr c12
   have c12b1 : (a0_0 != 3) = true := bne_iff_ne.mpr c12
   obtain rfl := Option.some.inj H
   go_enter Try.func99, Try.ntmps99
   go_wp2_with (((with_reducible refine gate_dst (N := 2) rfl ?_); refine box_event ?hg (N := 2) ?hd (cs := #[.int .u8 a0_0, .int .i64 a0_1, .int .i64 a0_2, .int .i64 a0_3, .int .i64 a0_4, .int .i64 a0_5, .slice A0_6 l0_6.length c0_6]) (t := 26) ?hr ?_; (case hd => rfl); (case hg => rfl); (case hr => (go_simp; done)); intro gb965 hg w15 hbox hb; have BK965 := Aside0.mk (hbox); replace HB := Aside0.mk (below_step (by repeat ((with_reducible exact HB.out))) hb); clear hb hbox hg; have hcz16_0 : w15.cell? ⟨gb965, 0, none⟩ = some (.int .u8 a0_0) := (blk_cell BK965.out 0).trans rfl; have hcz16_1 : w15.cell? ⟨gb965, 1, none⟩ = some (.int .i64 a0_1) := (blk_cell BK965.out 1).trans rfl; have hcz16_2 : w15.cell? ⟨gb965, 2, none⟩ = some (.int .i64 a0_2) := (blk_cell BK965.out 2).trans rfl; have hcz16_3 : w15.cell? ⟨gb965, 3, none⟩ = some (.int .i64 a0_3) := (blk_cell BK965.out 3).trans rfl; have hcz16_4 : w15.cell? ⟨gb965, 4, none⟩ = some (.int .i64 a0_4) := (blk_cell BK965.out 4).trans rfl; have hcz16_5 : w15.cell? ⟨gb965, 5, none⟩ = some (.int .i64 a0_5) := (blk_cell BK965.out 5).trans rfl; have hcz16_6 : w15.cell? ⟨gb965, 6, none⟩ = some (.slice A0_6 l0_6.length c0_6) := (blk_cell BK965.out 6).trans rfl; have hfz16_0 := blk_frozen BK965.out 0; have hfz16_1 := blk_frozen BK965.out 1; have hfz16_2 := blk_frozen BK965.out 2; have hfz16_3 := blk_frozen BK965.out 3; have hfz16_4 := blk_frozen BK965.out 4; have hfz16_5 := blk_frozen BK965.out 5; have hfz16_6 := blk_frozen BK965.out 6))
   go_ret
   exact ⟨by rfl, by repeat ((with_reducible exact HB.out))⟩

end Go.Proofs.Ytfdmfgaiblfbhaa.P
namespace Go.Proofs.Ytfdmfgaiblfbhaa.P
open Go.RowKit Go.Proofs.YtfdmfgaiblfbhaaW.PrintWords Go.Proofs.YtfdmfgaiblfbhaaW.PrintLast Go.Proofs.YtfdmfgaiblfbhaaW.PrintMore
attribute [local go_sem] max2_int min2_int max_two min_two max_three min_three max_four min_four   -- for this text's walks alone
set_option linter.unusedVariables false
set_option linter.unusedSimpArgs false

/-! ### least_least: function 149 -/
mutual
def least_least.l0 : Nat → Int → Int → Int → List (S26) → Int → Int → Int → Int → Int → Int → Int → Int → List (S26) → Option (Int)
 | 0, _, _, _, _, _, _, _, _, _, _, _, _, _ => none
 | k + 1, x1, x5, x6, x18, x19, x20, x967000, x967001, x967002, x967003, x967004, x967005, x967006 => if x20 < x19 then (if 0 ≤ x20 then (if x20 < (x18.length : Int) then ((least_least.f k ((rd_T26 x18 x20).f0) ((rd_T26 x18 x20).f1.f0) ((rd_T26 x18 x20).f1.f1) ((rd_T26 x18 x20).f1.f2) ((rd_T26 x18 x20).f1.f3) ((rd_T26 x18 x20).f2) ((rd_T26 x18 x20).f3) x1).bind fun t969 => (least_least.l0 k x1 (wrap64 (x5 + t969)) (mx x6 t969) x18 x19 (wrap64 (x20 + 1)) x967000 x967001 x967002 x967003 x967004 x967005 x967006)) else (none)) else (none)) else ((least_Along.f x967000 x967001 x967002 x967003 x967004 x967005 x967006 x1).bind fun t970 => (if t970 = true then (some x5) else (some x6)))
def least_least.f : Nat → Int → Int → Int → Int → Int → Int → List (S26) → Int → Option (Int)
 | 0, _, _, _, _, _, _, _, _ => none
 | k + 1, a0_0, a0_1, a0_2, a0_3, a0_4, a0_5, l0_6, a1 => if a0_0 = 1 then (some 1) else (least_least.l0 k a1 (wrap64 ((l0_6.length : Int) - 1)) 0 l0_6 (l0_6.length : Int) 0 a0_0 a0_1 a0_2 a0_3 a0_4 a0_5 l0_6)
end
set_option maxHeartbeats 8000000 in
set_option maxRecDepth 100000 in
theorem least_least.calls (k : Nat) : ∀ (a0_0 : Int) (a0_1 : Int) (a0_2 : Int) (a0_3 : Int) (a0_4 : Int) (a0_5 : Int) (A0_6 : Option Addr) (c0_6 : Nat) (l0_6 : List (S26)) (a1 : Int) (r : Int) (w : World) (hr0_6 : Kd.C k26 w A0_6 l0_6.length l0_6) (hc0_6 : l0_6.length ≤ c0_6) (h : least_least.f k a0_0 a0_1 a0_2 a0_3 a0_4 a0_5 l0_6 a1 = some r),
  Calls Try.prog 149 #[.agg #[.int .u8 a0_0, .int .i64 a0_1, .int .i64 a0_2, .int .i64 a0_3, .int .i64 a0_4, .int .i64 a0_5, .slice A0_6 l0_6.length c0_6], .int .u8 a1] w fun e w' => e = .returned (.int .i64 r) ∧ Below w.heap.size w w' := by
 induction k using Nat.strongRecOn with
 | _ k ih =>
 intro a0_0 a0_1 a0_2 a0_3 a0_4 a0_5 A0_6 c0_6 l0_6 a1 r w hr0_6 hc0_6 h
 cases k with
 | zero => exact absurd h (by simp [least_least.f])
 | succ k =>
 simp only [least_least.f] at h
 have hu26 := Try.underlying26
 have HR0_6 := Aside0.mk hr0_6
 have HC0_6 := Aside0.mk hc0_6
 clear hr0_6 hc0_6
 have HB := Aside0.mk (Below.refl w.heap.size w)
 have H : (if a0_0 = 1 then (some 1) else (least_least.l0 k a1 (wrap64 ((l0_6.length : Int) - 1)) 0 l0_6 (l0_6.length : Int) 0 a0_0 a0_1 a0_2 a0_3 a0_4 a0_5 l0_6)) = some r := h
 clear h
 by_cases c3 : a0_0 = 1
 ·rw [if_pos c3] at H
  have c3b0 : (a0_0 == 1) = true := beq_iff_eq.mpr c3
  have c3b1 : (a0_0 != 1) = false := bne_eq_false_iff_eq.mpr c3
  clear c3
  obtain rfl := Option.some.inj H
  go_enter Try.func149, Try.ntmps149
  go_wp2_with (((with_reducible refine gate_dst (N := 2) rfl ?_); refine box_event ?hg (N := 2) ?hd (cs := #[.int .u8 a0_0, .int .i64 a0_1, .int .i64 a0_2, .int .i64 a0_3, .int .i64 a0_4, .int .i64 a0_5, .slice A0_6 l0_6.length c0_6]) (t := 26) ?hr ?_; (case hd => rfl); (case hg => rfl); (case hr => (go_simp; done)); intro gb966 hg w4 hbox hb; have BK966 := Aside0.mk (hbox); replace HB := Aside0.mk (below_step (by repeat ((with_reducible exact HB.out))) hb); clear hb hbox hg; have hcz5_0 : w4.cell? ⟨gb966, 0, none⟩ = some (.int .u8 a0_0) := (blk_cell BK966.out 0).trans rfl; have hcz5_1 : w4.cell? ⟨gb966, 1, none⟩ = some (.int .i64 a0_1) := (blk_cell BK966.out 1).trans rfl; have hcz5_2 : w4.cell? ⟨gb966, 2, none⟩ = some (.int .i64 a0_2) := (blk_cell BK966.out 2).trans rfl; have hcz5_3 : w4.cell? ⟨gb966, 3, none⟩ = some (.int .i64 a0_3) := (blk_cell BK966.out 3).trans rfl; have hcz5_4 : w4.cell? ⟨gb966, 4, none⟩ = some (.int .i64 a0_4) := (blk_cell BK966.out 4).trans rfl; have hcz5_5 : w4.cell? ⟨gb966, 5, none⟩ = some (.int .i64 a0_5) := (blk_cell BK966.out 5).trans rfl; have hcz5_6 : w4.cell? ⟨gb966, 6, none⟩ = some (.slice A0_6 l0_6.length c0_6) := (blk_cell BK966.out 6).trans rfl; have hfz5_0 := blk_frozen BK966.out 0; have hfz5_1 := blk_frozen BK966.out 1; have hfz5_2 := blk_frozen BK966.out 2; have hfz5_3 := blk_frozen BK966.out 3; have hfz5_4 := blk_frozen BK966.out 4; have hfz5_5 := blk_frozen BK966.out 5; have hfz5_6 := blk_frozen BK966.out 6))
  go_ret
  exact ⟨by rfl, by repeat ((with_reducible exact HB.out))⟩
 ·rw [if_neg c3] at H
  have c3b0 : (a0_0 == 1) = false := beq_eq_false_iff_ne.mpr c3
  have c3b1 : (a0_0 != 1) = true := bne_iff_ne.mpr c3
  have H' := Aside0.mk H
  clear H
  go_enter Try.func149, Try.ntmps149
  go_wp2_with (((with_reducible refine gate_dst (N := 2) rfl ?_); refine box_event ?hg (N := 2) ?hd (cs := #[.int .u8 a0_0, .int .i64 a0_1, .int .i64 a0_2, .int .i64 a0_3, .int .i64 a0_4, .int .i64 a0_5, .slice A0_6 l0_6.length c0_6]) (t := 26) ?hr ?_; (case hd => rfl); (case hg => rfl); (case hr => (go_simp; done)); intro gb966 hg w6 hbox hb; have BK966 := Aside0.mk (hbox); replace HB := Aside0.mk (below_step (by repeat ((with_reducible exact HB.out))) hb); clear hb hbox hg; have hcz7_0 : w6.cell? ⟨gb966, 0, none⟩ = some (.int .u8 a0_0) := (blk_cell BK966.out 0).trans rfl; have hcz7_1 : w6.cell? ⟨gb966, 1, none⟩ = some (.int .i64 a0_1) := (blk_cell BK966.out 1).trans rfl; have hcz7_2 : w6.cell? ⟨gb966, 2, none⟩ = some (.int .i64 a0_2) := (blk_cell BK966.out 2).trans rfl; have hcz7_3 : w6.cell? ⟨gb966, 3, none⟩ = some (.int .i64 a0_3) := (blk_cell BK966.out 3).trans rfl; have hcz7_4 : w6.cell? ⟨gb966, 4, none⟩ = some (.int .i64 a0_4) := (blk_cell BK966.out 4).trans rfl; have hcz7_5 : w6.cell? ⟨gb966, 5, none⟩ = some (.int .i64 a0_5) := (blk_cell BK966.out 5).trans rfl; have hcz7_6 : w6.cell? ⟨gb966, 6, none⟩ = some (.slice A0_6 l0_6.length c0_6) := (blk_cell BK966.out 6).trans rfl; have hfz7_0 := blk_frozen BK966.out 0; have hfz7_1 := blk_frozen BK966.out 1; have hfz7_2 := blk_frozen BK966.out 2; have hfz7_3 := blk_frozen BK966.out 3; have hfz7_4 := blk_frozen BK966.out 4; have hfz7_5 := blk_frozen BK966.out 5; have hfz7_6 := blk_frozen BK966.out 6))
  go_loopg [5, 6, 20] k (fun kq v5 v6 v20 w' => ∃ (x5_1 : Int) (x6_1 : Int) (x20_1 : Int), v5 = .int .i64 x5_1 ∧ v6 = .int .i64 x6_1 ∧ v20 = .int .i64 x20_1 ∧ Aside0 (least_least.l0 kq a1 x5_1 x6_1 l0_6 (l0_6.length : Int) x20_1 a0_0 a0_1 a0_2 a0_3 a0_4 a0_5 l0_6 = some r) ∧ Aside0 (kq ≤ k) ∧ Aside0 (w'.heap[gb966]? = some (.cells #[.int .u8 a0_0, .int .i64 a0_1, .int .i64 a0_2, .int .i64 a0_3, .int .i64 a0_4, .int .i64 a0_5, (.slice A0_6 l0_6.length c0_6)] 26 (0, 0))) ∧ Aside0 (Below w.heap.size w w'))
  case atStart => exact ⟨(wrap64 ((l0_6.length : Int) - 1)), (0), (0), (by rfl), (by rfl), (by rfl), H', ⟨Nat.le_refl _⟩, ⟨by exact BK966.out⟩, ⟨by repeat ((with_reducible exact HB.out))⟩⟩
  case round =>
   clear H'
   clear c3 c3b0 c3b1 hcz7_0 hcz7_1 hcz7_2 hcz7_3 hcz7_4 hcz7_5 hcz7_6 hfz7_0 hfz7_1 hfz7_2 hfz7_3 hfz7_4 hfz7_5 hfz7_6
   obtain ⟨x5_1, x6_1, x20_1, rfl, rfl, rfl, HA, HK1, BK966, HB⟩ := hrel
   cases gk with
   | zero => exact absurd HA.out (by simp [least_least.l0])
   | succ k1 =>
    have H := HA.out
    clear HA
    simp only [least_least.l0] at H
    by_cases c8 : x20_1 < (l0_6.length : Int)
    ·rw [if_pos c8] at H
     have c8b0 : decide (x20_1 < (l0_6.length : Int)) = true := decide_eq_true c8
     clear c8
     by_cases c9 : 0 ≤ x20_1
     ·rw [if_pos c9] at H
      have c9b0 : decide (0 ≤ x20_1) = true := decide_eq_true c9
      clear c9
      by_cases c10 : x20_1 < (l0_6.length : Int)
      ·rw [if_pos c10] at H
       have c10b0 : decide (x20_1 < (l0_6.length : Int)) = true := decide_eq_true c10
       clear c10
       replace H := Option.bind_eq_some_iff.mp H
       obtain ⟨t969, A110, H⟩ := H
       replace H : (least_least.l0 k1 a1 (wrap64 (x5_1 + t969)) (mx x6_1 t969) l0_6 (l0_6.length : Int) (wrap64 (x20_1 + 1)) a0_0 a0_1 a0_2 a0_3 a0_4 a0_5 l0_6) = some r := H
       have A11 := Aside0.mk A110
       clear A110
       obtain ⟨ji12, hji12⟩ : ∃ j_ : Int, (mx x6_1 t969) = j_ := ⟨_, rfl⟩
       replace H : (least_least.l0 k1 a1 (wrap64 (x5_1 + t969)) ji12 l0_6 (l0_6.length : Int) (wrap64 (x20_1 + 1)) a0_0 a0_1 a0_2 a0_3 a0_4 a0_5 l0_6) = some r := by (rw [hji12] at H; exact H)
       (skip)
       have hji12_ : (if x6_1 < t969 then t969 else x6_1) = ji12 := hji12
       have H' := Aside0.mk H
       clear H
       have p967 : 0 ≤ (x20_1 : Int) := of_decide_eq_true (by (with_reducible assumption))
       have q967 : x20_1 < (l0_6.length : Int) := of_decide_eq_true (by (with_reducible assumption))
       obtain ⟨ad967, A967_6, c967_6, e967, hx967_0, hx967_1, hx967_2, hx967_3, hx967_4, hx967_5, hx967_6, hl967_6, hi967_6⟩ := at_T26 HR0_6.out x20_1 p967 q967
       cases e967
       replace hx967_0 := (HB.out.cell (World.block_lt_of_cell? w _ hx967_0)).trans hx967_0
       replace hx967_1 := (HB.out.cell (World.block_lt_of_cell? w _ hx967_1)).trans hx967_1
       replace hx967_2 := (HB.out.cell (World.block_lt_of_cell? w _ hx967_2)).trans hx967_2
       replace hx967_3 := (HB.out.cell (World.block_lt_of_cell? w _ hx967_3)).trans hx967_3
       replace hx967_4 := (HB.out.cell (World.block_lt_of_cell? w _ hx967_4)).trans hx967_4
       replace hx967_5 := (HB.out.cell (World.block_lt_of_cell? w _ hx967_5)).trans hx967_5
       replace hx967_6 := (HB.out.cell (World.block_lt_of_cell? w _ hx967_6)).trans hx967_6
       have HR967_6 := Aside0.mk hi967_6
       have HC967_6 := Aside0.mk hl967_6
       clear hi967_6 hl967_6
       replace p967 := eq_true p967
       replace q967 := eq_true q967
       go_wp2_with (first | ((with_reducible refine gate_dst (N := 8) rfl ?_); refine box_event ?hg (N := 8) ?hd (cs := #[.int .u8 0, .int .i64 0, .int .i64 0, .int .i64 0, .int .i64 0, .int .i64 0, .slice none 0 0]) (t := 26) ?hr ?_; (case hd => rfl); (case hg => rfl); (case hr => (go_simp; done)); intro gb968 hg w13 hbox hb; have BK968 := Aside0.mk (hbox); have GE968 := Aside0.mk ((by rw [hg]; exact (below_size (by repeat ((with_reducible exact HB.out)))) : w.heap.size ≤ gb968)); have NB966_968 := Aside0.mk ((by rw [hg]; exact Nat.ne_of_lt (blk_lt BK966.out) : gb966 ≠ gb968)); have NB968_966 := Aside0.mk ((by rw [hg]; exact Nat.ne_of_gt (blk_lt BK966.out) : gb968 ≠ gb966)); replace BK966 := Aside0.mk (blk_below BK966.out hb); replace HB := Aside0.mk (below_step (by repeat ((with_reducible exact HB.out))) hb); clear hb hbox hg; have hnb14 := NB968_966.out; have hnc14 := NB966_968.out; have hcz15_0 : w13.cell? ⟨gb968, 0, none⟩ = some (.int .u8 0) := (blk_cell BK968.out 0).trans rfl; have hcz15_1 : w13.cell? ⟨gb968, 1, none⟩ = some (.int .i64 0) := (blk_cell BK968.out 1).trans rfl; have hcz15_2 : w13.cell? ⟨gb968, 2, none⟩ = some (.int .i64 0) := (blk_cell BK968.out 2).trans rfl; have hcz15_3 : w13.cell? ⟨gb968, 3, none⟩ = some (.int .i64 0) := (blk_cell BK968.out 3).trans rfl; have hcz15_4 : w13.cell? ⟨gb968, 4, none⟩ = some (.int .i64 0) := (blk_cell BK968.out 4).trans rfl; have hcz15_5 : w13.cell? ⟨gb968, 5, none⟩ = some (.int .i64 0) := (blk_cell BK968.out 5).trans rfl; have hcz15_6 : w13.cell? ⟨gb968, 6, none⟩ = some (.slice none 0 0) := (blk_cell BK968.out 6).trans rfl; have hfz15_0 := blk_frozen BK968.out 0; have hfz15_1 := blk_frozen BK968.out 1; have hfz15_2 := blk_frozen BK968.out 2; have hfz15_3 := blk_frozen BK968.out 3; have hfz15_4 := blk_frozen BK968.out 4; have hfz15_5 := blk_frozen BK968.out 5; have hfz15_6 := blk_frozen BK968.out 6) | ((with_reducible refine gate_callee (f := 149) rfl ?_); refine goesL_ (some 26) rfl rfl Try.func149 (by kernel_rfl) rfl #[.agg #[.int .u8 ((rd_T26 l0_6 x20_1).f0), .int .i64 ((rd_T26 l0_6 x20_1).f1.f0), .int .i64 ((rd_T26 l0_6 x20_1).f1.f1), .int .i64 ((rd_T26 l0_6 x20_1).f1.f2), .int .i64 ((rd_T26 l0_6 x20_1).f1.f3), .int .i64 ((rd_T26 l0_6 x20_1).f2), .slice A967_6 ((rd_T26 l0_6 x20_1).f3).length c967_6], .int .u8 a1] rfl (by (try simp only [List.map_toArray, List.map_cons, List.map_nil]); rfl) ?_; (with_reducible refine (ih k1 (by have := HK1.out; omega) ((rd_T26 l0_6 x20_1).f0) ((rd_T26 l0_6 x20_1).f1.f0) ((rd_T26 l0_6 x20_1).f1.f1) ((rd_T26 l0_6 x20_1).f1.f2) ((rd_T26 l0_6 x20_1).f1.f3) ((rd_T26 l0_6 x20_1).f2) _ _ ((rd_T26 l0_6 x20_1).f3) a1 t969 _ ?side1 ?side2 A11.out).mono ?_); (case side1 => exact Kd.C_below HR967_6.out (by repeat ((with_reducible first | exact HB.out | refine below_set ?_ GE968.out)))); (case side2 => exact HC967_6.out); rintro e w16 ⟨rfl, hb⟩; refine ⟨_, rfl, ?_⟩; replace BK966 := Aside0.mk (blk_below (g := gb966) (o := .cells #[.int .u8 a0_0, .int .i64 a0_1, .int .i64 a0_2, .int .i64 a0_3, .int .i64 a0_4, .int .i64 a0_5, .slice (some ad967) l0_6.length c0_6] 26 (0, 0)) (by refine blk_far ?_ NB966_968.out _; refine blk_far ?_ NB966_968.out _; refine blk_far ?_ NB966_968.out _; refine blk_far ?_ NB966_968.out _; refine blk_far ?_ NB966_968.out _; refine blk_far ?_ NB966_968.out _; refine blk_far ?_ NB966_968.out _; exact BK966.out) hb); replace BK968 := Aside0.mk (blk_below (g := gb968) (o := .cells #[.int .u8 ((rd_T26 l0_6 x20_1).f0), .int .i64 ((rd_T26 l0_6 x20_1).f1.f0), .int .i64 ((rd_T26 l0_6 x20_1).f1.f1), .int .i64 ((rd_T26 l0_6 x20_1).f1.f2), .int .i64 ((rd_T26 l0_6 x20_1).f1.f3), .int .i64 ((rd_T26 l0_6 x20_1).f2), .slice A967_6 ((rd_T26 l0_6 x20_1).f3).length c967_6] 26 (0, 0)) (by refine blk_put (cs := #[.int .u8 ((rd_T26 l0_6 x20_1).f0), .int .i64 ((rd_T26 l0_6 x20_1).f1.f0), .int .i64 ((rd_T26 l0_6 x20_1).f1.f1), .int .i64 ((rd_T26 l0_6 x20_1).f1.f2), .int .i64 ((rd_T26 l0_6 x20_1).f1.f3), .int .i64 ((rd_T26 l0_6 x20_1).f2), .slice none 0 0]) ?_ 6 _ rfl; refine blk_put (cs := #[.int .u8 ((rd_T26 l0_6 x20_1).f0), .int .i64 ((rd_T26 l0_6 x20_1).f1.f0), .int .i64 ((rd_T26 l0_6 x20_1).f1.f1), .int .i64 ((rd_T26 l0_6 x20_1).f1.f2), .int .i64 ((rd_T26 l0_6 x20_1).f1.f3), .int .i64 0, .slice none 0 0]) ?_ 5 _ rfl; refine blk_put (cs := #[.int .u8 ((rd_T26 l0_6 x20_1).f0), .int .i64 ((rd_T26 l0_6 x20_1).f1.f0), .int .i64 ((rd_T26 l0_6 x20_1).f1.f1), .int .i64 ((rd_T26 l0_6 x20_1).f1.f2), .int .i64 0, .int .i64 0, .slice none 0 0]) ?_ 4 _ rfl; refine blk_put (cs := #[.int .u8 ((rd_T26 l0_6 x20_1).f0), .int .i64 ((rd_T26 l0_6 x20_1).f1.f0), .int .i64 ((rd_T26 l0_6 x20_1).f1.f1), .int .i64 0, .int .i64 0, .int .i64 0, .slice none 0 0]) ?_ 3 _ rfl; refine blk_put (cs := #[.int .u8 ((rd_T26 l0_6 x20_1).f0), .int .i64 ((rd_T26 l0_6 x20_1).f1.f0), .int .i64 0, .int .i64 0, .int .i64 0, .int .i64 0, .slice none 0 0]) ?_ 2 _ rfl; refine blk_put (cs := #[.int .u8 ((rd_T26 l0_6 x20_1).f0), .int .i64 0, .int .i64 0, .int .i64 0, .int .i64 0, .int .i64 0, .slice none 0 0]) ?_ 1 _ rfl; refine blk_put (cs := #[.int .u8 0, .int .i64 0, .int .i64 0, .int .i64 0, .int .i64 0, .int .i64 0, .slice none 0 0]) ?_ 0 _ rfl; exact BK968.out) hb); replace HB := Aside0.mk (below_step (by repeat ((with_reducible first | exact HB.out | refine below_set ?_ GE968.out))) hb); (try clear hb)))
       go_roundg k1
       case measure => have := HK1.out; omega
       case rel => exact ⟨(wrap64 (x5_1 + t969)), (ji12), (wrap64 (x20_1 + 1)), (by rfl), (by rfl), (by rfl), H', ⟨by have := HK1.out; omega⟩, ⟨by exact BK966.out⟩, ⟨by repeat ((with_reducible exact HB.out))⟩⟩
      ·rw [if_neg c10] at H
       exact absurd H (by simp)
     ·rw [if_neg c9] at H
      exact absurd H (by simp)
    ·rw [if_neg c8] at H
     have c8b0 : decide (x20_1 < (l0_6.length : Int)) = false := decide_eq_false c8
     clear c8
     replace H := Option.bind_eq_some_iff.mp H
     obtain ⟨t970, A170, H⟩ := H
     replace H : (if t970 = true then (some x5_1) else (some x6_1)) = some r := H
     have A17 := Aside0.mk A170
     clear A170
     by_cases c18 : t970 = true
     ·subst c18
      have H1 : (some x5_1) = some r := by rw [if_pos rfl] at H; exact H
      clear H
      have H := H1
      clear H1
      obtain rfl := Option.some.inj H
      have hcz19_0 : wr.cell? ⟨gb966, 0, none⟩ = some (.int .u8 a0_0) := (blk_cell BK966.out 0).trans rfl
      have hcz19_1 : wr.cell? ⟨gb966, 1, none⟩ = some (.int .i64 a0_1) := (blk_cell BK966.out 1).trans rfl
      have hcz19_2 : wr.cell? ⟨gb966, 2, none⟩ = some (.int .i64 a0_2) := (blk_cell BK966.out 2).trans rfl
      have hcz19_3 : wr.cell? ⟨gb966, 3, none⟩ = some (.int .i64 a0_3) := (blk_cell BK966.out 3).trans rfl
      have hcz19_4 : wr.cell? ⟨gb966, 4, none⟩ = some (.int .i64 a0_4) := (blk_cell BK966.out 4).trans rfl
      have hcz19_5 : wr.cell? ⟨gb966, 5, none⟩ = some (.int .i64 a0_5) := (blk_cell BK966.out 5).trans rfl
      have hcz19_6 : wr.cell? ⟨gb966, 6, none⟩ = some (.slice A0_6 l0_6.length c0_6) := (blk_cell BK966.out 6).trans rfl
      have hfz19_0 := blk_frozen BK966.out 0
      have hfz19_1 := blk_frozen BK966.out 1
      have hfz19_2 := blk_frozen BK966.out 2
      have hfz19_3 := blk_frozen BK966.out 3
      have hfz19_4 := blk_frozen BK966.out 4
      have hfz19_5 := blk_frozen BK966.out 5
      have hfz19_6 := blk_frozen BK966.out 6
      go_wp2_with (((with_reducible refine gate_callee (f := 99) rfl ?_); refine goesL_ (some 36) rfl rfl Try.func99 (by kernel_rfl) rfl #[.agg #[.int .u8 a0_0, .int .i64 a0_1, .int .i64 a0_2, .int .i64 a0_3, .int .i64 a0_4, .int .i64 a0_5, .slice A0_6 l0_6.length c0_6], .int .u8 a1] rfl (by (try simp only [List.map_toArray, List.map_cons, List.map_nil]); rfl) ?_; (with_reducible refine (least_Along.calls a0_0 a0_1 a0_2 a0_3 a0_4 a0_5 _ _ l0_6 a1 true _ ?side1 ?side2 A17.out).mono ?_); (case side1 => repeat (exact (Kd.C_below HR0_6.out HB.out))); (case side2 => exact HC0_6.out); rintro e w20 ⟨rfl, hb⟩; refine ⟨_, rfl, ?_⟩; replace BK966 := Aside0.mk (blk_below BK966.out hb); replace HB := Aside0.mk (below_step (by repeat ((with_reducible exact HB.out))) hb); (try clear hb)))
      go_ret
      exact ⟨by rfl, by repeat ((with_reducible exact HB.out))⟩
     ·replace c18 := Bool.eq_false_iff.mpr c18
      subst c18
      have H1 : (some x6_1) = some r := by rw [if_neg (show ¬ (false = true) by decide)] at H; exact H
      clear H
      have H := H1
      clear H1
      obtain rfl := Option.some.inj H
      have hcz21_0 : wr.cell? ⟨gb966, 0, none⟩ = some (.int .u8 a0_0) := (blk_cell BK966.out 0).trans rfl
      have hcz21_1 : wr.cell? ⟨gb966, 1, none⟩ = some (.int .i64 a0_1) := (blk_cell BK966.out 1).trans rfl
      have hcz21_2 : wr.cell? ⟨gb966, 2, none⟩ = some (.int .i64 a0_2) := (blk_cell BK966.out 2).trans rfl
      have hcz21_3 : wr.cell? ⟨gb966, 3, none⟩ = some (.int .i64 a0_3) := (blk_cell BK966.out 3).trans rfl
      have hcz21_4 : wr.cell? ⟨gb966, 4, none⟩ = some (.int .i64 a0_4) := (blk_cell BK966.out 4).trans rfl
      have hcz21_5 : wr.cell? ⟨gb966, 5, none⟩ = some (.int .i64 a0_5) := (blk_cell BK966.out 5).trans rfl
      have hcz21_6 : wr.cell? ⟨gb966, 6, none⟩ = some (.slice A0_6 l0_6.length c0_6) := (blk_cell BK966.out 6).trans rfl
      have hfz21_0 := blk_frozen BK966.out 0
      have hfz21_1 := blk_frozen BK966.out 1
      have hfz21_2 := blk_frozen BK966.out 2
      have hfz21_3 := blk_frozen BK966.out 3
      have hfz21_4 := blk_frozen BK966.out 4
      have hfz21_5 := blk_frozen BK966.out 5
      have hfz21_6 := blk_frozen BK966.out 6
      go_wp2_with (((with_reducible refine gate_callee (f := 99) rfl ?_); refine goesL_ (some 36) rfl rfl Try.func99 (by kernel_rfl) rfl #[.agg #[.int .u8 a0_0, .int .i64 a0_1, .int .i64 a0_2, .int .i64 a0_3, .int .i64 a0_4, .int .i64 a0_5, .slice A0_6 l0_6.length c0_6], .int .u8 a1] rfl (by (try simp only [List.map_toArray, List.map_cons, List.map_nil]); rfl) ?_; (with_reducible refine (least_Along.calls a0_0 a0_1 a0_2 a0_3 a0_4 a0_5 _ _ l0_6 a1 false _ ?side1 ?side2 A17.out).mono ?_); (case side1 => repeat (exact (Kd.C_below HR0_6.out HB.out))); (case side2 => exact HC0_6.out); rintro e w22 ⟨rfl, hb⟩; refine ⟨_, rfl, ?_⟩; replace BK966 := Aside0.mk (blk_below BK966.out hb); replace HB := Aside0.mk (below_step (by repeat ((with_reducible exact HB.out))) hb); (try clear hb)))
      go_ret
      exact ⟨by rfl, by repeat ((with_reducible exact HB.out))⟩

end Go.Proofs.Ytfdmfgaiblfbhaa.P
/- The contract of least.axes, in a form that other texts lean on. -/
namespace Go.Proofs.Ytfdmfgaiblfbhaa.P
open Go.RowKit Go.Proofs.YtfdmfgaiblfbhaaW.PrintWords Go.Proofs.YtfdmfgaiblfbhaaW.PrintLast Go.Proofs.YtfdmfgaiblfbhaaW.PrintMore
attribute [local go_sem] max2_int min2_int max_two min_two max_three min_three max_four min_four   -- for this text's walks alone
set_option linter.unusedVariables false
set_option linter.unusedSimpArgs false

/-! ### least_axes: function 147 -/
def least_axes.f (a0 : Int) : Option (Bool) := if a0 = 1 then (some true) else (some (a0 == 2))
set_option maxHeartbeats 8000000 in
set_option maxRecDepth 100000 in
theorem least_axes.calls0 (a0 : Int) (r : Bool) (w : World) (h : least_axes.f a0 = some r) :
    Calls Try.prog 147 #[.int .u8 a0] w fun e w' => e = .returned (.bool r) ∧ Drawn0 w w' := by
  have H : (if a0 = 1 then (some true) else (some (a0 == 2))) = some r := h
  clear h
  by_cases c2 : a0 = 1
  · rw [if_pos c2] at H
    have c2b0 : (a0 == 1) = true := beq_iff_eq.mpr c2
    have c2b1 : (a0 != 1) = false := bne_eq_false_iff_eq.mpr c2
    clear c2
    obtain rfl := Option.some.inj H
    go_enter Try.func147, Try.ntmps147
    go_wp2
    go_ret
    exact ⟨by rfl, by repeat (exact Drawn0.refl _)⟩
  · rw [if_neg c2] at H
    have c2b0 : (a0 == 1) = false := beq_eq_false_iff_ne.mpr c2
    have c2b1 : (a0 != 1) = true := bne_iff_ne.mpr c2
    obtain rfl := Option.some.inj H
    go_enter Try.func147, Try.ntmps147
    go_wp2
    go_ret
    exact ⟨by rfl, by repeat (exact Drawn0.refl _)⟩

theorem least_axes.calls (a0 : Int) (r : Bool) (w : World) (h : least_axes.f a0 = some r) :
    Calls Try.prog 147 #[.int .u8 a0] w fun e w' => e = .returned (.bool r) ∧ Below w.heap.size w w' := by
  refine (least_axes.calls0 a0 r w h).mono ?_
  rintro e w' ⟨he, n, rfl⟩
  exact ⟨he, pw_below_drewN (Below.refl _ _) n⟩
end Go.Proofs.Ytfdmfgaiblfbhaa.P
/- A row gone through till a test says yes: plain words. -/
namespace Go.Proofs.Ytfdmfgaiblfbhaa.P
open Go.RowKit Go.Proofs.YtfdmfgaiblfbhaaW.PrintWords Go.Proofs.YtfdmfgaiblfbhaaW.PrintLast Go.Proofs.YtfdmfgaiblfbhaaW.PrintMore
/-- A call of a function that has a body enters it. -/
theorem enters_fn {P : Program} {f : FuncId} {fn : Func} (hf : P.funcs[f]? = some fn) (hname : (fn.name == "runtime.NumGoroutine") = false) (hb : fn.body.isSome = true) : ∀ args w, (callFunc f args).run P w = .ok (.enter f args) w := by
  intro args w
  obtain ⟨c, hc⟩ := Option.isSome_iff_exists.1 hb
  have h1 : fn.name ≠ "runtime.NumGoroutine" := by simpa using hname
  simp [callFunc, hf, h1, hc, mark]
section
variable {σ α : Type}
/-- Where the test first says yes (-1), and the state behind. -/
def scanI (step : σ → α → Bool × σ) : Int → σ → List α → Int × σ
  | _, s, [] => (-1, s)
  | i, s, x :: xs => if (step s x).1 = true then (i, (step s x).2) else scanI step (i + 1) (step s x).2 xs
/-- Whether it ever does. -/
def scanB (step : σ → α → Bool × σ) : σ → List α → Bool × σ
  | s, [] => (false, s)
  | s, x :: xs => if (step s x).1 = true then (true, (step s x).2) else scanB step (step s x).2 xs
theorem scanI_B (step : σ → α → Bool × σ) : ∀ (l : List α) (i : Int) (s : σ), 0 ≤ i → (scanB step s l).1 = decide (0 ≤ (scanI step i s l).1) ∧ (scanB step s l).2 = (scanI step i s l).2 := by
  intro l
  induction l with
  | nil => intro i s h; exact ⟨by simp [scanB, scanI], rfl⟩
  | cons x xs ih =>
    intro i s h
    simp only [scanB, scanI]
    split
    · exact ⟨by simp [h], rfl⟩
    · exact ih (i + 1) _ (by omega)
theorem scanB_eq (step : σ → α → Bool × σ) (s : σ) (l : List α) : scanB step s l = (decide (0 ≤ (scanI step 0 s l).1), (scanI step 0 s l).2) := by
  have h := scanI_B step l 0 s (by omega)
  exact Prod.ext h.1 h.2
theorem scan_at (step : σ → α → Bool × σ) (z : α) (l : List α) (k : Nat) (h : k < l.length) (t : σ) :
    scanI step k t (l.drop k) = if (step t (l.getD (k : Int).toNat z)).1 = true then ((k : Int), (step t (l.getD (k : Int).toNat z)).2) else scanI step ((k + 1 : Nat) : Int) (step t (l.getD (k : Int).toNat z)).2 (l.drop (k + 1)) := by
  rw [List.drop_eq_getElem_cons h]
  simp only [scanI, Int.toNat_natCast, List.getD_eq_getElem?_getD, List.getElem?_eq_getElem h, Option.getD_some]
  rfl
theorem scan_mem (z : α) (l : List α) (k : Nat) (h : k < l.length) : l.getD (k : Int).toNat z ∈ l := by
  simp only [Int.toNat_natCast, List.getD_eq_getElem?_getD, List.getElem?_eq_getElem h, Option.getD_some]
  exact List.getElem_mem h
/-- A test without a state. -/
theorem scanB_any (p : α → Bool) : ∀ (l : List α) (s : Unit), scanB (fun _ x => (p x, ())) s l = (l.any p, ()) := by
  intro l
  induction l with
  | nil => intro s; rfl
  | cons x xs ih =>
    intro s
    simp only [scanB, List.any_cons]
    cases h : p x with
    | true => simp
    | false => simp [ih]
end
end Go.Proofs.Ytfdmfgaiblfbhaa.P
/- slices.IndexFunc, slices.ContainsFunc at S26, with any function value that keeps an invariant of the world and of what is left of the row. -/
namespace Go.Proofs.Ytfdmfgaiblfbhaa.P
open Go.RowKit Go.Proofs.YtfdmfgaiblfbhaaW.PrintWords Go.Proofs.YtfdmfgaiblfbhaaW.PrintLast Go.Proofs.YtfdmfgaiblfbhaaW.PrintMore

set_option maxHeartbeats 2000000 in
set_option maxRecDepth 100000 in
theorem idxs192 (Inv : List S26 → World → Prop) (r : S26 → Bool) (g : Nat) (lb : Array Value) (eg : ∀ args w, (callFunc g args).run Try.prog w = .ok (.enter g args) w) (l : List S26) (A : Option Addr) (c : Nat)
    (w0 : World) (hR : Kd.C k26 w0 A l.length l) (hW : ∀ s W, Inv s W → Below w0.heap.size w0 W) (hD : ∀ s W n, Inv s W → Inv s (W.drewN n))
    (hcall : ∀ (x : S26) (rest : List S26) (W : World) (B : Option Addr) (cb : Nat), x ∈ l → (∃ pre, pre ++ x :: rest = l) → Inv (x :: rest) W → Kd.C k26 w0 B x.f3.length x.f3 → x.f3.length ≤ cb → Calls Try.prog g (#[.agg #[.int .u8 x.f0, .int .i64 x.f1.f0, .int .i64 x.f1.f1, .int .i64 x.f1.f2, .int .i64 x.f1.f3, .int .i64 x.f2, .slice B x.f3.length cb]] ++ lb) W fun e w' => e = .returned (.bool (r x)) ∧ Inv (if r x = true then [] else rest) w')
    (w : World) (hI : Inv l w) (hl : l.length ≤ 9223372036854775807) :
    Calls Try.prog 192 #[.slice A l.length c, .func (.func g) #[] lb] w fun e w' => ∃ i : Int, e = .returned (.int .i64 i) ∧ decide (i ≥ 0) = l.any r ∧ Inv [] w' := by
  have HR := Aside0.mk hR
  have HW := Aside0.mk hW
  have HD := Aside0.mk hD
  have HI := Aside0.mk hI
  have HCall := Aside0.mk hcall
  clear hR hW hcall hD hI
  go_enter Try.func192, Try.ntmps192
  go_wp2
  go_loopg [5, 8] l.length (fun gg _ v8 wr => ∃ (kk : Nat), kk ≤ l.length ∧ l.length - kk ≤ gg ∧ v8 = .int .i64 kk ∧ Aside0 (Inv (l.drop kk) wr) ∧ Aside0 (l.any r = (l.drop kk).any r))
  case atStart => exact ⟨0, Nat.zero_le _, by omega, rfl, ⟨by simpa using HI.out⟩, ⟨by simp⟩⟩
  case round =>
    clear HI
    obtain ⟨kk, hkk, hg, rfl, HI, HS⟩ := hrel
    by_cases hlt : kk < l.length
    · have hltz : (kk : Int) < (l.length : Int) := by omega
      obtain ⟨ad, B, cb, rfl, hc0, hc1, hc2, hc3, hc4, hc5, hc6, hlb, hgb⟩ := at_T26 HR.out (kk : Int) (by omega) (by omega)
      have hbw := HW.out _ wr HI.out
      replace hc0 := (hbw.cell (World.block_lt_of_cell? w0 _ hc0)).trans hc0
      replace hc1 := (hbw.cell (World.block_lt_of_cell? w0 _ hc1)).trans hc1
      replace hc2 := (hbw.cell (World.block_lt_of_cell? w0 _ hc2)).trans hc2
      replace hc3 := (hbw.cell (World.block_lt_of_cell? w0 _ hc3)).trans hc3
      replace hc4 := (hbw.cell (World.block_lt_of_cell? w0 _ hc4)).trans hc4
      replace hc5 := (hbw.cell (World.block_lt_of_cell? w0 _ hc5)).trans hc5
      replace hc6 := (hbw.cell (World.block_lt_of_cell? w0 _ hc6)).trans hc6
      clear hbw
      have hmem : (rd_T26 l (kk : Int)) ∈ l := scan_mem z26 l kk hlt
      have hdr : l.drop kk = rd_T26 l (kk : Int) :: l.drop (kk + 1) := by
        rw [List.drop_eq_getElem_cons hlt]
        simp only [rd_T26, Int.toNat_natCast, List.getD_eq_getElem?_getD, List.getElem?_eq_getElem hlt, Option.getD_some]
      have HX : Aside0 ((l.drop kk).any r = (r (rd_T26 l (kk : Int)) || (l.drop (kk + 1)).any r)) := ⟨by rw [hdr, List.any_cons]⟩
      have hcall := HCall.out _ (l.drop (kk + 1)) wr B cb hmem ⟨l.take kk, by rw [← hdr]; exact List.take_append_drop kk l⟩ (by rw [← hdr]; exact HI.out) hgb hlb
      clear hmem hgb hlb hdr
      simp only [Int.toNat_natCast] at hc0 hc1 hc2 hc3 hc4 hc5 hc6
      generalize rd_T26 l (kk : Int) = x at hc0 hc1 hc2 hc3 hc4 hc5 hc6 HX hcall
      have HC := Aside0.mk hcall
      clear hcall
      cases hq : r x with
      | true =>
        have h := HC.out
        rw [hq, if_pos rfl] at h
        have HH := Aside0.mk h
        have HQ := Aside0.mk hq
        clear hq HC h
        go_wp2_with fail
        refine HH.out.mono ?_
        rintro e w' ⟨rfl, hb'⟩
        have HB := Aside0.mk hb'
        clear hb'
        go_wp2
        go_ret
        refine ⟨_, rfl, ?_, HB.out⟩
        rw [HS.out, HX.out, HQ.out, Bool.true_or]
        exact decide_eq_true (by omega)
      | false =>
        have h := HC.out
        rw [hq, if_neg (by simp)] at h
        have HH := Aside0.mk h
        have HQ := Aside0.mk hq
        clear hq HC h
        go_wp2_with fail
        refine HH.out.mono ?_
        rintro e w' ⟨rfl, hb'⟩
        have HB := Aside0.mk hb'
        clear hb'
        go_wp2
        go_roundg (l.length - (kk + 1))
        case measure => omega
        case rel =>
          refine ⟨kk + 1, by omega, by omega, by go_num, HB, ⟨?_⟩⟩
          rw [HS.out, HX.out, HQ.out, Bool.false_or]
    · have hltz : ¬ (kk : Int) < (l.length : Int) := by omega
      have hd : l.drop kk = [] := List.drop_eq_nil_of_le (by omega)
      have HI2 := Aside0.mk (hd ▸ HI.out)
      have HS2 := Aside0.mk (hd ▸ HS.out)
      clear HI HS hd
      go_wp2
      go_ret
      refine ⟨_, rfl, ?_, HI2.out⟩
      rw [HS2.out]
      rfl

set_option maxHeartbeats 1000000 in
theorem cons174 (Inv : List S26 → World → Prop) (r : S26 → Bool) (g : Nat) (lb : Array Value) (eg : ∀ args w, (callFunc g args).run Try.prog w = .ok (.enter g args) w) (l : List S26) (A : Option Addr) (c : Nat)
    (w0 : World) (hR : Kd.C k26 w0 A l.length l) (hW : ∀ s W, Inv s W → Below w0.heap.size w0 W) (hD : ∀ s W n, Inv s W → Inv s (W.drewN n))
    (hcall : ∀ (x : S26) (rest : List S26) (W : World) (B : Option Addr) (cb : Nat), x ∈ l → (∃ pre, pre ++ x :: rest = l) → Inv (x :: rest) W → Kd.C k26 w0 B x.f3.length x.f3 → x.f3.length ≤ cb → Calls Try.prog g (#[.agg #[.int .u8 x.f0, .int .i64 x.f1.f0, .int .i64 x.f1.f1, .int .i64 x.f1.f2, .int .i64 x.f1.f3, .int .i64 x.f2, .slice B x.f3.length cb]] ++ lb) W fun e w' => e = .returned (.bool (r x)) ∧ Inv (if r x = true then [] else rest) w')
    (w : World) (hI : Inv l w) (hl : l.length ≤ 9223372036854775807) :
    Calls Try.prog 174 #[.slice A l.length c, .func (.func g) #[] lb] w fun e w' => e = .returned (.bool (l.any r)) ∧ Inv [] w' := by
  have hi := idxs192 Inv r g lb eg l A c w0 hR hW hD hcall w hI hl
  clear hR hW hD hcall hI
  have HI := Aside0.mk hi
  clear hi
  go_enter Try.func174, Try.ntmps174
  go_wp2_with fail
  refine HI.out.mono ?_
  rintro e w' ⟨i, rfl, hd, hb'⟩
  have HB := Aside0.mk hb'
  have HN := Aside0.mk hd
  clear hb' hd
  go_wp2
  go_ret
  exact ⟨by rw [← HN.out]; rfl, HB.out⟩
end Go.Proofs.Ytfdmfgaiblfbhaa.P
namespace Go.Proofs.Ytfdmfgaiblfbhaa.P
open Go.RowKit Go.Proofs.YtfdmfgaiblfbhaaW.PrintWords Go.Proofs.YtfdmfgaiblfbhaaW.PrintLast Go.Proofs.YtfdmfgaiblfbhaaW.PrintMore
attribute [local go_sem] max2_int min2_int max_two min_two max_three min_three max_four min_four   -- for this text's walks alone
set_option linter.unusedVariables false
set_option linter.unusedSimpArgs false

theorem eqA23 (d : Nat) (w : World) (x0 y0 : Int) (x1 y1 : Int) (x2 y2 : Int) (x3 y3 : Int) :
    (Op.equalIn (d + 2) 23 (.agg #[.int .i64 x0, .int .i64 x1, .int .i64 x2, .int .i64 x3]) (.agg #[.int .i64 y0, .int .i64 y1, .int .i64 y2, .int .i64 y3])).run Try.prog w = .ok (x0 == y0 && (x1 == y1 && (x2 == y2 && (x3 == y3)))) w := by
  refine eqA_of Try.underlying23 (by kernel_rfl) ?_
  refine eqf_cons (by rfl) (by go_simp; rfl) (by go_simp; rfl) (by go_simp) ?_
  refine eqf_cons (by rfl) (by go_simp; rfl) (by go_simp; rfl) (by go_simp) ?_
  refine eqf_cons (by rfl) (by go_simp; rfl) (by go_simp; rfl) (by go_simp) ?_
  exact eqf_last (by rfl) (by go_simp; rfl) (by go_simp; rfl) (by go_simp)
end Go.Proofs.Ytfdmfgaiblfbhaa.P
namespace Go.Proofs.Ytfdmfgaiblfbhaa.P
open Go.RowKit Go.Proofs.YtfdmfgaiblfbhaaW.PrintWords Go.Proofs.YtfdmfgaiblfbhaaW.PrintLast Go.Proofs.YtfdmfgaiblfbhaaW.PrintMore
attribute [local go_sem] max2_int min2_int max_two min_two max_three min_three max_four min_four   -- for this text's walks alone
set_option linter.unusedVariables false
set_option linter.unusedSimpArgs false

/-! ### rect_turned: function 127 -/
def rect_turned.f (a0_0 : Int) (a0_1 : Int) (a0_2 : Int) (a0_3 : Int) (a1 : Int) : Option (Int × Int × Int × Int × Bool) := if a1 = 2 then (some (a0_1, a0_0, a0_3, a0_2, true)) else (if a1 = 1 then (some (a0_0, a0_1, a0_2, a0_3, true)) else (some (0, 0, 0, 0, false)))
set_option maxHeartbeats 8000000 in
set_option maxRecDepth 100000 in
theorem rect_turned.calls (a0_0 : Int) (a0_1 : Int) (a0_2 : Int) (a0_3 : Int) (a1 : Int) (r1 : Int) (r2 : Int) (r3 : Int) (r4 : Int) (r5 : Bool) (w : World) (h : rect_turned.f a0_0 a0_1 a0_2 a0_3 a1 = some (r1, r2, r3, r4, r5)) :
  Calls Try.prog 127 #[.agg #[.int .i64 a0_0, .int .i64 a0_1, .int .i64 a0_2, .int .i64 a0_3], .int .u8 a1] w fun e w' => e = .returned (.tuple #[.agg #[.int .i64 r1, .int .i64 r2, .int .i64 r3, .int .i64 r4], .bool r5]) ∧ Below w.heap.size w w' := by
 have hu23 := Try.underlying23
 have HB := Aside0.mk (Below.refl w.heap.size w)
 have H : (if a1 = 2 then (some (a0_1, a0_0, a0_3, a0_2, true)) else (if a1 = 1 then (some (a0_0, a0_1, a0_2, a0_3, true)) else (some (0, 0, 0, 0, false)))) = some (r1, r2, r3, r4, r5) := h
 clear h
 by_cases c3 : a1 = 2
 ·rw [if_pos c3] at H
  have c3b0 : (a1 == 2) = true := beq_iff_eq.mpr c3
  have c3b1 : (a1 != 2) = false := bne_eq_false_iff_eq.mpr c3
  clear c3
  simp only [Option.some.injEq, Prod.mk.injEq] at H
  obtain ⟨rfl, rfl, rfl, rfl, rfl⟩ := H
  go_enter Try.func127, Try.ntmps127
  go_wp2_with (first | ((with_reducible refine gate_dst (N := 2) rfl ?_); refine box_event ?hg (N := 2) ?hd (cs := #[.int .i64 a0_0, .int .i64 a0_1, .int .i64 a0_2, .int .i64 a0_3]) (t := 23) ?hr ?_; (case hd => rfl); (case hg => rfl); (case hr => (go_simp; done)); intro gb243 hg w4 hbox hb; have BK243 := Aside0.mk (hbox); have GE243 := Aside0.mk ((by rw [hg]; exact (below_size (by repeat ((with_reducible exact HB.out)))) : w.heap.size ≤ gb243)); replace HB := Aside0.mk (below_step (by repeat ((with_reducible exact HB.out))) hb); clear hb hbox hg) | ((with_reducible refine gate_dst (N := 4) rfl ?_); refine box_event ?hg (N := 4) ?hd (cs := #[.int .i64 0, .int .i64 0, .int .i64 0, .int .i64 0]) (t := 23) ?hr ?_; (case hd => rfl); (case hg => rfl); (case hr => (go_simp; done)); intro gb244 hg w5 hbox hb; have BK244 := Aside0.mk (hbox); have GE244 := Aside0.mk ((by rw [hg]; exact (below_size (by repeat ((with_reducible exact HB.out)))) : w.heap.size ≤ gb244)); have NB243_244 := Aside0.mk ((by rw [hg]; exact Nat.ne_of_lt (blk_lt BK243.out) : gb243 ≠ gb244)); have NB244_243 := Aside0.mk ((by rw [hg]; exact Nat.ne_of_gt (blk_lt BK243.out) : gb244 ≠ gb243)); replace BK243 := Aside0.mk (blk_below BK243.out hb); replace HB := Aside0.mk (below_step (by repeat ((with_reducible exact HB.out))) hb); clear hb hbox hg; have hnb6 := NB243_244.out; have hnc6 := NB244_243.out; have hcz7_0 : w5.cell? ⟨gb243, 0, none⟩ = some (.int .i64 a0_0) := (blk_cell BK243.out 0).trans rfl; have hcz7_1 : w5.cell? ⟨gb243, 1, none⟩ = some (.int .i64 a0_1) := (blk_cell BK243.out 1).trans rfl; have hcz7_2 : w5.cell? ⟨gb243, 2, none⟩ = some (.int .i64 a0_2) := (blk_cell BK243.out 2).trans rfl; have hcz7_3 : w5.cell? ⟨gb243, 3, none⟩ = some (.int .i64 a0_3) := (blk_cell BK243.out 3).trans rfl; have hfz7_0 := blk_frozen BK243.out 0; have hfz7_1 := blk_frozen BK243.out 1; have hfz7_2 := blk_frozen BK243.out 2; have hfz7_3 := blk_frozen BK243.out 3; have hcz8_0 : w5.cell? ⟨gb244, 0, none⟩ = some (.int .i64 0) := (blk_cell BK244.out 0).trans rfl; have hcz8_1 : w5.cell? ⟨gb244, 1, none⟩ = some (.int .i64 0) := (blk_cell BK244.out 1).trans rfl; have hcz8_2 : w5.cell? ⟨gb244, 2, none⟩ = some (.int .i64 0) := (blk_cell BK244.out 2).trans rfl; have hcz8_3 : w5.cell? ⟨gb244, 3, none⟩ = some (.int .i64 0) := (blk_cell BK244.out 3).trans rfl; have hfz8_0 := blk_frozen BK244.out 0; have hfz8_1 := blk_frozen BK244.out 1; have hfz8_2 := blk_frozen BK244.out 2; have hfz8_3 := blk_frozen BK244.out 3))
  refine bodyPost_ret (results_ct rfl _ _ gb244 23 #[.int .i64 a0_1, .int .i64 a0_0, .int .i64 a0_3, .int .i64 a0_2] (0, 0) _ rfl (by refine blk_put (cs := #[.int .i64 a0_1, .int .i64 a0_0, .int .i64 a0_3, .int .i64 a0_2]) ?_ 3 _ rfl; refine blk_put (cs := #[.int .i64 a0_1, .int .i64 a0_0, .int .i64 a0_3, .int .i64 a0_2]) ?_ 2 _ rfl; refine blk_put (cs := #[.int .i64 a0_1, .int .i64 a0_0, .int .i64 a0_3, .int .i64 a0_2]) ?_ 1 _ rfl; refine blk_put (cs := #[.int .i64 a0_1, .int .i64 a0_0, .int .i64 a0_3, .int .i64 a0_2]) ?_ 0 _ rfl; refine blk_put (cs := #[.int .i64 a0_1, .int .i64 a0_0, .int .i64 a0_3, .int .i64 0]) ?_ 3 _ rfl; refine blk_put (cs := #[.int .i64 a0_1, .int .i64 a0_0, .int .i64 0, .int .i64 0]) ?_ 2 _ rfl; refine blk_put (cs := #[.int .i64 a0_1, .int .i64 0, .int .i64 0, .int .i64 0]) ?_ 1 _ rfl; refine blk_put (cs := #[.int .i64 0, .int .i64 0, .int .i64 0, .int .i64 0]) ?_ 0 _ rfl; refine blk_far ?_ NB244_243.out _; refine blk_far ?_ NB244_243.out _; refine blk_far ?_ NB244_243.out _; refine blk_far ?_ NB244_243.out _; exact BK244.out) Try.underlying23 rfl (by kernel_rfl)) rfl ?_
  exact ⟨by rfl, by repeat ((with_reducible first | exact HB.out | refine below_set ?_ GE243.out | refine below_set ?_ GE244.out))⟩
 ·rw [if_neg c3] at H
  have c3b0 : (a1 == 2) = false := beq_eq_false_iff_ne.mpr c3
  have c3b1 : (a1 != 2) = true := bne_iff_ne.mpr c3
  by_cases c9 : a1 = 1
  ·rw [if_pos c9] at H
   have c9b0 : (a1 == 1) = true := beq_iff_eq.mpr c9
   have c9b1 : (a1 != 1) = false := bne_eq_false_iff_eq.mpr c9
   clear c9
   simp only [Option.some.injEq, Prod.mk.injEq] at H
   obtain ⟨rfl, rfl, rfl, rfl, rfl⟩ := H
   go_enter Try.func127, Try.ntmps127
   go_wp2_with (first | ((with_reducible refine gate_dst (N := 2) rfl ?_); refine box_event ?hg (N := 2) ?hd (cs := #[.int .i64 a0_0, .int .i64 a0_1, .int .i64 a0_2, .int .i64 a0_3]) (t := 23) ?hr ?_; (case hd => rfl); (case hg => rfl); (case hr => (go_simp; done)); intro gb243 hg w10 hbox hb; have BK243 := Aside0.mk (hbox); have GE243 := Aside0.mk ((by rw [hg]; exact (below_size (by repeat ((with_reducible exact HB.out)))) : w.heap.size ≤ gb243)); replace HB := Aside0.mk (below_step (by repeat ((with_reducible exact HB.out))) hb); clear hb hbox hg) | ((with_reducible refine gate_dst (N := 4) rfl ?_); refine box_event ?hg (N := 4) ?hd (cs := #[.int .i64 0, .int .i64 0, .int .i64 0, .int .i64 0]) (t := 23) ?hr ?_; (case hd => rfl); (case hg => rfl); (case hr => (go_simp; done)); intro gb244 hg w11 hbox hb; have BK244 := Aside0.mk (hbox); have GE244 := Aside0.mk ((by rw [hg]; exact (below_size (by repeat ((with_reducible exact HB.out)))) : w.heap.size ≤ gb244)); have NB243_244 := Aside0.mk ((by rw [hg]; exact Nat.ne_of_lt (blk_lt BK243.out) : gb243 ≠ gb244)); have NB244_243 := Aside0.mk ((by rw [hg]; exact Nat.ne_of_gt (blk_lt BK243.out) : gb244 ≠ gb243)); replace BK243 := Aside0.mk (blk_below BK243.out hb); replace HB := Aside0.mk (below_step (by repeat ((with_reducible exact HB.out))) hb); clear hb hbox hg; have hnb12 := NB243_244.out; have hnc12 := NB244_243.out; have hcz13_0 : w11.cell? ⟨gb243, 0, none⟩ = some (.int .i64 a0_0) := (blk_cell BK243.out 0).trans rfl; have hcz13_1 : w11.cell? ⟨gb243, 1, none⟩ = some (.int .i64 a0_1) := (blk_cell BK243.out 1).trans rfl; have hcz13_2 : w11.cell? ⟨gb243, 2, none⟩ = some (.int .i64 a0_2) := (blk_cell BK243.out 2).trans rfl; have hcz13_3 : w11.cell? ⟨gb243, 3, none⟩ = some (.int .i64 a0_3) := (blk_cell BK243.out 3).trans rfl; have hfz13_0 := blk_frozen BK243.out 0; have hfz13_1 := blk_frozen BK243.out 1; have hfz13_2 := blk_frozen BK243.out 2; have hfz13_3 := blk_frozen BK243.out 3; have hcz14_0 : w11.cell? ⟨gb244, 0, none⟩ = some (.int .i64 0) := (blk_cell BK244.out 0).trans rfl; have hcz14_1 : w11.cell? ⟨gb244, 1, none⟩ = some (.int .i64 0) := (blk_cell BK244.out 1).trans rfl; have hcz14_2 : w11.cell? ⟨gb244, 2, none⟩ = some (.int .i64 0) := (blk_cell BK244.out 2).trans rfl; have hcz14_3 : w11.cell? ⟨gb244, 3, none⟩ = some (.int .i64 0) := (blk_cell BK244.out 3).trans rfl; have hfz14_0 := blk_frozen BK244.out 0; have hfz14_1 := blk_frozen BK244.out 1; have hfz14_2 := blk_frozen BK244.out 2; have hfz14_3 := blk_frozen BK244.out 3))
   refine bodyPost_ret (results_ct rfl _ _ gb244 23 #[.int .i64 a0_0, .int .i64 a0_1, .int .i64 a0_2, .int .i64 a0_3] (0, 0) _ rfl (by refine blk_put (cs := #[.int .i64 a0_0, .int .i64 a0_1, .int .i64 a0_2, .int .i64 a0_3]) ?_ 3 _ rfl; refine blk_put (cs := #[.int .i64 a0_0, .int .i64 a0_1, .int .i64 a0_2, .int .i64 a0_3]) ?_ 2 _ rfl; refine blk_put (cs := #[.int .i64 a0_0, .int .i64 a0_1, .int .i64 a0_2, .int .i64 a0_3]) ?_ 1 _ rfl; refine blk_put (cs := #[.int .i64 a0_0, .int .i64 a0_1, .int .i64 a0_2, .int .i64 a0_3]) ?_ 0 _ rfl; refine blk_put (cs := #[.int .i64 a0_0, .int .i64 a0_1, .int .i64 a0_2, .int .i64 0]) ?_ 3 _ rfl; refine blk_put (cs := #[.int .i64 a0_0, .int .i64 a0_1, .int .i64 0, .int .i64 0]) ?_ 2 _ rfl; refine blk_put (cs := #[.int .i64 a0_0, .int .i64 0, .int .i64 0, .int .i64 0]) ?_ 1 _ rfl; refine blk_put (cs := #[.int .i64 0, .int .i64 0, .int .i64 0, .int .i64 0]) ?_ 0 _ rfl; exact BK244.out) Try.underlying23 rfl (by kernel_rfl)) rfl ?_
   exact ⟨by rfl, by repeat ((with_reducible first | exact HB.out | refine below_set ?_ GE244.out))⟩
  ·rw [if_neg c9] at H
   have c9b0 : (a1 == 1) = false := beq_eq_false_iff_ne.mpr c9
   have c9b1 : (a1 != 1) = true := bne_iff_ne.mpr c9
   simp only [Option.some.injEq, Prod.mk.injEq] at H
   obtain ⟨rfl, rfl, rfl, rfl, rfl⟩ := H
   go_enter Try.func127, Try.ntmps127
   go_wp2_with (first | ((with_reducible refine gate_dst (N := 2) rfl ?_); refine box_event ?hg (N := 2) ?hd (cs := #[.int .i64 a0_0, .int .i64 a0_1, .int .i64 a0_2, .int .i64 a0_3]) (t := 23) ?hr ?_; (case hd => rfl); (case hg => rfl); (case hr => (go_simp; done)); intro gb243 hg w15 hbox hb; have BK243 := Aside0.mk (hbox); have GE243 := Aside0.mk ((by rw [hg]; exact (below_size (by repeat ((with_reducible exact HB.out)))) : w.heap.size ≤ gb243)); replace HB := Aside0.mk (below_step (by repeat ((with_reducible exact HB.out))) hb); clear hb hbox hg) | ((with_reducible refine gate_dst (N := 4) rfl ?_); refine box_event ?hg (N := 4) ?hd (cs := #[.int .i64 0, .int .i64 0, .int .i64 0, .int .i64 0]) (t := 23) ?hr ?_; (case hd => rfl); (case hg => rfl); (case hr => (go_simp; done)); intro gb244 hg w16 hbox hb; have BK244 := Aside0.mk (hbox); have GE244 := Aside0.mk ((by rw [hg]; exact (below_size (by repeat ((with_reducible exact HB.out)))) : w.heap.size ≤ gb244)); have NB243_244 := Aside0.mk ((by rw [hg]; exact Nat.ne_of_lt (blk_lt BK243.out) : gb243 ≠ gb244)); have NB244_243 := Aside0.mk ((by rw [hg]; exact Nat.ne_of_gt (blk_lt BK243.out) : gb244 ≠ gb243)); replace BK243 := Aside0.mk (blk_below BK243.out hb); replace HB := Aside0.mk (below_step (by repeat ((with_reducible exact HB.out))) hb); clear hb hbox hg; have hnb17 := NB244_243.out; have hnc17 := NB243_244.out; have hcz18_0 : w16.cell? ⟨gb244, 0, none⟩ = some (.int .i64 0) := (blk_cell BK244.out 0).trans rfl; have hcz18_1 : w16.cell? ⟨gb244, 1, none⟩ = some (.int .i64 0) := (blk_cell BK244.out 1).trans rfl; have hcz18_2 : w16.cell? ⟨gb244, 2, none⟩ = some (.int .i64 0) := (blk_cell BK244.out 2).trans rfl; have hcz18_3 : w16.cell? ⟨gb244, 3, none⟩ = some (.int .i64 0) := (blk_cell BK244.out 3).trans rfl; have hfz18_0 := blk_frozen BK244.out 0; have hfz18_1 := blk_frozen BK244.out 1; have hfz18_2 := blk_frozen BK244.out 2; have hfz18_3 := blk_frozen BK244.out 3))
   refine bodyPost_ret (results_ct rfl _ _ gb244 23 #[.int .i64 0, .int .i64 0, .int .i64 0, .int .i64 0] (0, 0) _ rfl (by refine blk_put (cs := #[.int .i64 0, .int .i64 0, .int .i64 0, .int .i64 0]) ?_ 3 _ rfl; refine blk_put (cs := #[.int .i64 0, .int .i64 0, .int .i64 0, .int .i64 0]) ?_ 2 _ rfl; refine blk_put (cs := #[.int .i64 0, .int .i64 0, .int .i64 0, .int .i64 0]) ?_ 1 _ rfl; refine blk_put (cs := #[.int .i64 0, .int .i64 0, .int .i64 0, .int .i64 0]) ?_ 0 _ rfl; exact BK244.out) Try.underlying23 rfl (by kernel_rfl)) rfl ?_
   exact ⟨by rfl, by repeat ((with_reducible first | exact HB.out | refine below_set ?_ GE244.out))⟩

end Go.Proofs.Ytfdmfgaiblfbhaa.P
namespace Go.Proofs.Ytfdmfgaiblfbhaa.P
open Go.RowKit Go.Proofs.YtfdmfgaiblfbhaaW.PrintWords Go.Proofs.YtfdmfgaiblfbhaaW.PrintLast Go.Proofs.YtfdmfgaiblfbhaaW.PrintMore
attribute [local go_sem] max2_int min2_int max_two min_two max_three min_three max_four min_four   -- for this text's walks alone
set_option linter.unusedVariables false
set_option linter.unusedSimpArgs false

/-! ### rect_may: function 128 -/
def rect_may.f (a0_0 : Int) (a0_1 : Int) (a0_2 : Int) (a0_3 : Int) : Option (Bool) := if a0_0 ≥ 0 then (if a0_2 ≥ 1 then (if a0_2 ≤ 10000 then (if a0_0 ≤ (wrap64 (10000 - a0_2)) then (if a0_1 ≥ 0 then (if a0_3 ≥ 1 then (if a0_3 ≤ 10000 then (some (decide (a0_1 ≤ (wrap64 (10000 - a0_3))))) else (some false)) else (some false)) else (some false)) else (some false)) else (some false)) else (some false)) else (some false)
set_option maxHeartbeats 8000000 in
set_option maxRecDepth 100000 in
theorem rect_may.calls (a0_0 : Int) (a0_1 : Int) (a0_2 : Int) (a0_3 : Int) (r : Bool) (w : World) (h : rect_may.f a0_0 a0_1 a0_2 a0_3 = some r) :
  Calls Try.prog 128 #[.agg #[.int .i64 a0_0, .int .i64 a0_1, .int .i64 a0_2, .int .i64 a0_3]] w fun e w' => e = .returned (.bool r) ∧ Below w.heap.size w w' := by
 have hu23 := Try.underlying23
 have HB := Aside0.mk (Below.refl w.heap.size w)
 have H : (if a0_0 ≥ 0 then (if a0_2 ≥ 1 then (if a0_2 ≤ 10000 then (if a0_0 ≤ (wrap64 (10000 - a0_2)) then (if a0_1 ≥ 0 then (if a0_3 ≥ 1 then (if a0_3 ≤ 10000 then (some (decide (a0_1 ≤ (wrap64 (10000 - a0_3))))) else (some false)) else (some false)) else (some false)) else (some false)) else (some false)) else (some false)) else (some false)) = some r := h
 clear h
 by_cases c2 : a0_0 ≥ 0
 ·rw [if_pos c2] at H
  have c2b0 : decide (0 ≤ a0_0) = true := decide_eq_true c2
  clear c2
  by_cases c3 : a0_2 ≥ 1
  ·rw [if_pos c3] at H
   have c3b0 : decide (1 ≤ a0_2) = true := decide_eq_true c3
   clear c3
   by_cases c4 : a0_2 ≤ 10000
   ·rw [if_pos c4] at H
    have c4b0 : decide (a0_2 ≤ 10000) = true := decide_eq_true c4
    clear c4
    by_cases c5 : a0_0 ≤ (wrap64 (10000 - a0_2))
    ·rw [if_pos c5] at H
     have c5b0 : decide (a0_0 ≤ (wrap64 (10000 - a0_2))) = true := decide_eq_true c5
     clear c5
     by_cases c6 : a0_1 ≥ 0
     ·rw [if_pos c6] at H
      have c6b0 : decide (0 ≤ a0_1) = true := decide_eq_true c6
      clear c6
      by_cases c7 : a0_3 ≥ 1
      ·rw [if_pos c7] at H
       have c7b0 : decide (1 ≤ a0_3) = true := decide_eq_true c7
       clear c7
       by_cases c8 : a0_3 ≤ 10000
       ·rw [if_pos c8] at H
        have c8b0 : decide (a0_3 ≤ 10000) = true := decide_eq_true c8
        clear c8
        obtain rfl := Option.some.inj H
        go_enter Try.func128, Try.ntmps128
        go_wp2_with (((with_reducible refine gate_dst (N := 1) rfl ?_); refine box_event ?hg (N := 1) ?hd (cs := #[.int .i64 a0_0, .int .i64 a0_1, .int .i64 a0_2, .int .i64 a0_3]) (t := 23) ?hr ?_; (case hd => rfl); (case hg => rfl); (case hr => (go_simp; done)); intro gb245 hg w9 hbox hb; have BK245 := Aside0.mk (hbox); replace HB := Aside0.mk (below_step (by repeat ((with_reducible exact HB.out))) hb); clear hb hbox hg; have hcz10_0 : w9.cell? ⟨gb245, 0, none⟩ = some (.int .i64 a0_0) := (blk_cell BK245.out 0).trans rfl; have hcz10_1 : w9.cell? ⟨gb245, 1, none⟩ = some (.int .i64 a0_1) := (blk_cell BK245.out 1).trans rfl; have hcz10_2 : w9.cell? ⟨gb245, 2, none⟩ = some (.int .i64 a0_2) := (blk_cell BK245.out 2).trans rfl; have hcz10_3 : w9.cell? ⟨gb245, 3, none⟩ = some (.int .i64 a0_3) := (blk_cell BK245.out 3).trans rfl; have hfz10_0 := blk_frozen BK245.out 0; have hfz10_1 := blk_frozen BK245.out 1; have hfz10_2 := blk_frozen BK245.out 2; have hfz10_3 := blk_frozen BK245.out 3))
        go_ret
        exact ⟨by rfl, by repeat ((with_reducible exact HB.out))⟩
       ·rw [if_neg c8] at H
        have c8b0 : decide (a0_3 ≤ 10000) = false := decide_eq_false c8
        clear c8
        obtain rfl := Option.some.inj H
        go_enter Try.func128, Try.ntmps128
        go_wp2_with (((with_reducible refine gate_dst (N := 1) rfl ?_); refine box_event ?hg (N := 1) ?hd (cs := #[.int .i64 a0_0, .int .i64 a0_1, .int .i64 a0_2, .int .i64 a0_3]) (t := 23) ?hr ?_; (case hd => rfl); (case hg => rfl); (case hr => (go_simp; done)); intro gb245 hg w11 hbox hb; have BK245 := Aside0.mk (hbox); replace HB := Aside0.mk (below_step (by repeat ((with_reducible exact HB.out))) hb); clear hb hbox hg; have hcz12_0 : w11.cell? ⟨gb245, 0, none⟩ = some (.int .i64 a0_0) := (blk_cell BK245.out 0).trans rfl; have hcz12_1 : w11.cell? ⟨gb245, 1, none⟩ = some (.int .i64 a0_1) := (blk_cell BK245.out 1).trans rfl; have hcz12_2 : w11.cell? ⟨gb245, 2, none⟩ = some (.int .i64 a0_2) := (blk_cell BK245.out 2).trans rfl; have hcz12_3 : w11.cell? ⟨gb245, 3, none⟩ = some (.int .i64 a0_3) := (blk_cell BK245.out 3).trans rfl; have hfz12_0 := blk_frozen BK245.out 0; have hfz12_1 := blk_frozen BK245.out 1; have hfz12_2 := blk_frozen BK245.out 2; have hfz12_3 := blk_frozen BK245.out 3))
        go_ret
        exact ⟨by rfl, by repeat ((with_reducible exact HB.out))⟩
      ·rw [if_neg c7] at H
       have c7b0 : decide (1 ≤ a0_3) = false := decide_eq_false c7
       clear c7
       obtain rfl := Option.some.inj H
       go_enter Try.func128, Try.ntmps128
       go_wp2_with (((with_reducible refine gate_dst (N := 1) rfl ?_); refine box_event ?hg (N := 1) ?hd (cs := #[.int .i64 a0_0, .int .i64 a0_1, .int .i64 a0_2, .int .i64 a0_3]) (t := 23) ?hr ?_; (case hd => rfl); (case hg => rfl); (case hr => (go_simp; done)); intro gb245 hg w13 hbox hb; have BK245 := Aside0.mk (hbox); replace HB := Aside0.mk (below_step (by repeat ((with_reducible exact HB.out))) hb); clear hb hbox hg; have hcz14_0 : w13.cell? ⟨gb245, 0, none⟩ = some (.int .i64 a0_0) := (blk_cell BK245.out 0).trans rfl; have hcz14_1 : w13.cell? ⟨gb245, 1, none⟩ = some (.int .i64 a0_1) := (blk_cell BK245.out 1).trans rfl; have hcz14_2 : w13.cell? ⟨gb245, 2, none⟩ = some (.int .i64 a0_2) := (blk_cell BK245.out 2).trans rfl; have hcz14_3 : w13.cell? ⟨gb245, 3, none⟩ = some (.int .i64 a0_3) := (blk_cell BK245.out 3).trans rfl; have hfz14_0 := blk_frozen BK245.out 0; have hfz14_1 := blk_frozen BK245.out 1; have hfz14_2 := blk_frozen BK245.out 2; have hfz14_3 := blk_frozen BK245.out 3))
       go_ret
       exact ⟨by rfl, by repeat ((with_reducible exact HB.out))⟩
     ·rw [if_neg c6] at H
      have c6b0 : decide (0 ≤ a0_1) = false := decide_eq_false c6
      clear c6
      obtain rfl := Option.some.inj H
      go_enter Try.func128, Try.ntmps128
      go_wp2_with (((with_reducible refine gate_dst (N := 1) rfl ?_); refine box_event ?hg (N := 1) ?hd (cs := #[.int .i64 a0_0, .int .i64 a0_1, .int .i64 a0_2, .int .i64 a0_3]) (t := 23) ?hr ?_; (case hd => rfl); (case hg => rfl); (case hr => (go_simp; done)); intro gb245 hg w15 hbox hb; have BK245 := Aside0.mk (hbox); replace HB := Aside0.mk (below_step (by repeat ((with_reducible exact HB.out))) hb); clear hb hbox hg; have hcz16_0 : w15.cell? ⟨gb245, 0, none⟩ = some (.int .i64 a0_0) := (blk_cell BK245.out 0).trans rfl; have hcz16_1 : w15.cell? ⟨gb245, 1, none⟩ = some (.int .i64 a0_1) := (blk_cell BK245.out 1).trans rfl; have hcz16_2 : w15.cell? ⟨gb245, 2, none⟩ = some (.int .i64 a0_2) := (blk_cell BK245.out 2).trans rfl; have hcz16_3 : w15.cell? ⟨gb245, 3, none⟩ = some (.int .i64 a0_3) := (blk_cell BK245.out 3).trans rfl; have hfz16_0 := blk_frozen BK245.out 0; have hfz16_1 := blk_frozen BK245.out 1; have hfz16_2 := blk_frozen BK245.out 2; have hfz16_3 := blk_frozen BK245.out 3))
      go_ret
      exact ⟨by rfl, by repeat ((with_reducible exact HB.out))⟩
    ·rw [if_neg c5] at H
     have c5b0 : decide (a0_0 ≤ (wrap64 (10000 - a0_2))) = false := decide_eq_false c5
     clear c5
     obtain rfl := Option.some.inj H
     go_enter Try.func128, Try.ntmps128
     go_wp2_with (((with_reducible refine gate_dst (N := 1) rfl ?_); refine box_event ?hg (N := 1) ?hd (cs := #[.int .i64 a0_0, .int .i64 a0_1, .int .i64 a0_2, .int .i64 a0_3]) (t := 23) ?hr ?_; (case hd => rfl); (case hg => rfl); (case hr => (go_simp; done)); intro gb245 hg w17 hbox hb; have BK245 := Aside0.mk (hbox); replace HB := Aside0.mk (below_step (by repeat ((with_reducible exact HB.out))) hb); clear hb hbox hg; have hcz18_0 : w17.cell? ⟨gb245, 0, none⟩ = some (.int .i64 a0_0) := (blk_cell BK245.out 0).trans rfl; have hcz18_1 : w17.cell? ⟨gb245, 1, none⟩ = some (.int .i64 a0_1) := (blk_cell BK245.out 1).trans rfl; have hcz18_2 : w17.cell? ⟨gb245, 2, none⟩ = some (.int .i64 a0_2) := (blk_cell BK245.out 2).trans rfl; have hcz18_3 : w17.cell? ⟨gb245, 3, none⟩ = some (.int .i64 a0_3) := (blk_cell BK245.out 3).trans rfl; have hfz18_0 := blk_frozen BK245.out 0; have hfz18_1 := blk_frozen BK245.out 1; have hfz18_2 := blk_frozen BK245.out 2; have hfz18_3 := blk_frozen BK245.out 3))
     go_ret
     exact ⟨by rfl, by repeat ((with_reducible exact HB.out))⟩
   ·rw [if_neg c4] at H
    have c4b0 : decide (a0_2 ≤ 10000) = false := decide_eq_false c4
    clear c4
    obtain rfl := Option.some.inj H
    go_enter Try.func128, Try.ntmps128
    go_wp2_with (((with_reducible refine gate_dst (N := 1) rfl ?_); refine box_event ?hg (N := 1) ?hd (cs := #[.int .i64 a0_0, .int .i64 a0_1, .int .i64 a0_2, .int .i64 a0_3]) (t := 23) ?hr ?_; (case hd => rfl); (case hg => rfl); (case hr => (go_simp; done)); intro gb245 hg w19 hbox hb; have BK245 := Aside0.mk (hbox); replace HB := Aside0.mk (below_step (by repeat ((with_reducible exact HB.out))) hb); clear hb hbox hg; have hcz20_0 : w19.cell? ⟨gb245, 0, none⟩ = some (.int .i64 a0_0) := (blk_cell BK245.out 0).trans rfl; have hcz20_1 : w19.cell? ⟨gb245, 1, none⟩ = some (.int .i64 a0_1) := (blk_cell BK245.out 1).trans rfl; have hcz20_2 : w19.cell? ⟨gb245, 2, none⟩ = some (.int .i64 a0_2) := (blk_cell BK245.out 2).trans rfl; have hcz20_3 : w19.cell? ⟨gb245, 3, none⟩ = some (.int .i64 a0_3) := (blk_cell BK245.out 3).trans rfl; have hfz20_0 := blk_frozen BK245.out 0; have hfz20_1 := blk_frozen BK245.out 1; have hfz20_2 := blk_frozen BK245.out 2; have hfz20_3 := blk_frozen BK245.out 3))
    go_ret
    exact ⟨by rfl, by repeat ((with_reducible exact HB.out))⟩
  ·rw [if_neg c3] at H
   have c3b0 : decide (1 ≤ a0_2) = false := decide_eq_false c3
   clear c3
   obtain rfl := Option.some.inj H
   go_enter Try.func128, Try.ntmps128
   go_wp2_with (((with_reducible refine gate_dst (N := 1) rfl ?_); refine box_event ?hg (N := 1) ?hd (cs := #[.int .i64 a0_0, .int .i64 a0_1, .int .i64 a0_2, .int .i64 a0_3]) (t := 23) ?hr ?_; (case hd => rfl); (case hg => rfl); (case hr => (go_simp; done)); intro gb245 hg w21 hbox hb; have BK245 := Aside0.mk (hbox); replace HB := Aside0.mk (below_step (by repeat ((with_reducible exact HB.out))) hb); clear hb hbox hg; have hcz22_0 : w21.cell? ⟨gb245, 0, none⟩ = some (.int .i64 a0_0) := (blk_cell BK245.out 0).trans rfl; have hcz22_1 : w21.cell? ⟨gb245, 1, none⟩ = some (.int .i64 a0_1) := (blk_cell BK245.out 1).trans rfl; have hcz22_2 : w21.cell? ⟨gb245, 2, none⟩ = some (.int .i64 a0_2) := (blk_cell BK245.out 2).trans rfl; have hcz22_3 : w21.cell? ⟨gb245, 3, none⟩ = some (.int .i64 a0_3) := (blk_cell BK245.out 3).trans rfl; have hfz22_0 := blk_frozen BK245.out 0; have hfz22_1 := blk_frozen BK245.out 1; have hfz22_2 := blk_frozen BK245.out 2; have hfz22_3 := blk_frozen BK245.out 3))
   go_ret
   exact ⟨by rfl, by repeat ((with_reducible exact HB.out))⟩
 ·rw [if_neg c2] at H
  have c2b0 : decide (0 ≤ a0_0) = false := decide_eq_false c2
  clear c2
  obtain rfl := Option.some.inj H
  go_enter Try.func128, Try.ntmps128
  go_wp2_with (((with_reducible refine gate_dst (N := 1) rfl ?_); refine box_event ?hg (N := 1) ?hd (cs := #[.int .i64 a0_0, .int .i64 a0_1, .int .i64 a0_2, .int .i64 a0_3]) (t := 23) ?hr ?_; (case hd => rfl); (case hg => rfl); (case hr => (go_simp; done)); intro gb245 hg w23 hbox hb; have BK245 := Aside0.mk (hbox); replace HB := Aside0.mk (below_step (by repeat ((with_reducible exact HB.out))) hb); clear hb hbox hg; have hcz24_0 : w23.cell? ⟨gb245, 0, none⟩ = some (.int .i64 a0_0) := (blk_cell BK245.out 0).trans rfl; have hcz24_1 : w23.cell? ⟨gb245, 1, none⟩ = some (.int .i64 a0_1) := (blk_cell BK245.out 1).trans rfl; have hcz24_2 : w23.cell? ⟨gb245, 2, none⟩ = some (.int .i64 a0_2) := (blk_cell BK245.out 2).trans rfl; have hcz24_3 : w23.cell? ⟨gb245, 3, none⟩ = some (.int .i64 a0_3) := (blk_cell BK245.out 3).trans rfl; have hfz24_0 := blk_frozen BK245.out 0; have hfz24_1 := blk_frozen BK245.out 1; have hfz24_2 := blk_frozen BK245.out 2; have hfz24_3 := blk_frozen BK245.out 3))
  go_ret
  exact ⟨by rfl, by repeat ((with_reducible exact HB.out))⟩

end Go.Proofs.Ytfdmfgaiblfbhaa.P
namespace Go.Proofs.Ytfdmfgaiblfbhaa.P
open Go.RowKit Go.Proofs.YtfdmfgaiblfbhaaW.PrintWords Go.Proofs.YtfdmfgaiblfbhaaW.PrintLast Go.Proofs.YtfdmfgaiblfbhaaW.PrintMore
attribute [local go_sem] max2_int min2_int max_two min_two max_three min_three max_four min_four   -- for this text's walks alone
set_option linter.unusedVariables false
set_option linter.unusedSimpArgs false

/-! ### rect_Cut: function 45 -/
mutual
def rect_Cut.j0 : Nat → Int → List Int → Bool → Int → Int → Int → Int → Option ((List (S23)) × (List (S23)) × Bool)
 | 0, _, _, _, _, _, _, _ => none
 | k + 1, x1, x2, x37, x253000, x253001, x253002, x253003 => if x37 = true then (some (([] : List (S23)), ([] : List (S23)), false)) else (rect_Cut.l0 k x1 ([] : List (S23)) ([] : List (S23)) x253000 x2 (x2.length : Int) 0 x253000 x253001 x253002 x253003)
def rect_Cut.l0 : Nat → Int → List (S23) → List (S23) → Int → List Int → Int → Int → Int → Int → Int → Int → Option ((List (S23)) × (List (S23)) × Bool)
 | 0, _, _, _, _, _, _, _, _, _, _, _ => none
 | k + 1, x1, x11, x12, x13, x40, x41, x42, x253000, x253001, x253002, x253003 => if x42 < x41 then (if 0 ≤ x42 then (if x42 < (x40.length : Int) then (if x42 > 0 then ((rect_turned.f x13 x253001 1 x253003 x1).bind fun bt255 => (if x12.length < 4398046511104 then (if (rd x40 x42) < 1 then (some (([] : List (S23)), ([] : List (S23)), false)) else (if (rd x40 x42) > (wrap64 ((wrap64 (x253000 + x253002)) - (wrap64 (x13 + 1)))) then (some (([] : List (S23)), ([] : List (S23)), false)) else ((rect_turned.f (wrap64 (x13 + 1)) x253001 (rd x40 x42) x253003 x1).bind fun bt264 => (if x11.length < 4398046511104 then (rect_Cut.l0 k x1 (x11 ++ [(⟨bt264.1, bt264.2.1, bt264.2.2.1, bt264.2.2.2.1⟩ : S23)]) (x12 ++ [(⟨bt255.1, bt255.2.1, bt255.2.2.1, bt255.2.2.2.1⟩ : S23)]) (wrap64 ((wrap64 (x13 + 1)) + (rd x40 x42))) x40 x41 (wrap64 (x42 + 1)) x253000 x253001 x253002 x253003) else (none))))) else (none))) else (if (rd x40 x42) < 1 then (some (([] : List (S23)), ([] : List (S23)), false)) else (if (rd x40 x42) > (wrap64 ((wrap64 (x253000 + x253002)) - x13)) then (some (([] : List (S23)), ([] : List (S23)), false)) else ((rect_turned.f x13 x253001 (rd x40 x42) x253003 x1).bind fun bt273 => (if x11.length < 4398046511104 then (rect_Cut.l0 k x1 (x11 ++ [(⟨bt273.1, bt273.2.1, bt273.2.2.1, bt273.2.2.2.1⟩ : S23)]) x12 (wrap64 (x13 + (rd x40 x42))) x40 x41 (wrap64 (x42 + 1)) x253000 x253001 x253002 x253003) else (none)))))) else (none)) else (none)) else (if x13 = (wrap64 (x253000 + x253002)) then (some (x11, x12, true)) else (some (([] : List (S23)), ([] : List (S23)), false)))
end
def rect_Cut.f (k : Nat) (a0_0 : Int) (a0_1 : Int) (a0_2 : Int) (a0_3 : Int) (a1 : Int) (l2 : List Int) : Option ((List (S23)) × (List (S23)) × Bool) := (rect_turned.f a0_0 a0_1 a0_2 a0_3 a1).bind fun bt247 => (if bt247.2.2.2.2 = true then ((rect_may.f a0_0 a0_1 a0_2 a0_3).bind fun t253 => (if t253 = true then (rect_Cut.j0 k a1 l2 ((l2.length : Int) == 0) bt247.1 bt247.2.1 bt247.2.2.1 bt247.2.2.2.1) else (rect_Cut.j0 k a1 l2 true bt247.1 bt247.2.1 bt247.2.2.1 bt247.2.2.2.1))) else (rect_Cut.j0 k a1 l2 true bt247.1 bt247.2.1 bt247.2.2.1 bt247.2.2.2.1))
theorem rect_Cut.mono_l : ∀ k, (∀ y0 y1 y2 y3 y4 y5 y6, LeO (rect_Cut.j0 k y0 y1 y2 y3 y4 y5 y6) (rect_Cut.j0 (k + 1) y0 y1 y2 y3 y4 y5 y6)) ∧ (∀ y0 y1 y2 y3 y4 y5 y6 y7 y8 y9 y10, LeO (rect_Cut.l0 k y0 y1 y2 y3 y4 y5 y6 y7 y8 y9 y10) (rect_Cut.l0 (k + 1) y0 y1 y2 y3 y4 y5 y6 y7 y8 y9 y10))
 | 0 => ⟨fun _ _ _ _ _ _ _ r h => by simp [rect_Cut.j0] at h, fun _ _ _ _ _ _ _ _ _ _ _ r h => by simp [rect_Cut.l0] at h⟩
 | k + 1 => by
  obtain ⟨ih0, ih1⟩ := rect_Cut.mono_l k
  refine ⟨?_, ?_⟩
  ·intro y0 y1 y2 y3 y4 y5 y6
   unfold rect_Cut.j0
   repeat' first | (with_reducible exact ih1 _ _ _ _ _ _ _ _ _ _ _) | (with_reducible exact LeO.refl _) | (with_reducible refine LeO.ite ?_ ?_)
  ·intro y0 y1 y2 y3 y4 y5 y6 y7 y8 y9 y10
   unfold rect_Cut.l0
   repeat' first | (with_reducible exact ih1 _ _ _ _ _ _ _ _ _ _ _) | (with_reducible exact LeO.refl _) | (with_reducible refine LeO.ite ?_ ?_) | (with_reducible refine LeO.bind ?_ (fun _ => ?_))
theorem rect_Cut.mono : ∀ a0 a1 a2 a3 a4 a5 k, LeO (rect_Cut.f k a0 a1 a2 a3 a4 a5) (rect_Cut.f (k + 1) a0 a1 a2 a3 a4 a5) := by
 intro a0 a1 a2 a3 a4 a5 k
 obtain ⟨ih0, ih1⟩ := rect_Cut.mono_l k
 unfold rect_Cut.f
 repeat' first | (with_reducible exact ih0 _ _ _ _ _ _ _) | (with_reducible exact LeO.refl _) | (with_reducible refine LeO.ite ?_ ?_) | (with_reducible refine LeO.bind ?_ (fun _ => ?_))
set_option maxHeartbeats 8000000 in
set_option maxRecDepth 100000 in
theorem rect_Cut.calls (k : Nat) (a0_0 : Int) (a0_1 : Int) (a0_2 : Int) (a0_3 : Int) (a1 : Int) (A2 : Option Addr) (c2 : Nat) (l2 : List Int) (r1 : List (S23)) (r2 : List (S23)) (r3 : Bool) (w : World) (hr2 : Kd.C (Kd.int .i64) w A2 l2.length l2) (hc2 : l2.length ≤ c2) (h : rect_Cut.f k a0_0 a0_1 a0_2 a0_3 a1 l2 = some (r1, r2, r3)) :
  Calls Try.prog 45 #[.agg #[.int .i64 a0_0, .int .i64 a0_1, .int .i64 a0_2, .int .i64 a0_3], .int .u8 a1, .slice A2 l2.length c2] w fun e w' => ∃ v0_ v1_ : Value, e = .returned (.tuple #[v0_, v1_, .bool r3]) ∧ Kd.R k23 23 w' w.heap.size (fun k_ => some k_ ≠ (v1_ : Value).ownBlock) v0_ r1 ∧ Kd.R k23 23 w' w.heap.size (fun k_ => some k_ ≠ (v0_ : Value).ownBlock) v1_ r2 ∧ Below w.heap.size w w' := by
 have hu23 := Try.underlying23
 have HR2 := Aside0.mk hr2
 clear hr2 hc2
 have HB := Aside0.mk (Below.refl w.heap.size w)
 have H : ((rect_turned.f a0_0 a0_1 a0_2 a0_3 a1).bind fun bt247 => (if bt247.2.2.2.2 = true then ((rect_may.f a0_0 a0_1 a0_2 a0_3).bind fun t253 => (if t253 = true then (rect_Cut.j0 k a1 l2 ((l2.length : Int) == 0) bt247.1 bt247.2.1 bt247.2.2.1 bt247.2.2.2.1) else (rect_Cut.j0 k a1 l2 true bt247.1 bt247.2.1 bt247.2.2.1 bt247.2.2.2.1))) else (rect_Cut.j0 k a1 l2 true bt247.1 bt247.2.1 bt247.2.2.1 bt247.2.2.2.1))) = some (r1, r2, r3) := h
 clear h
 replace H := Option.bind_eq_some_iff.mp H
 obtain ⟨⟨t247, t248, t249, t250, t251⟩, A40, H⟩ := H
 replace H : (if t251 = true then ((rect_may.f a0_0 a0_1 a0_2 a0_3).bind fun t253 => (if t253 = true then (rect_Cut.j0 k a1 l2 ((l2.length : Int) == 0) t247 t248 t249 t250) else (rect_Cut.j0 k a1 l2 true t247 t248 t249 t250))) else (rect_Cut.j0 k a1 l2 true t247 t248 t249 t250)) = some (r1, r2, r3) := H
 have A4 := Aside0.mk A40
 clear A40
 have HC5 := Aside0.mk H
 clear H
 go_enter Try.func45, Try.ntmps45
 go_upto_region 2 with (first | ((with_reducible refine gate_dst (N := 3) rfl ?_); (try (refine gate_guard (by rfl) ?_; dsimp only)); refine box_event ?hg (N := 3) ?hd (cs := #[.int .i64 a0_0, .int .i64 a0_1, .int .i64 a0_2, .int .i64 a0_3]) (t := 23) ?hr ?_; (case hd => rfl); (case hg => rfl); (case hr => (go_simp; done)); intro gb246 hg w6 hbox hb; have BK246 := Aside0.mk (hbox); replace HB := Aside0.mk (below_step (by repeat ((with_reducible exact HB.out))) hb); clear hb hbox hg; have hcz7_0 : w6.cell? ⟨gb246, 0, none⟩ = some (.int .i64 a0_0) := (blk_cell BK246.out 0).trans rfl; have hcz7_1 : w6.cell? ⟨gb246, 1, none⟩ = some (.int .i64 a0_1) := (blk_cell BK246.out 1).trans rfl; have hcz7_2 : w6.cell? ⟨gb246, 2, none⟩ = some (.int .i64 a0_2) := (blk_cell BK246.out 2).trans rfl; have hcz7_3 : w6.cell? ⟨gb246, 3, none⟩ = some (.int .i64 a0_3) := (blk_cell BK246.out 3).trans rfl; have hfz7_0 := blk_frozen BK246.out 0; have hfz7_1 := blk_frozen BK246.out 1; have hfz7_2 := blk_frozen BK246.out 2; have hfz7_3 := blk_frozen BK246.out 3) | ((with_reducible refine gate_callee (f := 127) rfl ?_); refine goesL_ (some 23) rfl rfl Try.func127 (by kernel_rfl) rfl #[.agg #[.int .i64 a0_0, .int .i64 a0_1, .int .i64 a0_2, .int .i64 a0_3], .int .u8 a1] rfl (by (try simp only [List.map_toArray, List.map_cons, List.map_nil]); rfl) ?_; (with_reducible refine (rect_turned.calls a0_0 a0_1 a0_2 a0_3 a1 t247 t248 t249 t250 t251 _ A4.out).mono ?_); rintro e w8 ⟨rfl, hb⟩; refine ⟨_, rfl, ?_⟩; replace BK246 := Aside0.mk (blk_below BK246.out hb); replace HB := Aside0.mk (below_step (by repeat ((with_reducible exact HB.out))) hb); (try clear hb)) | ((with_reducible refine gate_dst (N := 9) rfl ?_); (try (refine gate_guard (by rfl) ?_; dsimp only)); refine box_event ?hg (N := 9) ?hd (cs := #[.int .i64 0, .int .i64 0, .int .i64 0, .int .i64 0]) (t := 23) ?hr ?_; (case hd => rfl); (case hg => rfl); (case hr => (go_simp; done)); intro gb252 hg w9 hbox hb; have BK252 := Aside0.mk (hbox); have GE252 := Aside0.mk ((by rw [hg]; exact (below_size (by repeat ((with_reducible exact HB.out)))) : w.heap.size ≤ gb252)); have NB246_252 := Aside0.mk ((by rw [hg]; exact Nat.ne_of_lt (blk_lt BK246.out) : gb246 ≠ gb252)); have NB252_246 := Aside0.mk ((by rw [hg]; exact Nat.ne_of_gt (blk_lt BK246.out) : gb252 ≠ gb246)); replace BK246 := Aside0.mk (blk_below BK246.out hb); replace HB := Aside0.mk (below_step (by repeat ((with_reducible exact HB.out))) hb); clear hb hbox hg; have hnb10 := NB252_246.out; have hnc10 := NB246_252.out; have hcz11_0 : w9.cell? ⟨gb252, 0, none⟩ = some (.int .i64 0) := (blk_cell BK252.out 0).trans rfl; have hcz11_1 : w9.cell? ⟨gb252, 1, none⟩ = some (.int .i64 0) := (blk_cell BK252.out 1).trans rfl; have hcz11_2 : w9.cell? ⟨gb252, 2, none⟩ = some (.int .i64 0) := (blk_cell BK252.out 2).trans rfl; have hcz11_3 : w9.cell? ⟨gb252, 3, none⟩ = some (.int .i64 0) := (blk_cell BK252.out 3).trans rfl; have hfz11_0 := blk_frozen BK252.out 0; have hfz11_1 := blk_frozen BK252.out 1; have hfz11_2 := blk_frozen BK252.out 2; have hfz11_3 := blk_frozen BK252.out 3))
 (skip)
 go_cut [37] (fun v37 wc => ∃ (kq : Nat) (x37_4 : Bool), v37 = .bool x37_4 ∧ Aside0 (rect_Cut.j0 kq a1 l2 x37_4 t247 t248 t249 t250 = some (r1, r2, r3)) ∧ Aside0 (kq ≤ k) ∧ Aside0 (wc.heap[gb246]? = some (.cells #[.int .i64 a0_0, .int .i64 a0_1, .int .i64 a0_2, .int .i64 a0_3] 23 (0, 0))) ∧ Aside0 (wc.heap[gb252]? = some (.cells #[.int .i64 t247, .int .i64 t248, .int .i64 t249, .int .i64 t250] 23 (0, 0))) ∧ Aside0 (Below w.heap.size w wc))
 case first =>
  have H := HC5.out
  clear HC5
  by_cases c12 : t251 = true
  ·subst c12
   have H1 : ((rect_may.f a0_0 a0_1 a0_2 a0_3).bind fun t253 => (if t253 = true then (rect_Cut.j0 k a1 l2 ((l2.length : Int) == 0) t247 t248 t249 t250) else (rect_Cut.j0 k a1 l2 true t247 t248 t249 t250))) = some (r1, r2, r3) := by rw [if_pos rfl] at H; exact H
   clear H
   have H := H1
   clear H1
   replace H := Option.bind_eq_some_iff.mp H
   obtain ⟨t253, A130, H⟩ := H
   replace H : (if t253 = true then (rect_Cut.j0 k a1 l2 ((l2.length : Int) == 0) t247 t248 t249 t250) else (rect_Cut.j0 k a1 l2 true t247 t248 t249 t250)) = some (r1, r2, r3) := H
   have A13 := Aside0.mk A130
   clear A130
   by_cases c14 : t253 = true
   ·subst c14
    have H1 : (rect_Cut.j0 k a1 l2 ((l2.length : Int) == 0) t247 t248 t249 t250) = some (r1, r2, r3) := by rw [if_pos rfl] at H; exact H
    clear H
    have H := H1
    clear H1
    have H' := Aside0.mk H
    clear H
    have hnb15 := NB246_252.out
    have hnc15 := NB252_246.out
    have hcz16_0 : w9.cell? ⟨gb246, 0, none⟩ = some (.int .i64 a0_0) := (blk_cell BK246.out 0).trans rfl
    have hcz16_1 : w9.cell? ⟨gb246, 1, none⟩ = some (.int .i64 a0_1) := (blk_cell BK246.out 1).trans rfl
    have hcz16_2 : w9.cell? ⟨gb246, 2, none⟩ = some (.int .i64 a0_2) := (blk_cell BK246.out 2).trans rfl
    have hcz16_3 : w9.cell? ⟨gb246, 3, none⟩ = some (.int .i64 a0_3) := (blk_cell BK246.out 3).trans rfl
    have hfz16_0 := blk_frozen BK246.out 0
    have hfz16_1 := blk_frozen BK246.out 1
    have hfz16_2 := blk_frozen BK246.out 2
    have hfz16_3 := blk_frozen BK246.out 3
    go_wp2_with ((go_at_call 128; (with_reducible refine (rect_may.calls a0_0 a0_1 a0_2 a0_3 true _ A13.out).mono ?_); rintro e w17 ⟨rfl, hb⟩; replace BK246 := Aside0.mk (blk_below (g := gb246) (o := .cells #[.int .i64 a0_0, .int .i64 a0_1, .int .i64 a0_2, .int .i64 a0_3] 23 (0, 0)) (by refine blk_far ?_ NB246_252.out _; refine blk_far ?_ NB246_252.out _; refine blk_far ?_ NB246_252.out _; refine blk_far ?_ NB246_252.out _; exact BK246.out) hb); replace BK252 := Aside0.mk (blk_below (g := gb252) (o := .cells #[.int .i64 t247, .int .i64 t248, .int .i64 t249, .int .i64 t250] 23 (0, 0)) (by refine blk_put (cs := #[.int .i64 t247, .int .i64 t248, .int .i64 t249, .int .i64 0]) ?_ 3 _ rfl; refine blk_put (cs := #[.int .i64 t247, .int .i64 t248, .int .i64 0, .int .i64 0]) ?_ 2 _ rfl; refine blk_put (cs := #[.int .i64 t247, .int .i64 0, .int .i64 0, .int .i64 0]) ?_ 1 _ rfl; refine blk_put (cs := #[.int .i64 0, .int .i64 0, .int .i64 0, .int .i64 0]) ?_ 0 _ rfl; exact BK252.out) hb); replace HB := Aside0.mk (below_step (by repeat ((with_reducible first | exact HB.out | refine below_set ?_ GE252.out))) hb); (try clear hb)))
    go_meet
    case rel => exact ⟨_, (((l2.length : Int) == 0)), (by rfl), H', ⟨by omega⟩, ⟨by exact BK246.out⟩, ⟨by exact BK252.out⟩, ⟨by repeat ((with_reducible exact HB.out))⟩⟩
   ·replace c14 := Bool.eq_false_iff.mpr c14
    subst c14
    have H1 : (rect_Cut.j0 k a1 l2 true t247 t248 t249 t250) = some (r1, r2, r3) := by rw [if_neg (show ¬ (false = true) by decide)] at H; exact H
    clear H
    have H := H1
    clear H1
    have H' := Aside0.mk H
    clear H
    have hnb18 := NB246_252.out
    have hnc18 := NB252_246.out
    have hcz19_0 : w9.cell? ⟨gb246, 0, none⟩ = some (.int .i64 a0_0) := (blk_cell BK246.out 0).trans rfl
    have hcz19_1 : w9.cell? ⟨gb246, 1, none⟩ = some (.int .i64 a0_1) := (blk_cell BK246.out 1).trans rfl
    have hcz19_2 : w9.cell? ⟨gb246, 2, none⟩ = some (.int .i64 a0_2) := (blk_cell BK246.out 2).trans rfl
    have hcz19_3 : w9.cell? ⟨gb246, 3, none⟩ = some (.int .i64 a0_3) := (blk_cell BK246.out 3).trans rfl
    have hfz19_0 := blk_frozen BK246.out 0
    have hfz19_1 := blk_frozen BK246.out 1
    have hfz19_2 := blk_frozen BK246.out 2
    have hfz19_3 := blk_frozen BK246.out 3
    go_wp2_with ((go_at_call 128; (with_reducible refine (rect_may.calls a0_0 a0_1 a0_2 a0_3 false _ A13.out).mono ?_); rintro e w20 ⟨rfl, hb⟩; replace BK246 := Aside0.mk (blk_below (g := gb246) (o := .cells #[.int .i64 a0_0, .int .i64 a0_1, .int .i64 a0_2, .int .i64 a0_3] 23 (0, 0)) (by refine blk_far ?_ NB246_252.out _; refine blk_far ?_ NB246_252.out _; refine blk_far ?_ NB246_252.out _; refine blk_far ?_ NB246_252.out _; exact BK246.out) hb); replace BK252 := Aside0.mk (blk_below (g := gb252) (o := .cells #[.int .i64 t247, .int .i64 t248, .int .i64 t249, .int .i64 t250] 23 (0, 0)) (by refine blk_put (cs := #[.int .i64 t247, .int .i64 t248, .int .i64 t249, .int .i64 0]) ?_ 3 _ rfl; refine blk_put (cs := #[.int .i64 t247, .int .i64 t248, .int .i64 0, .int .i64 0]) ?_ 2 _ rfl; refine blk_put (cs := #[.int .i64 t247, .int .i64 0, .int .i64 0, .int .i64 0]) ?_ 1 _ rfl; refine blk_put (cs := #[.int .i64 0, .int .i64 0, .int .i64 0, .int .i64 0]) ?_ 0 _ rfl; exact BK252.out) hb); replace HB := Aside0.mk (below_step (by repeat ((with_reducible first | exact HB.out | refine below_set ?_ GE252.out))) hb); (try clear hb)))
    go_meet
    case rel => exact ⟨_, (true), (by rfl), H', ⟨by omega⟩, ⟨by exact BK246.out⟩, ⟨by exact BK252.out⟩, ⟨by repeat ((with_reducible exact HB.out))⟩⟩
  ·replace c12 := Bool.eq_false_iff.mpr c12
   subst c12
   have H1 : (rect_Cut.j0 k a1 l2 true t247 t248 t249 t250) = some (r1, r2, r3) := by rw [if_neg (show ¬ (false = true) by decide)] at H; exact H
   clear H
   have H := H1
   clear H1
   have H' := Aside0.mk H
   clear H
   go_wp2
   go_meet
   case rel => exact ⟨_, (true), (by rfl), H', ⟨by omega⟩, ⟨by refine blk_far ?_ NB246_252.out _; refine blk_far ?_ NB246_252.out _; refine blk_far ?_ NB246_252.out _; refine blk_far ?_ NB246_252.out _; exact BK246.out⟩, ⟨by refine blk_put (cs := #[.int .i64 t247, .int .i64 t248, .int .i64 t249, .int .i64 0]) ?_ 3 _ rfl; refine blk_put (cs := #[.int .i64 t247, .int .i64 t248, .int .i64 0, .int .i64 0]) ?_ 2 _ rfl; refine blk_put (cs := #[.int .i64 t247, .int .i64 0, .int .i64 0, .int .i64 0]) ?_ 1 _ rfl; refine blk_put (cs := #[.int .i64 0, .int .i64 0, .int .i64 0, .int .i64 0]) ?_ 0 _ rfl; exact BK252.out⟩, ⟨by repeat ((with_reducible first | exact HB.out | refine below_set ?_ GE252.out))⟩⟩
 case rest =>
  clear HC5
  clear hcz11_0 hcz11_1 hcz11_2 hcz11_3 hcz7_0 hcz7_1 hcz7_2 hcz7_3 hfz11_0 hfz11_1 hfz11_2 hfz11_3 hfz7_0 hfz7_1 hfz7_2 hfz7_3
  obtain ⟨kq, x37_4, rfl, HA, HJ4, BK246, BK252, HB⟩ := hcut
  cases kq with
  | zero => exact absurd HA.out (by simp [rect_Cut.j0])
  | succ kj4 =>
   have H := HA.out
   clear HA
   simp only [rect_Cut.j0] at H
   by_cases c21 : x37_4 = true
   ·subst c21
    have H1 : (some (([] : List (S23)), ([] : List (S23)), false)) = some (r1, r2, r3) := by rw [if_pos rfl] at H; exact H
    clear H
    have H := H1
    clear H1
    simp only [Option.some.injEq, Prod.mk.injEq] at H
    obtain ⟨rfl, rfl, rfl⟩ := H
    go_wp2
    go_ret3
    exact ⟨_, _, by rfl, by exact Kd.R_nil _ _ _ _ _, by exact Kd.R_nil _ _ _ _ _, by repeat ((with_reducible exact HB.out))⟩
   ·replace c21 := Bool.eq_false_iff.mpr c21
    subst c21
    have H1 : (rect_Cut.l0 kj4 a1 ([] : List (S23)) ([] : List (S23)) t247 l2 (l2.length : Int) 0 t247 t248 t249 t250) = some (r1, r2, r3) := by rw [if_neg (show ¬ (false = true) by decide)] at H; exact H
    clear H
    have H := H1
    clear H1
    have H' := Aside0.mk H
    clear H
    have hnb22 := NB252_246.out
    have hnc22 := NB246_252.out
    have hcz23_0 : wc.cell? ⟨gb252, 0, none⟩ = some (.int .i64 t247) := (blk_cell BK252.out 0).trans rfl
    have hcz23_1 : wc.cell? ⟨gb252, 1, none⟩ = some (.int .i64 t248) := (blk_cell BK252.out 1).trans rfl
    have hcz23_2 : wc.cell? ⟨gb252, 2, none⟩ = some (.int .i64 t249) := (blk_cell BK252.out 2).trans rfl
    have hcz23_3 : wc.cell? ⟨gb252, 3, none⟩ = some (.int .i64 t250) := (blk_cell BK252.out 3).trans rfl
    have hfz23_0 := blk_frozen BK252.out 0
    have hfz23_1 := blk_frozen BK252.out 1
    have hfz23_2 := blk_frozen BK252.out 2
    have hfz23_3 := blk_frozen BK252.out 3
    go_wp2
    go_loopg [11, 12, 13, 42] kj4 (fun kq v11 v12 v13 v42 w' => ∃ (x11_2 : List (S23)) (x12_2 : List (S23)) (x13_2 : Int) (x42_2 : Int), v13 = .int .i64 x13_2 ∧ v42 = .int .i64 x42_2 ∧ Aside0 (rect_Cut.l0 kq a1 x11_2 x12_2 x13_2 l2 (l2.length : Int) x42_2 t247 t248 t249 t250 = some (r1, r2, r3)) ∧ Aside0 (kq ≤ kj4) ∧ Aside0 (Kd.R k23 23 w' w.heap.size (fun k_ => some k_ ≠ (v12 : Value).ownBlock ∧ k_ ≠ gb246 ∧ k_ ≠ gb252) v11 x11_2) ∧ Aside0 (Kd.R k23 23 w' w.heap.size (fun k_ => some k_ ≠ (v11 : Value).ownBlock ∧ k_ ≠ gb246 ∧ k_ ≠ gb252) v12 x12_2) ∧ Aside0 (w'.heap[gb246]? = some (.cells #[.int .i64 a0_0, .int .i64 a0_1, .int .i64 a0_2, .int .i64 a0_3] 23 (0, 0))) ∧ Aside0 (w'.heap[gb252]? = some (.cells #[.int .i64 t247, .int .i64 t248, .int .i64 t249, .int .i64 t250] 23 (0, 0))) ∧ Aside0 (Below w.heap.size w w'))
    case atStart => exact ⟨(([] : List (S23))), (([] : List (S23))), (t247), (0), (by rfl), (by rfl), H', ⟨Nat.le_refl _⟩, ⟨by exact Kd.R_nil _ _ _ _ _⟩, ⟨by exact Kd.R_nil _ _ _ _ _⟩, ⟨by exact BK246.out⟩, ⟨by exact BK252.out⟩, ⟨by repeat ((with_reducible exact HB.out))⟩⟩
    case round =>
     clear H'
     clear hcz23_0 hcz23_1 hcz23_2 hcz23_3 hfz23_0 hfz23_1 hfz23_2 hfz23_3
     obtain ⟨x11_2, x12_2, x13_2, x42_2, rfl, rfl, HA, HK2, HO_11, HO_12, BK246, BK252, HB⟩ := hrel
     cases gk with
     | zero => exact absurd HA.out (by simp [rect_Cut.l0])
     | succ k2 =>
      have H := HA.out
      clear HA
      simp only [rect_Cut.l0] at H
      by_cases c24 : x42_2 < (l2.length : Int)
      ·rw [if_pos c24] at H
       have c24b0 : decide (x42_2 < (l2.length : Int)) = true := decide_eq_true c24
       clear c24
       by_cases c25 : 0 ≤ x42_2
       ·rw [if_pos c25] at H
        have c25b0 : decide (0 ≤ x42_2) = true := decide_eq_true c25
        clear c25
        by_cases c26 : x42_2 < (l2.length : Int)
        ·rw [if_pos c26] at H
         have c26b0 : decide (x42_2 < (l2.length : Int)) = true := decide_eq_true c26
         clear c26
         by_cases c27 : x42_2 > 0
         ·rw [if_pos c27] at H
          have c27b0 : decide (0 < x42_2) = true := decide_eq_true c27
          clear c27
          replace H := Option.bind_eq_some_iff.mp H
          obtain ⟨⟨t255, t256, t257, t258, t259⟩, A280, H⟩ := H
          replace H : (if x12_2.length < 4398046511104 then (if (rd l2 x42_2) < 1 then (some (([] : List (S23)), ([] : List (S23)), false)) else (if (rd l2 x42_2) > (wrap64 ((wrap64 (t247 + t249)) - (wrap64 (x13_2 + 1)))) then (some (([] : List (S23)), ([] : List (S23)), false)) else ((rect_turned.f (wrap64 (x13_2 + 1)) t248 (rd l2 x42_2) t250 a1).bind fun bt264 => (if x11_2.length < 4398046511104 then (rect_Cut.l0 k2 a1 (x11_2 ++ [(⟨bt264.1, bt264.2.1, bt264.2.2.1, bt264.2.2.2.1⟩ : S23)]) (x12_2 ++ [(⟨t255, t256, t257, t258⟩ : S23)]) (wrap64 ((wrap64 (x13_2 + 1)) + (rd l2 x42_2))) l2 (l2.length : Int) (wrap64 (x42_2 + 1)) t247 t248 t249 t250) else (none))))) else (none)) = some (r1, r2, r3) := H
          have A28 := Aside0.mk A280
          clear A280
          by_cases c29 : x12_2.length < 4398046511104
          ·rw [if_pos c29] at H
           have LMc29 := Aside0.mk c29
           clear c29
           obtain ⟨y261, hy261⟩ : ∃ y_ : List (S23), y_ = (x12_2 ++ [(⟨t255, t256, t257, t258⟩ : S23)]) := ⟨_, rfl⟩
           replace H : (if (rd l2 x42_2) < 1 then (some (([] : List (S23)), ([] : List (S23)), false)) else (if (rd l2 x42_2) > (wrap64 ((wrap64 (t247 + t249)) - (wrap64 (x13_2 + 1)))) then (some (([] : List (S23)), ([] : List (S23)), false)) else ((rect_turned.f (wrap64 (x13_2 + 1)) t248 (rd l2 x42_2) t250 a1).bind fun bt264 => (if x11_2.length < 4398046511104 then (rect_Cut.l0 k2 a1 (x11_2 ++ [(⟨bt264.1, bt264.2.1, bt264.2.2.1, bt264.2.2.2.1⟩ : S23)]) y261 (wrap64 ((wrap64 (x13_2 + 1)) + (rd l2 x42_2))) l2 (l2.length : Int) (wrap64 (x42_2 + 1)) t247 t248 t249 t250) else (none))))) = some (r1, r2, r3) := by (rw [hy261]; with_reducible exact H)
           have Ny261 := Aside0.mk hy261
           clear hy261
           by_cases c30 : (rd l2 x42_2) < 1
           ·rw [if_pos c30] at H
            have c30b0 : decide ((rd l2 x42_2) < 1) = true := decide_eq_true c30
            clear c30
            simp only [Option.some.injEq, Prod.mk.injEq] at H
            obtain ⟨rfl, rfl, rfl⟩ := H
            have p254 : 0 ≤ (x42_2 : Int) := of_decide_eq_true (by (with_reducible assumption))
            have q254 : x42_2 < (l2.length : Int) := of_decide_eq_true (by (with_reducible assumption))
            obtain ⟨ad254, e254, hx254_0⟩ := Kd.at_int HR2.out x42_2 p254 q254
            cases e254
            replace hx254_0 := (HB.out.cell (World.block_lt_of_cell? w _ hx254_0)).trans hx254_0
            replace p254 := eq_true p254
            replace q254 := eq_true q254
            have hnb31 := NB252_246.out
            have hnc31 := NB246_252.out
            have hcz32_0 : wr.cell? ⟨gb252, 0, none⟩ = some (.int .i64 t247) := (blk_cell BK252.out 0).trans rfl
            have hcz32_1 : wr.cell? ⟨gb252, 1, none⟩ = some (.int .i64 t248) := (blk_cell BK252.out 1).trans rfl
            have hcz32_2 : wr.cell? ⟨gb252, 2, none⟩ = some (.int .i64 t249) := (blk_cell BK252.out 2).trans rfl
            have hcz32_3 : wr.cell? ⟨gb252, 3, none⟩ = some (.int .i64 t250) := (blk_cell BK252.out 3).trans rfl
            have hfz32_0 := blk_frozen BK252.out 0
            have hfz32_1 := blk_frozen BK252.out 1
            have hfz32_2 := blk_frozen BK252.out 2
            have hfz32_3 := blk_frozen BK252.out 3
            go_wp2_with (first | ((with_reducible refine gate_callee (f := 127) rfl ?_); refine goesL_ (some 57) rfl rfl Try.func127 (by kernel_rfl) rfl #[.agg #[.int .i64 x13_2, .int .i64 t248, .int .i64 1, .int .i64 t250], .int .u8 a1] rfl (by (try simp only [List.map_toArray, List.map_cons, List.map_nil]); rfl) ?_; (with_reducible refine (rect_turned.calls x13_2 t248 1 t250 a1 t255 t256 t257 t258 t259 _ A28.out).mono ?_); rintro e w33 ⟨rfl, hb⟩; refine ⟨_, rfl, ?_⟩; replace HO_11 := Aside0.mk (Kd.R_below HO_11.out hb); replace HO_12 := Aside0.mk (Kd.R_below HO_12.out hb); replace BK246 := Aside0.mk (blk_below BK246.out hb); replace BK252 := Aside0.mk (blk_below BK252.out hb); replace HB := Aside0.mk (below_step (by repeat ((with_reducible exact HB.out))) hb); (try clear hb)) | ((with_reducible refine gate_dst (N := 16) rfl ?_); (try (refine gate_guard (by rfl) ?_; dsimp only)); refine box_event ?hg (N := 16) ?hd (cs := #[.int .i64 0, .int .i64 0, .int .i64 0, .int .i64 0]) (t := 23) ?hr ?_; (case hd => rfl); (case hg => rfl); (case hr => (go_simp; done)); intro gb260 hg w34 hbox hb; have BK260 := Aside0.mk (hbox); have GE260 := Aside0.mk ((by rw [hg]; exact (below_size (by repeat ((with_reducible exact HB.out)))) : w.heap.size ≤ gb260)); have NB246_260 := Aside0.mk ((by rw [hg]; exact Nat.ne_of_lt (blk_lt BK246.out) : gb246 ≠ gb260)); have NB260_246 := Aside0.mk ((by rw [hg]; exact Nat.ne_of_gt (blk_lt BK246.out) : gb260 ≠ gb246)); have NB252_260 := Aside0.mk ((by rw [hg]; exact Nat.ne_of_lt (blk_lt BK252.out) : gb252 ≠ gb260)); have NB260_252 := Aside0.mk ((by rw [hg]; exact Nat.ne_of_gt (blk_lt BK252.out) : gb260 ≠ gb252)); replace HO_11 := Aside0.mk (Kd.R_below (Kd.R_elderB HO_11.out gb260 (Nat.le_of_eq hg.symm)) hb); replace HO_12 := Aside0.mk (Kd.R_below (Kd.R_elderB HO_12.out gb260 (Nat.le_of_eq hg.symm)) hb); replace BK246 := Aside0.mk (blk_below BK246.out hb); replace BK252 := Aside0.mk (blk_below BK252.out hb); replace HB := Aside0.mk (below_step (by repeat ((with_reducible exact HB.out))) hb); clear hb hbox hg; have hnb35 := NB260_246.out; have hnc35 := NB246_260.out; have hnb36 := NB260_252.out; have hnc36 := NB252_260.out; have hcz37_0 : w34.cell? ⟨gb260, 0, none⟩ = some (.int .i64 0) := (blk_cell BK260.out 0).trans rfl; have hcz37_1 : w34.cell? ⟨gb260, 1, none⟩ = some (.int .i64 0) := (blk_cell BK260.out 1).trans rfl; have hcz37_2 : w34.cell? ⟨gb260, 2, none⟩ = some (.int .i64 0) := (blk_cell BK260.out 2).trans rfl; have hcz37_3 : w34.cell? ⟨gb260, 3, none⟩ = some (.int .i64 0) := (blk_cell BK260.out 3).trans rfl; have hfz37_0 := blk_frozen BK260.out 0; have hfz37_1 := blk_frozen BK260.out 1; have hfz37_2 := blk_frozen BK260.out 2; have hfz37_3 := blk_frozen BK260.out 3) | ((with_reducible refine gate_builtin (b := .append) (xs := #[.tmp 60, .tmp 62]) rfl ?_); (try (refine gate_guard (by rfl) ?_; dsimp only)); at_builtin; refine Kd.R_append k23 (w0 := w) w.heap.size rfl (.tmp 60) (.tmp 62) 42 23 (.agg #[(.int .i64 0), (.int .i64 0), (.int .i64 0), (.int .i64 0)]) 32 rfl Try.underlying42 info23 rfl (by decide) (by omega) u12 x12_2 (⟨t255, t256, t257, t258⟩ : S23) [.int .i64 t255, .int .i64 t256, .int .i64 t257, .int .i64 t258] (fun k_ => some k_ ≠ (u11 : Value).ownBlock ∧ k_ ≠ gb246 ∧ k_ ≠ gb252 ∧ k_ ≠ gb260) (fun _ => False) rfl (by (go_simp; done)) ?aP (fun _ hk => hk.elim) ?aF ?aO ?aB ?aS ?aL ?_; (case aP => exact k23_mkM _ _ _ (⟨t255, t256, t257, t258⟩ : S23)); (case aB => exact (by repeat ((with_reducible first | exact HB.out | refine below_set ?_ GE260.out)))); (case aF => exact (fun k_ hk => ⟨Kd.fresh' (Kd.R_lt (by exact (Kd.R_mono (Kd.R_far (p := ⟨gb260, 3, none⟩) (Kd.R_far (p := ⟨gb260, 2, none⟩) (Kd.R_far (p := ⟨gb260, 1, none⟩) (Kd.R_far (p := ⟨gb260, 0, none⟩) (Kd.R_mono HO_11.out (fun k_ hk => (⟨hk, hk.2⟩ : _ ∧ k_ ≠ gb260))) (fun _ hk => hk.2) (.int .i64 t255)) (fun _ hk => hk.2) (.int .i64 t256)) (fun _ hk => hk.2) (.int .i64 t257)) (fun _ hk => hk.2) (.int .i64 t258)) (fun _ h_ => h_.1)))) k_ hk, Kd.freshB (g := gb246) (o := .cells #[.int .i64 a0_0, .int .i64 a0_1, .int .i64 a0_2, .int .i64 a0_3] 23 (0, 0)) (by refine blk_far ?_ NB246_260.out _; refine blk_far ?_ NB246_260.out _; refine blk_far ?_ NB246_260.out _; refine blk_far ?_ NB246_260.out _; exact BK246.out) k_ hk, Kd.freshB (g := gb252) (o := .cells #[.int .i64 t247, .int .i64 t248, .int .i64 t249, .int .i64 t250] 23 (0, 0)) (by refine blk_far ?_ NB252_260.out _; refine blk_far ?_ NB252_260.out _; refine blk_far ?_ NB252_260.out _; refine blk_far ?_ NB252_260.out _; exact BK252.out) k_ hk, Kd.freshB (g := gb260) (o := .cells #[.int .i64 t255, .int .i64 t256, .int .i64 t257, .int .i64 t258] 23 (0, 0)) (by refine blk_put (cs := #[.int .i64 t255, .int .i64 t256, .int .i64 t257, .int .i64 0]) ?_ 3 _ rfl; refine blk_put (cs := #[.int .i64 t255, .int .i64 t256, .int .i64 0, .int .i64 0]) ?_ 2 _ rfl; refine blk_put (cs := #[.int .i64 t255, .int .i64 0, .int .i64 0, .int .i64 0]) ?_ 1 _ rfl; refine blk_put (cs := #[.int .i64 0, .int .i64 0, .int .i64 0, .int .i64 0]) ?_ 0 _ rfl; exact BK260.out) k_ hk⟩)); (case aO => exact (by exact Kd.R_mono (Kd.R_far (p := ⟨gb260, 3, none⟩) (Kd.R_far (p := ⟨gb260, 2, none⟩) (Kd.R_far (p := ⟨gb260, 1, none⟩) (Kd.R_far (p := ⟨gb260, 0, none⟩) (Kd.R_mono HO_12.out (fun k_ hk => (⟨hk, hk.2⟩ : _ ∧ k_ ≠ gb260))) (fun _ hk => hk.2) (.int .i64 t255)) (fun _ hk => hk.2) (.int .i64 t256)) (fun _ hk => hk.2) (.int .i64 t257)) (fun _ hk => hk.2) (.int .i64 t258)) (fun _ hk => ⟨hk.1.1.1, ⟨hk.1.1.2.1, ⟨hk.1.1.2.2, hk.1.2⟩⟩⟩))); (case aS => exact (below_size (by repeat ((with_reducible first | exact HB.out | refine below_set ?_ GE260.out))))); (case aL => have := LMc29.out; omega); intro v262 w38 ho hb hg hat; rw [← Ny261.out] at ho; have HO263 := Aside0.mk (ho); replace HO_11 := Aside0.mk (Kd.R_after (ok := (fun k_ => k_ ≠ gb246 ∧ k_ ≠ gb252 ∧ k_ ≠ gb260)) (by exact Kd.R_mono (Kd.R_far (p := ⟨gb260, 3, none⟩) (Kd.R_far (p := ⟨gb260, 2, none⟩) (Kd.R_far (p := ⟨gb260, 1, none⟩) (Kd.R_far (p := ⟨gb260, 0, none⟩) (Kd.R_mono HO_11.out (fun k_ hk => (⟨hk, hk.2⟩ : _ ∧ k_ ≠ gb260))) (fun _ hk => hk.2) (.int .i64 t255)) (fun _ hk => hk.2) (.int .i64 t256)) (fun _ hk => hk.2) (.int .i64 t257)) (fun _ hk => hk.2) (.int .i64 t258)) (fun _ hk => ⟨⟨hk.1.1.2.1, ⟨hk.1.1.2.2, hk.1.2⟩⟩, hk.1.1.1⟩)) hg hat); replace BK246 := Aside0.mk (blk_grown (g := gb246) (o := .cells #[.int .i64 a0_0, .int .i64 a0_1, .int .i64 a0_2, .int .i64 a0_3] 23 (0, 0)) (by refine blk_far ?_ NB246_260.out _; refine blk_far ?_ NB246_260.out _; refine blk_far ?_ NB246_260.out _; refine blk_far ?_ NB246_260.out _; exact BK246.out) hg (Kd.R_away HO_12.out (fun _ hk => hk.1.2.1))); replace BK252 := Aside0.mk (blk_grown (g := gb252) (o := .cells #[.int .i64 t247, .int .i64 t248, .int .i64 t249, .int .i64 t250] 23 (0, 0)) (by refine blk_far ?_ NB252_260.out _; refine blk_far ?_ NB252_260.out _; refine blk_far ?_ NB252_260.out _; refine blk_far ?_ NB252_260.out _; exact BK252.out) hg (Kd.R_away HO_12.out (fun _ hk => hk.1.2.2))); replace BK260 := Aside0.mk (blk_grown (g := gb260) (o := .cells #[.int .i64 t255, .int .i64 t256, .int .i64 t257, .int .i64 t258] 23 (0, 0)) (by refine blk_put (cs := #[.int .i64 t255, .int .i64 t256, .int .i64 t257, .int .i64 0]) ?_ 3 _ rfl; refine blk_put (cs := #[.int .i64 t255, .int .i64 t256, .int .i64 0, .int .i64 0]) ?_ 2 _ rfl; refine blk_put (cs := #[.int .i64 t255, .int .i64 0, .int .i64 0, .int .i64 0]) ?_ 1 _ rfl; refine blk_put (cs := #[.int .i64 0, .int .i64 0, .int .i64 0, .int .i64 0]) ?_ 0 _ rfl; exact BK260.out) hg (Kd.R_away HO_12.out (fun _ hk => hk.2))); replace HB := Aside0.mk (hb); clear HO_12; clear ho hb hg hat))
            go_ret3
            exact ⟨_, _, by rfl, by exact Kd.R_nil _ _ _ _ _, by exact Kd.R_nil _ _ _ _ _, by repeat ((with_reducible exact HB.out))⟩
           ·rw [if_neg c30] at H
            have c30b0 : decide ((rd l2 x42_2) < 1) = false := decide_eq_false c30
            clear c30
            by_cases c39 : (rd l2 x42_2) > (wrap64 ((wrap64 (t247 + t249)) - (wrap64 (x13_2 + 1))))
            ·rw [if_pos c39] at H
             have c39b0 : decide ((wrap64 ((wrap64 (t247 + t249)) - (wrap64 (x13_2 + 1)))) < (rd l2 x42_2)) = true := decide_eq_true c39
             clear c39
             simp only [Option.some.injEq, Prod.mk.injEq] at H
             obtain ⟨rfl, rfl, rfl⟩ := H
             have p254 : 0 ≤ (x42_2 : Int) := of_decide_eq_true (by (with_reducible assumption))
             have q254 : x42_2 < (l2.length : Int) := of_decide_eq_true (by (with_reducible assumption))
             obtain ⟨ad254, e254, hx254_0⟩ := Kd.at_int HR2.out x42_2 p254 q254
             cases e254
             replace hx254_0 := (HB.out.cell (World.block_lt_of_cell? w _ hx254_0)).trans hx254_0
             replace p254 := eq_true p254
             replace q254 := eq_true q254
             have hnb40 := NB252_246.out
             have hnc40 := NB246_252.out
             have hcz41_0 : wr.cell? ⟨gb252, 0, none⟩ = some (.int .i64 t247) := (blk_cell BK252.out 0).trans rfl
             have hcz41_1 : wr.cell? ⟨gb252, 1, none⟩ = some (.int .i64 t248) := (blk_cell BK252.out 1).trans rfl
             have hcz41_2 : wr.cell? ⟨gb252, 2, none⟩ = some (.int .i64 t249) := (blk_cell BK252.out 2).trans rfl
             have hcz41_3 : wr.cell? ⟨gb252, 3, none⟩ = some (.int .i64 t250) := (blk_cell BK252.out 3).trans rfl
             have hfz41_0 := blk_frozen BK252.out 0
             have hfz41_1 := blk_frozen BK252.out 1
             have hfz41_2 := blk_frozen BK252.out 2
             have hfz41_3 := blk_frozen BK252.out 3
             go_wp2_with (first | ((with_reducible refine gate_callee (f := 127) rfl ?_); refine goesL_ (some 57) rfl rfl Try.func127 (by kernel_rfl) rfl #[.agg #[.int .i64 x13_2, .int .i64 t248, .int .i64 1, .int .i64 t250], .int .u8 a1] rfl (by (try simp only [List.map_toArray, List.map_cons, List.map_nil]); rfl) ?_; (with_reducible refine (rect_turned.calls x13_2 t248 1 t250 a1 t255 t256 t257 t258 t259 _ A28.out).mono ?_); rintro e w42 ⟨rfl, hb⟩; refine ⟨_, rfl, ?_⟩; replace HO_11 := Aside0.mk (Kd.R_below HO_11.out hb); replace HO_12 := Aside0.mk (Kd.R_below HO_12.out hb); replace BK246 := Aside0.mk (blk_below BK246.out hb); replace BK252 := Aside0.mk (blk_below BK252.out hb); replace HB := Aside0.mk (below_step (by repeat ((with_reducible exact HB.out))) hb); (try clear hb)) | ((with_reducible refine gate_dst (N := 16) rfl ?_); (try (refine gate_guard (by rfl) ?_; dsimp only)); refine box_event ?hg (N := 16) ?hd (cs := #[.int .i64 0, .int .i64 0, .int .i64 0, .int .i64 0]) (t := 23) ?hr ?_; (case hd => rfl); (case hg => rfl); (case hr => (go_simp; done)); intro gb260 hg w43 hbox hb; have BK260 := Aside0.mk (hbox); have GE260 := Aside0.mk ((by rw [hg]; exact (below_size (by repeat ((with_reducible exact HB.out)))) : w.heap.size ≤ gb260)); have NB246_260 := Aside0.mk ((by rw [hg]; exact Nat.ne_of_lt (blk_lt BK246.out) : gb246 ≠ gb260)); have NB260_246 := Aside0.mk ((by rw [hg]; exact Nat.ne_of_gt (blk_lt BK246.out) : gb260 ≠ gb246)); have NB252_260 := Aside0.mk ((by rw [hg]; exact Nat.ne_of_lt (blk_lt BK252.out) : gb252 ≠ gb260)); have NB260_252 := Aside0.mk ((by rw [hg]; exact Nat.ne_of_gt (blk_lt BK252.out) : gb260 ≠ gb252)); replace HO_11 := Aside0.mk (Kd.R_below (Kd.R_elderB HO_11.out gb260 (Nat.le_of_eq hg.symm)) hb); replace HO_12 := Aside0.mk (Kd.R_below (Kd.R_elderB HO_12.out gb260 (Nat.le_of_eq hg.symm)) hb); replace BK246 := Aside0.mk (blk_below BK246.out hb); replace BK252 := Aside0.mk (blk_below BK252.out hb); replace HB := Aside0.mk (below_step (by repeat ((with_reducible exact HB.out))) hb); clear hb hbox hg; have hnb44 := NB260_246.out; have hnc44 := NB246_260.out; have hnb45 := NB260_252.out; have hnc45 := NB252_260.out; have hcz46_0 : w43.cell? ⟨gb260, 0, none⟩ = some (.int .i64 0) := (blk_cell BK260.out 0).trans rfl; have hcz46_1 : w43.cell? ⟨gb260, 1, none⟩ = some (.int .i64 0) := (blk_cell BK260.out 1).trans rfl; have hcz46_2 : w43.cell? ⟨gb260, 2, none⟩ = some (.int .i64 0) := (blk_cell BK260.out 2).trans rfl; have hcz46_3 : w43.cell? ⟨gb260, 3, none⟩ = some (.int .i64 0) := (blk_cell BK260.out 3).trans rfl; have hfz46_0 := blk_frozen BK260.out 0; have hfz46_1 := blk_frozen BK260.out 1; have hfz46_2 := blk_frozen BK260.out 2; have hfz46_3 := blk_frozen BK260.out 3) | ((with_reducible refine gate_builtin (b := .append) (xs := #[.tmp 60, .tmp 62]) rfl ?_); (try (refine gate_guard (by rfl) ?_; dsimp only)); at_builtin; refine Kd.R_append k23 (w0 := w) w.heap.size rfl (.tmp 60) (.tmp 62) 42 23 (.agg #[(.int .i64 0), (.int .i64 0), (.int .i64 0), (.int .i64 0)]) 32 rfl Try.underlying42 info23 rfl (by decide) (by omega) u12 x12_2 (⟨t255, t256, t257, t258⟩ : S23) [.int .i64 t255, .int .i64 t256, .int .i64 t257, .int .i64 t258] (fun k_ => some k_ ≠ (u11 : Value).ownBlock ∧ k_ ≠ gb246 ∧ k_ ≠ gb252 ∧ k_ ≠ gb260) (fun _ => False) rfl (by (go_simp; done)) ?aP (fun _ hk => hk.elim) ?aF ?aO ?aB ?aS ?aL ?_; (case aP => exact k23_mkM _ _ _ (⟨t255, t256, t257, t258⟩ : S23)); (case aB => exact (by repeat ((with_reducible first | exact HB.out | refine below_set ?_ GE260.out)))); (case aF => exact (fun k_ hk => ⟨Kd.fresh' (Kd.R_lt (by exact (Kd.R_mono (Kd.R_far (p := ⟨gb260, 3, none⟩) (Kd.R_far (p := ⟨gb260, 2, none⟩) (Kd.R_far (p := ⟨gb260, 1, none⟩) (Kd.R_far (p := ⟨gb260, 0, none⟩) (Kd.R_mono HO_11.out (fun k_ hk => (⟨hk, hk.2⟩ : _ ∧ k_ ≠ gb260))) (fun _ hk => hk.2) (.int .i64 t255)) (fun _ hk => hk.2) (.int .i64 t256)) (fun _ hk => hk.2) (.int .i64 t257)) (fun _ hk => hk.2) (.int .i64 t258)) (fun _ h_ => h_.1)))) k_ hk, Kd.freshB (g := gb246) (o := .cells #[.int .i64 a0_0, .int .i64 a0_1, .int .i64 a0_2, .int .i64 a0_3] 23 (0, 0)) (by refine blk_far ?_ NB246_260.out _; refine blk_far ?_ NB246_260.out _; refine blk_far ?_ NB246_260.out _; refine blk_far ?_ NB246_260.out _; exact BK246.out) k_ hk, Kd.freshB (g := gb252) (o := .cells #[.int .i64 t247, .int .i64 t248, .int .i64 t249, .int .i64 t250] 23 (0, 0)) (by refine blk_far ?_ NB252_260.out _; refine blk_far ?_ NB252_260.out _; refine blk_far ?_ NB252_260.out _; refine blk_far ?_ NB252_260.out _; exact BK252.out) k_ hk, Kd.freshB (g := gb260) (o := .cells #[.int .i64 t255, .int .i64 t256, .int .i64 t257, .int .i64 t258] 23 (0, 0)) (by refine blk_put (cs := #[.int .i64 t255, .int .i64 t256, .int .i64 t257, .int .i64 0]) ?_ 3 _ rfl; refine blk_put (cs := #[.int .i64 t255, .int .i64 t256, .int .i64 0, .int .i64 0]) ?_ 2 _ rfl; refine blk_put (cs := #[.int .i64 t255, .int .i64 0, .int .i64 0, .int .i64 0]) ?_ 1 _ rfl; refine blk_put (cs := #[.int .i64 0, .int .i64 0, .int .i64 0, .int .i64 0]) ?_ 0 _ rfl; exact BK260.out) k_ hk⟩)); (case aO => exact (by exact Kd.R_mono (Kd.R_far (p := ⟨gb260, 3, none⟩) (Kd.R_far (p := ⟨gb260, 2, none⟩) (Kd.R_far (p := ⟨gb260, 1, none⟩) (Kd.R_far (p := ⟨gb260, 0, none⟩) (Kd.R_mono HO_12.out (fun k_ hk => (⟨hk, hk.2⟩ : _ ∧ k_ ≠ gb260))) (fun _ hk => hk.2) (.int .i64 t255)) (fun _ hk => hk.2) (.int .i64 t256)) (fun _ hk => hk.2) (.int .i64 t257)) (fun _ hk => hk.2) (.int .i64 t258)) (fun _ hk => ⟨hk.1.1.1, ⟨hk.1.1.2.1, ⟨hk.1.1.2.2, hk.1.2⟩⟩⟩))); (case aS => exact (below_size (by repeat ((with_reducible first | exact HB.out | refine below_set ?_ GE260.out))))); (case aL => have := LMc29.out; omega); intro v262 w47 ho hb hg hat; rw [← Ny261.out] at ho; have HO263 := Aside0.mk (ho); replace HO_11 := Aside0.mk (Kd.R_after (ok := (fun k_ => k_ ≠ gb246 ∧ k_ ≠ gb252 ∧ k_ ≠ gb260)) (by exact Kd.R_mono (Kd.R_far (p := ⟨gb260, 3, none⟩) (Kd.R_far (p := ⟨gb260, 2, none⟩) (Kd.R_far (p := ⟨gb260, 1, none⟩) (Kd.R_far (p := ⟨gb260, 0, none⟩) (Kd.R_mono HO_11.out (fun k_ hk => (⟨hk, hk.2⟩ : _ ∧ k_ ≠ gb260))) (fun _ hk => hk.2) (.int .i64 t255)) (fun _ hk => hk.2) (.int .i64 t256)) (fun _ hk => hk.2) (.int .i64 t257)) (fun _ hk => hk.2) (.int .i64 t258)) (fun _ hk => ⟨⟨hk.1.1.2.1, ⟨hk.1.1.2.2, hk.1.2⟩⟩, hk.1.1.1⟩)) hg hat); replace BK246 := Aside0.mk (blk_grown (g := gb246) (o := .cells #[.int .i64 a0_0, .int .i64 a0_1, .int .i64 a0_2, .int .i64 a0_3] 23 (0, 0)) (by refine blk_far ?_ NB246_260.out _; refine blk_far ?_ NB246_260.out _; refine blk_far ?_ NB246_260.out _; refine blk_far ?_ NB246_260.out _; exact BK246.out) hg (Kd.R_away HO_12.out (fun _ hk => hk.1.2.1))); replace BK252 := Aside0.mk (blk_grown (g := gb252) (o := .cells #[.int .i64 t247, .int .i64 t248, .int .i64 t249, .int .i64 t250] 23 (0, 0)) (by refine blk_far ?_ NB252_260.out _; refine blk_far ?_ NB252_260.out _; refine blk_far ?_ NB252_260.out _; refine blk_far ?_ NB252_260.out _; exact BK252.out) hg (Kd.R_away HO_12.out (fun _ hk => hk.1.2.2))); replace BK260 := Aside0.mk (blk_grown (g := gb260) (o := .cells #[.int .i64 t255, .int .i64 t256, .int .i64 t257, .int .i64 t258] 23 (0, 0)) (by refine blk_put (cs := #[.int .i64 t255, .int .i64 t256, .int .i64 t257, .int .i64 0]) ?_ 3 _ rfl; refine blk_put (cs := #[.int .i64 t255, .int .i64 t256, .int .i64 0, .int .i64 0]) ?_ 2 _ rfl; refine blk_put (cs := #[.int .i64 t255, .int .i64 0, .int .i64 0, .int .i64 0]) ?_ 1 _ rfl; refine blk_put (cs := #[.int .i64 0, .int .i64 0, .int .i64 0, .int .i64 0]) ?_ 0 _ rfl; exact BK260.out) hg (Kd.R_away HO_12.out (fun _ hk => hk.2))); replace HB := Aside0.mk (hb); clear HO_12; clear ho hb hg hat; have hcz48_0 : w47.cell? ⟨gb252, 0, none⟩ = some (.int .i64 t247) := (blk_cell BK252.out 0).trans rfl; have hcz48_1 : w47.cell? ⟨gb252, 1, none⟩ = some (.int .i64 t248) := (blk_cell BK252.out 1).trans rfl; have hcz48_2 : w47.cell? ⟨gb252, 2, none⟩ = some (.int .i64 t249) := (blk_cell BK252.out 2).trans rfl; have hcz48_3 : w47.cell? ⟨gb252, 3, none⟩ = some (.int .i64 t250) := (blk_cell BK252.out 3).trans rfl; have hfz48_0 := blk_frozen BK252.out 0; have hfz48_1 := blk_frozen BK252.out 1; have hfz48_2 := blk_frozen BK252.out 2; have hfz48_3 := blk_frozen BK252.out 3))
             go_ret3
             exact ⟨_, _, by rfl, by exact Kd.R_nil _ _ _ _ _, by exact Kd.R_nil _ _ _ _ _, by repeat ((with_reducible exact HB.out))⟩
            ·rw [if_neg c39] at H
             have c39b0 : decide ((wrap64 ((wrap64 (t247 + t249)) - (wrap64 (x13_2 + 1)))) < (rd l2 x42_2)) = false := decide_eq_false c39
             clear c39
             replace H := Option.bind_eq_some_iff.mp H
             obtain ⟨⟨t264, t265, t266, t267, t268⟩, A490, H⟩ := H
             replace H : (if x11_2.length < 4398046511104 then (rect_Cut.l0 k2 a1 (x11_2 ++ [(⟨t264, t265, t266, t267⟩ : S23)]) y261 (wrap64 ((wrap64 (x13_2 + 1)) + (rd l2 x42_2))) l2 (l2.length : Int) (wrap64 (x42_2 + 1)) t247 t248 t249 t250) else (none)) = some (r1, r2, r3) := H
             have A49 := Aside0.mk A490
             clear A490
             by_cases c50 : x11_2.length < 4398046511104
             ·rw [if_pos c50] at H
              have LMc50 := Aside0.mk c50
              clear c50
              obtain ⟨y270, hy270⟩ : ∃ y_ : List (S23), y_ = (x11_2 ++ [(⟨t264, t265, t266, t267⟩ : S23)]) := ⟨_, rfl⟩
              replace H : (rect_Cut.l0 k2 a1 y270 y261 (wrap64 ((wrap64 (x13_2 + 1)) + (rd l2 x42_2))) l2 (l2.length : Int) (wrap64 (x42_2 + 1)) t247 t248 t249 t250) = some (r1, r2, r3) := by (rw [hy270]; with_reducible exact H)
              have Ny270 := Aside0.mk hy270
              clear hy270
              have H' := Aside0.mk H
              clear H
              have p254 : 0 ≤ (x42_2 : Int) := of_decide_eq_true (by (with_reducible assumption))
              have q254 : x42_2 < (l2.length : Int) := of_decide_eq_true (by (with_reducible assumption))
              obtain ⟨ad254, e254, hx254_0⟩ := Kd.at_int HR2.out x42_2 p254 q254
              cases e254
              replace hx254_0 := (HB.out.cell (World.block_lt_of_cell? w _ hx254_0)).trans hx254_0
              replace p254 := eq_true p254
              replace q254 := eq_true q254
              have hnb51 := NB252_246.out
              have hnc51 := NB246_252.out
              have hcz52_0 : wr.cell? ⟨gb252, 0, none⟩ = some (.int .i64 t247) := (blk_cell BK252.out 0).trans rfl
              have hcz52_1 : wr.cell? ⟨gb252, 1, none⟩ = some (.int .i64 t248) := (blk_cell BK252.out 1).trans rfl
              have hcz52_2 : wr.cell? ⟨gb252, 2, none⟩ = some (.int .i64 t249) := (blk_cell BK252.out 2).trans rfl
              have hcz52_3 : wr.cell? ⟨gb252, 3, none⟩ = some (.int .i64 t250) := (blk_cell BK252.out 3).trans rfl
              have hfz52_0 := blk_frozen BK252.out 0
              have hfz52_1 := blk_frozen BK252.out 1
              have hfz52_2 := blk_frozen BK252.out 2
              have hfz52_3 := blk_frozen BK252.out 3
              go_wp2_with (first | ((with_reducible refine gate_callee (f := 127) rfl ?_); refine goesL_ (some 57) rfl rfl Try.func127 (by kernel_rfl) rfl #[.agg #[.int .i64 x13_2, .int .i64 t248, .int .i64 1, .int .i64 t250], .int .u8 a1] rfl (by (try simp only [List.map_toArray, List.map_cons, List.map_nil]); rfl) ?_; (with_reducible refine (rect_turned.calls x13_2 t248 1 t250 a1 t255 t256 t257 t258 t259 _ A28.out).mono ?_); rintro e w53 ⟨rfl, hb⟩; refine ⟨_, rfl, ?_⟩; replace HO_11 := Aside0.mk (Kd.R_below HO_11.out hb); replace HO_12 := Aside0.mk (Kd.R_below HO_12.out hb); replace BK246 := Aside0.mk (blk_below BK246.out hb); replace BK252 := Aside0.mk (blk_below BK252.out hb); replace HB := Aside0.mk (below_step (by repeat ((with_reducible exact HB.out))) hb); (try clear hb)) | ((with_reducible refine gate_dst (N := 16) rfl ?_); (try (refine gate_guard (by rfl) ?_; dsimp only)); refine box_event ?hg (N := 16) ?hd (cs := #[.int .i64 0, .int .i64 0, .int .i64 0, .int .i64 0]) (t := 23) ?hr ?_; (case hd => rfl); (case hg => rfl); (case hr => (go_simp; done)); intro gb260 hg w54 hbox hb; have BK260 := Aside0.mk (hbox); have GE260 := Aside0.mk ((by rw [hg]; exact (below_size (by repeat ((with_reducible exact HB.out)))) : w.heap.size ≤ gb260)); have NB246_260 := Aside0.mk ((by rw [hg]; exact Nat.ne_of_lt (blk_lt BK246.out) : gb246 ≠ gb260)); have NB260_246 := Aside0.mk ((by rw [hg]; exact Nat.ne_of_gt (blk_lt BK246.out) : gb260 ≠ gb246)); have NB252_260 := Aside0.mk ((by rw [hg]; exact Nat.ne_of_lt (blk_lt BK252.out) : gb252 ≠ gb260)); have NB260_252 := Aside0.mk ((by rw [hg]; exact Nat.ne_of_gt (blk_lt BK252.out) : gb260 ≠ gb252)); replace HO_11 := Aside0.mk (Kd.R_below (Kd.R_elderB HO_11.out gb260 (Nat.le_of_eq hg.symm)) hb); replace HO_12 := Aside0.mk (Kd.R_below (Kd.R_elderB HO_12.out gb260 (Nat.le_of_eq hg.symm)) hb); replace BK246 := Aside0.mk (blk_below BK246.out hb); replace BK252 := Aside0.mk (blk_below BK252.out hb); replace HB := Aside0.mk (below_step (by repeat ((with_reducible exact HB.out))) hb); clear hb hbox hg; have hnb55 := NB260_246.out; have hnc55 := NB246_260.out; have hnb56 := NB260_252.out; have hnc56 := NB252_260.out; have hcz57_0 : w54.cell? ⟨gb260, 0, none⟩ = some (.int .i64 0) := (blk_cell BK260.out 0).trans rfl; have hcz57_1 : w54.cell? ⟨gb260, 1, none⟩ = some (.int .i64 0) := (blk_cell BK260.out 1).trans rfl; have hcz57_2 : w54.cell? ⟨gb260, 2, none⟩ = some (.int .i64 0) := (blk_cell BK260.out 2).trans rfl; have hcz57_3 : w54.cell? ⟨gb260, 3, none⟩ = some (.int .i64 0) := (blk_cell BK260.out 3).trans rfl; have hfz57_0 := blk_frozen BK260.out 0; have hfz57_1 := blk_frozen BK260.out 1; have hfz57_2 := blk_frozen BK260.out 2; have hfz57_3 := blk_frozen BK260.out 3) | ((with_reducible refine gate_builtin (b := .append) (xs := #[.tmp 60, .tmp 62]) rfl ?_); (try (refine gate_guard (by rfl) ?_; dsimp only)); at_builtin; refine Kd.R_append k23 (w0 := w) w.heap.size rfl (.tmp 60) (.tmp 62) 42 23 (.agg #[(.int .i64 0), (.int .i64 0), (.int .i64 0), (.int .i64 0)]) 32 rfl Try.underlying42 info23 rfl (by decide) (by omega) u12 x12_2 (⟨t255, t256, t257, t258⟩ : S23) [.int .i64 t255, .int .i64 t256, .int .i64 t257, .int .i64 t258] (fun k_ => some k_ ≠ (u11 : Value).ownBlock ∧ k_ ≠ gb246 ∧ k_ ≠ gb252 ∧ k_ ≠ gb260) (fun _ => False) rfl (by (go_simp; done)) ?aP (fun _ hk => hk.elim) ?aF ?aO ?aB ?aS ?aL ?_; (case aP => exact k23_mkM _ _ _ (⟨t255, t256, t257, t258⟩ : S23)); (case aB => exact (by repeat ((with_reducible first | exact HB.out | refine below_set ?_ GE260.out)))); (case aF => exact (fun k_ hk => ⟨Kd.fresh' (Kd.R_lt (by exact (Kd.R_mono (Kd.R_far (p := ⟨gb260, 3, none⟩) (Kd.R_far (p := ⟨gb260, 2, none⟩) (Kd.R_far (p := ⟨gb260, 1, none⟩) (Kd.R_far (p := ⟨gb260, 0, none⟩) (Kd.R_mono HO_11.out (fun k_ hk => (⟨hk, hk.2⟩ : _ ∧ k_ ≠ gb260))) (fun _ hk => hk.2) (.int .i64 t255)) (fun _ hk => hk.2) (.int .i64 t256)) (fun _ hk => hk.2) (.int .i64 t257)) (fun _ hk => hk.2) (.int .i64 t258)) (fun _ h_ => h_.1)))) k_ hk, Kd.freshB (g := gb246) (o := .cells #[.int .i64 a0_0, .int .i64 a0_1, .int .i64 a0_2, .int .i64 a0_3] 23 (0, 0)) (by refine blk_far ?_ NB246_260.out _; refine blk_far ?_ NB246_260.out _; refine blk_far ?_ NB246_260.out _; refine blk_far ?_ NB246_260.out _; exact BK246.out) k_ hk, Kd.freshB (g := gb252) (o := .cells #[.int .i64 t247, .int .i64 t248, .int .i64 t249, .int .i64 t250] 23 (0, 0)) (by refine blk_far ?_ NB252_260.out _; refine blk_far ?_ NB252_260.out _; refine blk_far ?_ NB252_260.out _; refine blk_far ?_ NB252_260.out _; exact BK252.out) k_ hk, Kd.freshB (g := gb260) (o := .cells #[.int .i64 t255, .int .i64 t256, .int .i64 t257, .int .i64 t258] 23 (0, 0)) (by refine blk_put (cs := #[.int .i64 t255, .int .i64 t256, .int .i64 t257, .int .i64 0]) ?_ 3 _ rfl; refine blk_put (cs := #[.int .i64 t255, .int .i64 t256, .int .i64 0, .int .i64 0]) ?_ 2 _ rfl; refine blk_put (cs := #[.int .i64 t255, .int .i64 0, .int .i64 0, .int .i64 0]) ?_ 1 _ rfl; refine blk_put (cs := #[.int .i64 0, .int .i64 0, .int .i64 0, .int .i64 0]) ?_ 0 _ rfl; exact BK260.out) k_ hk⟩)); (case aO => exact (by exact Kd.R_mono (Kd.R_far (p := ⟨gb260, 3, none⟩) (Kd.R_far (p := ⟨gb260, 2, none⟩) (Kd.R_far (p := ⟨gb260, 1, none⟩) (Kd.R_far (p := ⟨gb260, 0, none⟩) (Kd.R_mono HO_12.out (fun k_ hk => (⟨hk, hk.2⟩ : _ ∧ k_ ≠ gb260))) (fun _ hk => hk.2) (.int .i64 t255)) (fun _ hk => hk.2) (.int .i64 t256)) (fun _ hk => hk.2) (.int .i64 t257)) (fun _ hk => hk.2) (.int .i64 t258)) (fun _ hk => ⟨hk.1.1.1, ⟨hk.1.1.2.1, ⟨hk.1.1.2.2, hk.1.2⟩⟩⟩))); (case aS => exact (below_size (by repeat ((with_reducible first | exact HB.out | refine below_set ?_ GE260.out))))); (case aL => have := LMc29.out; omega); intro v262 w58 ho hb hg hat; rw [← Ny261.out] at ho; have HO263 := Aside0.mk (ho); replace HO_11 := Aside0.mk (Kd.R_after (ok := (fun k_ => k_ ≠ gb246 ∧ k_ ≠ gb252 ∧ k_ ≠ gb260)) (by exact Kd.R_mono (Kd.R_far (p := ⟨gb260, 3, none⟩) (Kd.R_far (p := ⟨gb260, 2, none⟩) (Kd.R_far (p := ⟨gb260, 1, none⟩) (Kd.R_far (p := ⟨gb260, 0, none⟩) (Kd.R_mono HO_11.out (fun k_ hk => (⟨hk, hk.2⟩ : _ ∧ k_ ≠ gb260))) (fun _ hk => hk.2) (.int .i64 t255)) (fun _ hk => hk.2) (.int .i64 t256)) (fun _ hk => hk.2) (.int .i64 t257)) (fun _ hk => hk.2) (.int .i64 t258)) (fun _ hk => ⟨⟨hk.1.1.2.1, ⟨hk.1.1.2.2, hk.1.2⟩⟩, hk.1.1.1⟩)) hg hat); replace BK246 := Aside0.mk (blk_grown (g := gb246) (o := .cells #[.int .i64 a0_0, .int .i64 a0_1, .int .i64 a0_2, .int .i64 a0_3] 23 (0, 0)) (by refine blk_far ?_ NB246_260.out _; refine blk_far ?_ NB246_260.out _; refine blk_far ?_ NB246_260.out _; refine blk_far ?_ NB246_260.out _; exact BK246.out) hg (Kd.R_away HO_12.out (fun _ hk => hk.1.2.1))); replace BK252 := Aside0.mk (blk_grown (g := gb252) (o := .cells #[.int .i64 t247, .int .i64 t248, .int .i64 t249, .int .i64 t250] 23 (0, 0)) (by refine blk_far ?_ NB252_260.out _; refine blk_far ?_ NB252_260.out _; refine blk_far ?_ NB252_260.out _; refine blk_far ?_ NB252_260.out _; exact BK252.out) hg (Kd.R_away HO_12.out (fun _ hk => hk.1.2.2))); replace BK260 := Aside0.mk (blk_grown (g := gb260) (o := .cells #[.int .i64 t255, .int .i64 t256, .int .i64 t257, .int .i64 t258] 23 (0, 0)) (by refine blk_put (cs := #[.int .i64 t255, .int .i64 t256, .int .i64 t257, .int .i64 0]) ?_ 3 _ rfl; refine blk_put (cs := #[.int .i64 t255, .int .i64 t256, .int .i64 0, .int .i64 0]) ?_ 2 _ rfl; refine blk_put (cs := #[.int .i64 t255, .int .i64 0, .int .i64 0, .int .i64 0]) ?_ 1 _ rfl; refine blk_put (cs := #[.int .i64 0, .int .i64 0, .int .i64 0, .int .i64 0]) ?_ 0 _ rfl; exact BK260.out) hg (Kd.R_away HO_12.out (fun _ hk => hk.2))); replace HB := Aside0.mk (hb); clear HO_12; clear ho hb hg hat; have hcz59_0 : w58.cell? ⟨gb252, 0, none⟩ = some (.int .i64 t247) := (blk_cell BK252.out 0).trans rfl; have hcz59_1 : w58.cell? ⟨gb252, 1, none⟩ = some (.int .i64 t248) := (blk_cell BK252.out 1).trans rfl; have hcz59_2 : w58.cell? ⟨gb252, 2, none⟩ = some (.int .i64 t249) := (blk_cell BK252.out 2).trans rfl; have hcz59_3 : w58.cell? ⟨gb252, 3, none⟩ = some (.int .i64 t250) := (blk_cell BK252.out 3).trans rfl; have hfz59_0 := blk_frozen BK252.out 0; have hfz59_1 := blk_frozen BK252.out 1; have hfz59_2 := blk_frozen BK252.out 2; have hfz59_3 := blk_frozen BK252.out 3) | ((with_reducible refine gate_callee (f := 127) rfl ?_); refine goesL_ (some 88) rfl rfl Try.func127 (by kernel_rfl) rfl #[.agg #[.int .i64 (wrap64 (x13_2 + 1)), .int .i64 t248, .int .i64 (rd l2 x42_2), .int .i64 t250], .int .u8 a1] rfl (by (try simp only [List.map_toArray, List.map_cons, List.map_nil]); rfl) ?_; (with_reducible refine (rect_turned.calls (wrap64 (x13_2 + 1)) t248 (rd l2 x42_2) t250 a1 t264 t265 t266 t267 t268 _ A49.out).mono ?_); rintro e w60 ⟨rfl, hb⟩; refine ⟨_, rfl, ?_⟩; replace HO_11 := Aside0.mk (Kd.R_below HO_11.out hb); replace HO263 := Aside0.mk (Kd.R_below HO263.out hb); replace BK246 := Aside0.mk (blk_below BK246.out hb); replace BK252 := Aside0.mk (blk_below BK252.out hb); replace BK260 := Aside0.mk (blk_below BK260.out hb); replace HB := Aside0.mk (below_step (by repeat ((with_reducible exact HB.out))) hb); (try clear hb)) | ((with_reducible refine gate_dst (N := 18) rfl ?_); (try (refine gate_guard (by rfl) ?_; dsimp only)); refine box_event ?hg (N := 18) ?hd (cs := #[.int .i64 0, .int .i64 0, .int .i64 0, .int .i64 0]) (t := 23) ?hr ?_; (case hd => rfl); (case hg => rfl); (case hr => (go_simp; done)); intro gb269 hg w61 hbox hb; have BK269 := Aside0.mk (hbox); have GE269 := Aside0.mk ((by rw [hg]; exact (below_size (by repeat ((with_reducible exact HB.out)))) : w.heap.size ≤ gb269)); have NB246_269 := Aside0.mk ((by rw [hg]; exact Nat.ne_of_lt (blk_lt BK246.out) : gb246 ≠ gb269)); have NB269_246 := Aside0.mk ((by rw [hg]; exact Nat.ne_of_gt (blk_lt BK246.out) : gb269 ≠ gb246)); have NB252_269 := Aside0.mk ((by rw [hg]; exact Nat.ne_of_lt (blk_lt BK252.out) : gb252 ≠ gb269)); have NB269_252 := Aside0.mk ((by rw [hg]; exact Nat.ne_of_gt (blk_lt BK252.out) : gb269 ≠ gb252)); have NB260_269 := Aside0.mk ((by rw [hg]; exact Nat.ne_of_lt (blk_lt BK260.out) : gb260 ≠ gb269)); have NB269_260 := Aside0.mk ((by rw [hg]; exact Nat.ne_of_gt (blk_lt BK260.out) : gb269 ≠ gb260)); replace HO_11 := Aside0.mk (Kd.R_below (Kd.R_elderB HO_11.out gb269 (Nat.le_of_eq hg.symm)) hb); replace HO263 := Aside0.mk (Kd.R_below (Kd.R_elderB HO263.out gb269 (Nat.le_of_eq hg.symm)) hb); replace BK246 := Aside0.mk (blk_below BK246.out hb); replace BK252 := Aside0.mk (blk_below BK252.out hb); replace BK260 := Aside0.mk (blk_below BK260.out hb); replace HB := Aside0.mk (below_step (by repeat ((with_reducible exact HB.out))) hb); clear hb hbox hg; have hnb62 := NB269_246.out; have hnc62 := NB246_269.out; have hnb63 := NB269_252.out; have hnc63 := NB252_269.out; have hnb64 := NB269_260.out; have hnc64 := NB260_269.out; have hcz65_0 : w61.cell? ⟨gb269, 0, none⟩ = some (.int .i64 0) := (blk_cell BK269.out 0).trans rfl; have hcz65_1 : w61.cell? ⟨gb269, 1, none⟩ = some (.int .i64 0) := (blk_cell BK269.out 1).trans rfl; have hcz65_2 : w61.cell? ⟨gb269, 2, none⟩ = some (.int .i64 0) := (blk_cell BK269.out 2).trans rfl; have hcz65_3 : w61.cell? ⟨gb269, 3, none⟩ = some (.int .i64 0) := (blk_cell BK269.out 3).trans rfl; have hfz65_0 := blk_frozen BK269.out 0; have hfz65_1 := blk_frozen BK269.out 1; have hfz65_2 := blk_frozen BK269.out 2; have hfz65_3 := blk_frozen BK269.out 3) | ((with_reducible refine gate_builtin (b := .append) (xs := #[.tmp 91, .tmp 93]) rfl ?_); (try (refine gate_guard (by rfl) ?_; dsimp only)); at_builtin; refine Kd.R_append k23 (w0 := w) w.heap.size rfl (.tmp 91) (.tmp 93) 42 23 (.agg #[(.int .i64 0), (.int .i64 0), (.int .i64 0), (.int .i64 0)]) 32 rfl Try.underlying42 info23 rfl (by decide) (by omega) u11 x11_2 (⟨t264, t265, t266, t267⟩ : S23) [.int .i64 t264, .int .i64 t265, .int .i64 t266, .int .i64 t267] (fun k_ => some k_ ≠ (v262 : Value).ownBlock ∧ k_ ≠ gb246 ∧ k_ ≠ gb252 ∧ k_ ≠ gb260 ∧ k_ ≠ gb269) (fun _ => False) rfl (by (go_simp; done)) ?aP (fun _ hk => hk.elim) ?aF ?aO ?aB ?aS ?aL ?_; (case aP => exact k23_mkM _ _ _ (⟨t264, t265, t266, t267⟩ : S23)); (case aB => exact (by repeat ((with_reducible first | exact HB.out | refine below_set ?_ GE269.out)))); (case aF => exact (fun k_ hk => ⟨Kd.fresh' (Kd.R_lt (by exact (Kd.R_mono (Kd.R_far (p := ⟨gb269, 3, none⟩) (Kd.R_far (p := ⟨gb269, 2, none⟩) (Kd.R_far (p := ⟨gb269, 1, none⟩) (Kd.R_far (p := ⟨gb269, 0, none⟩) (Kd.R_mono HO263.out (fun k_ hk => (⟨hk, hk.2⟩ : _ ∧ k_ ≠ gb269))) (fun _ hk => hk.2) (.int .i64 t264)) (fun _ hk => hk.2) (.int .i64 t265)) (fun _ hk => hk.2) (.int .i64 t266)) (fun _ hk => hk.2) (.int .i64 t267)) (fun _ h_ => h_.1)))) k_ hk, Kd.freshB (g := gb246) (o := .cells #[.int .i64 a0_0, .int .i64 a0_1, .int .i64 a0_2, .int .i64 a0_3] 23 (0, 0)) (by refine blk_far ?_ NB246_269.out _; refine blk_far ?_ NB246_269.out _; refine blk_far ?_ NB246_269.out _; refine blk_far ?_ NB246_269.out _; exact BK246.out) k_ hk, Kd.freshB (g := gb252) (o := .cells #[.int .i64 t247, .int .i64 t248, .int .i64 t249, .int .i64 t250] 23 (0, 0)) (by refine blk_far ?_ NB252_269.out _; refine blk_far ?_ NB252_269.out _; refine blk_far ?_ NB252_269.out _; refine blk_far ?_ NB252_269.out _; exact BK252.out) k_ hk, Kd.freshB (g := gb260) (o := .cells #[.int .i64 t255, .int .i64 t256, .int .i64 t257, .int .i64 t258] 23 (0, 0)) (by refine blk_far ?_ NB260_269.out _; refine blk_far ?_ NB260_269.out _; refine blk_far ?_ NB260_269.out _; refine blk_far ?_ NB260_269.out _; exact BK260.out) k_ hk, Kd.freshB (g := gb269) (o := .cells #[.int .i64 t264, .int .i64 t265, .int .i64 t266, .int .i64 t267] 23 (0, 0)) (by refine blk_put (cs := #[.int .i64 t264, .int .i64 t265, .int .i64 t266, .int .i64 0]) ?_ 3 _ rfl; refine blk_put (cs := #[.int .i64 t264, .int .i64 t265, .int .i64 0, .int .i64 0]) ?_ 2 _ rfl; refine blk_put (cs := #[.int .i64 t264, .int .i64 0, .int .i64 0, .int .i64 0]) ?_ 1 _ rfl; refine blk_put (cs := #[.int .i64 0, .int .i64 0, .int .i64 0, .int .i64 0]) ?_ 0 _ rfl; exact BK269.out) k_ hk⟩)); (case aO => exact (by exact Kd.R_mono (Kd.R_far (p := ⟨gb269, 3, none⟩) (Kd.R_far (p := ⟨gb269, 2, none⟩) (Kd.R_far (p := ⟨gb269, 1, none⟩) (Kd.R_far (p := ⟨gb269, 0, none⟩) (Kd.R_mono HO_11.out (fun k_ hk => (⟨hk, hk.2⟩ : _ ∧ k_ ≠ gb269))) (fun _ hk => hk.2) (.int .i64 t264)) (fun _ hk => hk.2) (.int .i64 t265)) (fun _ hk => hk.2) (.int .i64 t266)) (fun _ hk => hk.2) (.int .i64 t267)) (fun _ hk => ⟨hk.1.1.2, ⟨hk.1.1.1.1, ⟨hk.1.1.1.2.1, ⟨hk.1.1.1.2.2, hk.1.2⟩⟩⟩⟩))); (case aS => exact (below_size (by repeat ((with_reducible first | exact HB.out | refine below_set ?_ GE269.out))))); (case aL => have := LMc50.out; omega); intro v271 w66 ho hb hg hat; rw [← Ny270.out] at ho; have HO272 := Aside0.mk (ho); replace BK246 := Aside0.mk (blk_grown (g := gb246) (o := .cells #[.int .i64 a0_0, .int .i64 a0_1, .int .i64 a0_2, .int .i64 a0_3] 23 (0, 0)) (by refine blk_far ?_ NB246_269.out _; refine blk_far ?_ NB246_269.out _; refine blk_far ?_ NB246_269.out _; refine blk_far ?_ NB246_269.out _; exact BK246.out) hg (Kd.R_away HO_11.out (fun _ hk => hk.1.1.1))); replace BK252 := Aside0.mk (blk_grown (g := gb252) (o := .cells #[.int .i64 t247, .int .i64 t248, .int .i64 t249, .int .i64 t250] 23 (0, 0)) (by refine blk_far ?_ NB252_269.out _; refine blk_far ?_ NB252_269.out _; refine blk_far ?_ NB252_269.out _; refine blk_far ?_ NB252_269.out _; exact BK252.out) hg (Kd.R_away HO_11.out (fun _ hk => hk.1.1.2.1))); replace BK260 := Aside0.mk (blk_grown (g := gb260) (o := .cells #[.int .i64 t255, .int .i64 t256, .int .i64 t257, .int .i64 t258] 23 (0, 0)) (by refine blk_far ?_ NB260_269.out _; refine blk_far ?_ NB260_269.out _; refine blk_far ?_ NB260_269.out _; refine blk_far ?_ NB260_269.out _; exact BK260.out) hg (Kd.R_away HO_11.out (fun _ hk => hk.1.1.2.2))); replace HO263 := Aside0.mk (Kd.R_after (ok := (fun k_ => k_ ≠ gb246 ∧ k_ ≠ gb252 ∧ k_ ≠ gb260 ∧ k_ ≠ gb269)) (by exact Kd.R_mono (Kd.R_far (p := ⟨gb269, 3, none⟩) (Kd.R_far (p := ⟨gb269, 2, none⟩) (Kd.R_far (p := ⟨gb269, 1, none⟩) (Kd.R_far (p := ⟨gb269, 0, none⟩) (Kd.R_mono HO263.out (fun k_ hk => (⟨hk, hk.2⟩ : _ ∧ k_ ≠ gb269))) (fun _ hk => hk.2) (.int .i64 t264)) (fun _ hk => hk.2) (.int .i64 t265)) (fun _ hk => hk.2) (.int .i64 t266)) (fun _ hk => hk.2) (.int .i64 t267)) (fun _ hk => ⟨⟨hk.1.1.2.1, ⟨hk.1.1.2.2.1, ⟨hk.1.1.2.2.2, hk.1.2⟩⟩⟩, hk.1.1.1⟩)) hg hat); replace BK269 := Aside0.mk (blk_grown (g := gb269) (o := .cells #[.int .i64 t264, .int .i64 t265, .int .i64 t266, .int .i64 t267] 23 (0, 0)) (by refine blk_put (cs := #[.int .i64 t264, .int .i64 t265, .int .i64 t266, .int .i64 0]) ?_ 3 _ rfl; refine blk_put (cs := #[.int .i64 t264, .int .i64 t265, .int .i64 0, .int .i64 0]) ?_ 2 _ rfl; refine blk_put (cs := #[.int .i64 t264, .int .i64 0, .int .i64 0, .int .i64 0]) ?_ 1 _ rfl; refine blk_put (cs := #[.int .i64 0, .int .i64 0, .int .i64 0, .int .i64 0]) ?_ 0 _ rfl; exact BK269.out) hg (Kd.R_away HO_11.out (fun _ hk => hk.2))); replace HB := Aside0.mk (hb); clear HO_11; clear ho hb hg hat))
              go_roundg k2
              case measure => have := HJ4.out; have := HK2.out; omega
              case rel => exact ⟨(y270), (y261), (wrap64 ((wrap64 (x13_2 + 1)) + (rd l2 x42_2))), (wrap64 (x42_2 + 1)), (by rfl), (by rfl), H', ⟨by have := HJ4.out; have := HK2.out; omega⟩, ⟨by exact Kd.R_mono HO272.out (fun _ hk => ⟨hk.1, ⟨hk.2.1, hk.2.2.1⟩⟩)⟩, ⟨by exact Kd.R_mono HO263.out (fun _ hk => ⟨hk.2, ⟨hk.1.1, hk.1.2.1⟩⟩)⟩, ⟨by exact BK246.out⟩, ⟨by exact BK252.out⟩, ⟨by repeat ((with_reducible exact HB.out))⟩⟩
             ·rw [if_neg c50] at H
              exact absurd H (by simp)
          ·rw [if_neg c29] at H
           exact absurd H (by simp)
         ·rw [if_neg c27] at H
          have c27b0 : decide (0 < x42_2) = false := decide_eq_false c27
          clear c27
          by_cases c67 : (rd l2 x42_2) < 1
          ·rw [if_pos c67] at H
           have c67b0 : decide ((rd l2 x42_2) < 1) = true := decide_eq_true c67
           clear c67
           simp only [Option.some.injEq, Prod.mk.injEq] at H
           obtain ⟨rfl, rfl, rfl⟩ := H
           have p254 : 0 ≤ (x42_2 : Int) := of_decide_eq_true (by (with_reducible assumption))
           have q254 : x42_2 < (l2.length : Int) := of_decide_eq_true (by (with_reducible assumption))
           obtain ⟨ad254, e254, hx254_0⟩ := Kd.at_int HR2.out x42_2 p254 q254
           cases e254
           replace hx254_0 := (HB.out.cell (World.block_lt_of_cell? w _ hx254_0)).trans hx254_0
           replace p254 := eq_true p254
           replace q254 := eq_true q254
           go_wp2
           go_ret3
           exact ⟨_, _, by rfl, by exact Kd.R_nil _ _ _ _ _, by exact Kd.R_nil _ _ _ _ _, by repeat ((with_reducible exact HB.out))⟩
          ·rw [if_neg c67] at H
           have c67b0 : decide ((rd l2 x42_2) < 1) = false := decide_eq_false c67
           clear c67
           by_cases c68 : (rd l2 x42_2) > (wrap64 ((wrap64 (t247 + t249)) - x13_2))
           ·rw [if_pos c68] at H
            have c68b0 : decide ((wrap64 ((wrap64 (t247 + t249)) - x13_2)) < (rd l2 x42_2)) = true := decide_eq_true c68
            clear c68
            simp only [Option.some.injEq, Prod.mk.injEq] at H
            obtain ⟨rfl, rfl, rfl⟩ := H
            have p254 : 0 ≤ (x42_2 : Int) := of_decide_eq_true (by (with_reducible assumption))
            have q254 : x42_2 < (l2.length : Int) := of_decide_eq_true (by (with_reducible assumption))
            obtain ⟨ad254, e254, hx254_0⟩ := Kd.at_int HR2.out x42_2 p254 q254
            cases e254
            replace hx254_0 := (HB.out.cell (World.block_lt_of_cell? w _ hx254_0)).trans hx254_0
            replace p254 := eq_true p254
            replace q254 := eq_true q254
            have hnb69 := NB252_246.out
            have hnc69 := NB246_252.out
            have hcz70_0 : wr.cell? ⟨gb252, 0, none⟩ = some (.int .i64 t247) := (blk_cell BK252.out 0).trans rfl
            have hcz70_1 : wr.cell? ⟨gb252, 1, none⟩ = some (.int .i64 t248) := (blk_cell BK252.out 1).trans rfl
            have hcz70_2 : wr.cell? ⟨gb252, 2, none⟩ = some (.int .i64 t249) := (blk_cell BK252.out 2).trans rfl
            have hcz70_3 : wr.cell? ⟨gb252, 3, none⟩ = some (.int .i64 t250) := (blk_cell BK252.out 3).trans rfl
            have hfz70_0 := blk_frozen BK252.out 0
            have hfz70_1 := blk_frozen BK252.out 1
            have hfz70_2 := blk_frozen BK252.out 2
            have hfz70_3 := blk_frozen BK252.out 3
            go_wp2
            go_ret3
            exact ⟨_, _, by rfl, by exact Kd.R_nil _ _ _ _ _, by exact Kd.R_nil _ _ _ _ _, by repeat ((with_reducible exact HB.out))⟩
           ·rw [if_neg c68] at H
            have c68b0 : decide ((wrap64 ((wrap64 (t247 + t249)) - x13_2)) < (rd l2 x42_2)) = false := decide_eq_false c68
            clear c68
            replace H := Option.bind_eq_some_iff.mp H
            obtain ⟨⟨t273, t274, t275, t276, t277⟩, A710, H⟩ := H
            replace H : (if x11_2.length < 4398046511104 then (rect_Cut.l0 k2 a1 (x11_2 ++ [(⟨t273, t274, t275, t276⟩ : S23)]) x12_2 (wrap64 (x13_2 + (rd l2 x42_2))) l2 (l2.length : Int) (wrap64 (x42_2 + 1)) t247 t248 t249 t250) else (none)) = some (r1, r2, r3) := H
            have A71 := Aside0.mk A710
            clear A710
            by_cases c72 : x11_2.length < 4398046511104
            ·rw [if_pos c72] at H
             have LMc72 := Aside0.mk c72
             clear c72
             obtain ⟨y279, hy279⟩ : ∃ y_ : List (S23), y_ = (x11_2 ++ [(⟨t273, t274, t275, t276⟩ : S23)]) := ⟨_, rfl⟩
             replace H : (rect_Cut.l0 k2 a1 y279 x12_2 (wrap64 (x13_2 + (rd l2 x42_2))) l2 (l2.length : Int) (wrap64 (x42_2 + 1)) t247 t248 t249 t250) = some (r1, r2, r3) := by (rw [hy279]; with_reducible exact H)
             have Ny279 := Aside0.mk hy279
             clear hy279
             have H' := Aside0.mk H
             clear H
             have p254 : 0 ≤ (x42_2 : Int) := of_decide_eq_true (by (with_reducible assumption))
             have q254 : x42_2 < (l2.length : Int) := of_decide_eq_true (by (with_reducible assumption))
             obtain ⟨ad254, e254, hx254_0⟩ := Kd.at_int HR2.out x42_2 p254 q254
             cases e254
             replace hx254_0 := (HB.out.cell (World.block_lt_of_cell? w _ hx254_0)).trans hx254_0
             replace p254 := eq_true p254
             replace q254 := eq_true q254
             have hnb73 := NB252_246.out
             have hnc73 := NB246_252.out
             have hcz74_0 : wr.cell? ⟨gb252, 0, none⟩ = some (.int .i64 t247) := (blk_cell BK252.out 0).trans rfl
             have hcz74_1 : wr.cell? ⟨gb252, 1, none⟩ = some (.int .i64 t248) := (blk_cell BK252.out 1).trans rfl
             have hcz74_2 : wr.cell? ⟨gb252, 2, none⟩ = some (.int .i64 t249) := (blk_cell BK252.out 2).trans rfl
             have hcz74_3 : wr.cell? ⟨gb252, 3, none⟩ = some (.int .i64 t250) := (blk_cell BK252.out 3).trans rfl
             have hfz74_0 := blk_frozen BK252.out 0
             have hfz74_1 := blk_frozen BK252.out 1
             have hfz74_2 := blk_frozen BK252.out 2
             have hfz74_3 := blk_frozen BK252.out 3
             go_wp2_with (first | ((with_reducible refine gate_callee (f := 127) rfl ?_); refine goesL_ (some 88) rfl rfl Try.func127 (by kernel_rfl) rfl #[.agg #[.int .i64 x13_2, .int .i64 t248, .int .i64 (rd l2 x42_2), .int .i64 t250], .int .u8 a1] rfl (by (try simp only [List.map_toArray, List.map_cons, List.map_nil]); rfl) ?_; (with_reducible refine (rect_turned.calls x13_2 t248 (rd l2 x42_2) t250 a1 t273 t274 t275 t276 t277 _ A71.out).mono ?_); rintro e w75 ⟨rfl, hb⟩; refine ⟨_, rfl, ?_⟩; replace HO_11 := Aside0.mk (Kd.R_below HO_11.out hb); replace HO_12 := Aside0.mk (Kd.R_below HO_12.out hb); replace BK246 := Aside0.mk (blk_below BK246.out hb); replace BK252 := Aside0.mk (blk_below BK252.out hb); replace HB := Aside0.mk (below_step (by repeat ((with_reducible exact HB.out))) hb); (try clear hb)) | ((with_reducible refine gate_dst (N := 18) rfl ?_); (try (refine gate_guard (by rfl) ?_; dsimp only)); refine box_event ?hg (N := 18) ?hd (cs := #[.int .i64 0, .int .i64 0, .int .i64 0, .int .i64 0]) (t := 23) ?hr ?_; (case hd => rfl); (case hg => rfl); (case hr => (go_simp; done)); intro gb278 hg w76 hbox hb; have BK278 := Aside0.mk (hbox); have GE278 := Aside0.mk ((by rw [hg]; exact (below_size (by repeat ((with_reducible exact HB.out)))) : w.heap.size ≤ gb278)); have NB246_278 := Aside0.mk ((by rw [hg]; exact Nat.ne_of_lt (blk_lt BK246.out) : gb246 ≠ gb278)); have NB278_246 := Aside0.mk ((by rw [hg]; exact Nat.ne_of_gt (blk_lt BK246.out) : gb278 ≠ gb246)); have NB252_278 := Aside0.mk ((by rw [hg]; exact Nat.ne_of_lt (blk_lt BK252.out) : gb252 ≠ gb278)); have NB278_252 := Aside0.mk ((by rw [hg]; exact Nat.ne_of_gt (blk_lt BK252.out) : gb278 ≠ gb252)); replace HO_11 := Aside0.mk (Kd.R_below (Kd.R_elderB HO_11.out gb278 (Nat.le_of_eq hg.symm)) hb); replace HO_12 := Aside0.mk (Kd.R_below (Kd.R_elderB HO_12.out gb278 (Nat.le_of_eq hg.symm)) hb); replace BK246 := Aside0.mk (blk_below BK246.out hb); replace BK252 := Aside0.mk (blk_below BK252.out hb); replace HB := Aside0.mk (below_step (by repeat ((with_reducible exact HB.out))) hb); clear hb hbox hg; have hnb77 := NB278_246.out; have hnc77 := NB246_278.out; have hnb78 := NB278_252.out; have hnc78 := NB252_278.out; have hcz79_0 : w76.cell? ⟨gb278, 0, none⟩ = some (.int .i64 0) := (blk_cell BK278.out 0).trans rfl; have hcz79_1 : w76.cell? ⟨gb278, 1, none⟩ = some (.int .i64 0) := (blk_cell BK278.out 1).trans rfl; have hcz79_2 : w76.cell? ⟨gb278, 2, none⟩ = some (.int .i64 0) := (blk_cell BK278.out 2).trans rfl; have hcz79_3 : w76.cell? ⟨gb278, 3, none⟩ = some (.int .i64 0) := (blk_cell BK278.out 3).trans rfl; have hfz79_0 := blk_frozen BK278.out 0; have hfz79_1 := blk_frozen BK278.out 1; have hfz79_2 := blk_frozen BK278.out 2; have hfz79_3 := blk_frozen BK278.out 3) | ((with_reducible refine gate_builtin (b := .append) (xs := #[.tmp 91, .tmp 93]) rfl ?_); (try (refine gate_guard (by rfl) ?_; dsimp only)); at_builtin; refine Kd.R_append k23 (w0 := w) w.heap.size rfl (.tmp 91) (.tmp 93) 42 23 (.agg #[(.int .i64 0), (.int .i64 0), (.int .i64 0), (.int .i64 0)]) 32 rfl Try.underlying42 info23 rfl (by decide) (by omega) u11 x11_2 (⟨t273, t274, t275, t276⟩ : S23) [.int .i64 t273, .int .i64 t274, .int .i64 t275, .int .i64 t276] (fun k_ => some k_ ≠ (u12 : Value).ownBlock ∧ k_ ≠ gb246 ∧ k_ ≠ gb252 ∧ k_ ≠ gb278) (fun _ => False) rfl (by (go_simp; done)) ?aP (fun _ hk => hk.elim) ?aF ?aO ?aB ?aS ?aL ?_; (case aP => exact k23_mkM _ _ _ (⟨t273, t274, t275, t276⟩ : S23)); (case aB => exact (by repeat ((with_reducible first | exact HB.out | refine below_set ?_ GE278.out)))); (case aF => exact (fun k_ hk => ⟨Kd.fresh' (Kd.R_lt (by exact (Kd.R_mono (Kd.R_far (p := ⟨gb278, 3, none⟩) (Kd.R_far (p := ⟨gb278, 2, none⟩) (Kd.R_far (p := ⟨gb278, 1, none⟩) (Kd.R_far (p := ⟨gb278, 0, none⟩) (Kd.R_mono HO_12.out (fun k_ hk => (⟨hk, hk.2⟩ : _ ∧ k_ ≠ gb278))) (fun _ hk => hk.2) (.int .i64 t273)) (fun _ hk => hk.2) (.int .i64 t274)) (fun _ hk => hk.2) (.int .i64 t275)) (fun _ hk => hk.2) (.int .i64 t276)) (fun _ h_ => h_.1)))) k_ hk, Kd.freshB (g := gb246) (o := .cells #[.int .i64 a0_0, .int .i64 a0_1, .int .i64 a0_2, .int .i64 a0_3] 23 (0, 0)) (by refine blk_far ?_ NB246_278.out _; refine blk_far ?_ NB246_278.out _; refine blk_far ?_ NB246_278.out _; refine blk_far ?_ NB246_278.out _; exact BK246.out) k_ hk, Kd.freshB (g := gb252) (o := .cells #[.int .i64 t247, .int .i64 t248, .int .i64 t249, .int .i64 t250] 23 (0, 0)) (by refine blk_far ?_ NB252_278.out _; refine blk_far ?_ NB252_278.out _; refine blk_far ?_ NB252_278.out _; refine blk_far ?_ NB252_278.out _; exact BK252.out) k_ hk, Kd.freshB (g := gb278) (o := .cells #[.int .i64 t273, .int .i64 t274, .int .i64 t275, .int .i64 t276] 23 (0, 0)) (by refine blk_put (cs := #[.int .i64 t273, .int .i64 t274, .int .i64 t275, .int .i64 0]) ?_ 3 _ rfl; refine blk_put (cs := #[.int .i64 t273, .int .i64 t274, .int .i64 0, .int .i64 0]) ?_ 2 _ rfl; refine blk_put (cs := #[.int .i64 t273, .int .i64 0, .int .i64 0, .int .i64 0]) ?_ 1 _ rfl; refine blk_put (cs := #[.int .i64 0, .int .i64 0, .int .i64 0, .int .i64 0]) ?_ 0 _ rfl; exact BK278.out) k_ hk⟩)); (case aO => exact (by exact Kd.R_mono (Kd.R_far (p := ⟨gb278, 3, none⟩) (Kd.R_far (p := ⟨gb278, 2, none⟩) (Kd.R_far (p := ⟨gb278, 1, none⟩) (Kd.R_far (p := ⟨gb278, 0, none⟩) (Kd.R_mono HO_11.out (fun k_ hk => (⟨hk, hk.2⟩ : _ ∧ k_ ≠ gb278))) (fun _ hk => hk.2) (.int .i64 t273)) (fun _ hk => hk.2) (.int .i64 t274)) (fun _ hk => hk.2) (.int .i64 t275)) (fun _ hk => hk.2) (.int .i64 t276)) (fun _ hk => ⟨hk.1.1.1, ⟨hk.1.1.2.1, ⟨hk.1.1.2.2, hk.1.2⟩⟩⟩))); (case aS => exact (below_size (by repeat ((with_reducible first | exact HB.out | refine below_set ?_ GE278.out))))); (case aL => have := LMc72.out; omega); intro v280 w80 ho hb hg hat; rw [← Ny279.out] at ho; have HO281 := Aside0.mk (ho); replace HO_12 := Aside0.mk (Kd.R_after (ok := (fun k_ => k_ ≠ gb246 ∧ k_ ≠ gb252 ∧ k_ ≠ gb278)) (by exact Kd.R_mono (Kd.R_far (p := ⟨gb278, 3, none⟩) (Kd.R_far (p := ⟨gb278, 2, none⟩) (Kd.R_far (p := ⟨gb278, 1, none⟩) (Kd.R_far (p := ⟨gb278, 0, none⟩) (Kd.R_mono HO_12.out (fun k_ hk => (⟨hk, hk.2⟩ : _ ∧ k_ ≠ gb278))) (fun _ hk => hk.2) (.int .i64 t273)) (fun _ hk => hk.2) (.int .i64 t274)) (fun _ hk => hk.2) (.int .i64 t275)) (fun _ hk => hk.2) (.int .i64 t276)) (fun _ hk => ⟨⟨hk.1.1.2.1, ⟨hk.1.1.2.2, hk.1.2⟩⟩, hk.1.1.1⟩)) hg hat); replace BK246 := Aside0.mk (blk_grown (g := gb246) (o := .cells #[.int .i64 a0_0, .int .i64 a0_1, .int .i64 a0_2, .int .i64 a0_3] 23 (0, 0)) (by refine blk_far ?_ NB246_278.out _; refine blk_far ?_ NB246_278.out _; refine blk_far ?_ NB246_278.out _; refine blk_far ?_ NB246_278.out _; exact BK246.out) hg (Kd.R_away HO_11.out (fun _ hk => hk.1.2.1))); replace BK252 := Aside0.mk (blk_grown (g := gb252) (o := .cells #[.int .i64 t247, .int .i64 t248, .int .i64 t249, .int .i64 t250] 23 (0, 0)) (by refine blk_far ?_ NB252_278.out _; refine blk_far ?_ NB252_278.out _; refine blk_far ?_ NB252_278.out _; refine blk_far ?_ NB252_278.out _; exact BK252.out) hg (Kd.R_away HO_11.out (fun _ hk => hk.1.2.2))); replace BK278 := Aside0.mk (blk_grown (g := gb278) (o := .cells #[.int .i64 t273, .int .i64 t274, .int .i64 t275, .int .i64 t276] 23 (0, 0)) (by refine blk_put (cs := #[.int .i64 t273, .int .i64 t274, .int .i64 t275, .int .i64 0]) ?_ 3 _ rfl; refine blk_put (cs := #[.int .i64 t273, .int .i64 t274, .int .i64 0, .int .i64 0]) ?_ 2 _ rfl; refine blk_put (cs := #[.int .i64 t273, .int .i64 0, .int .i64 0, .int .i64 0]) ?_ 1 _ rfl; refine blk_put (cs := #[.int .i64 0, .int .i64 0, .int .i64 0, .int .i64 0]) ?_ 0 _ rfl; exact BK278.out) hg (Kd.R_away HO_11.out (fun _ hk => hk.2))); replace HB := Aside0.mk (hb); clear HO_11; clear ho hb hg hat))
             go_roundg k2
             case measure => have := HJ4.out; have := HK2.out; omega
             case rel => exact ⟨(y279), (x12_2), (wrap64 (x13_2 + (rd l2 x42_2))), (wrap64 (x42_2 + 1)), (by rfl), (by rfl), H', ⟨by have := HJ4.out; have := HK2.out; omega⟩, ⟨by exact Kd.R_mono HO281.out (fun _ hk => ⟨hk.1, ⟨hk.2.1, hk.2.2.1⟩⟩)⟩, ⟨by exact Kd.R_mono HO_12.out (fun _ hk => ⟨hk.2, ⟨hk.1.1, hk.1.2.1⟩⟩)⟩, ⟨by exact BK246.out⟩, ⟨by exact BK252.out⟩, ⟨by repeat ((with_reducible exact HB.out))⟩⟩
            ·rw [if_neg c72] at H
             exact absurd H (by simp)
        ·rw [if_neg c26] at H
         exact absurd H (by simp)
       ·rw [if_neg c25] at H
        exact absurd H (by simp)
      ·rw [if_neg c24] at H
       have c24b0 : decide (x42_2 < (l2.length : Int)) = false := decide_eq_false c24
       clear c24
       by_cases c81 : x13_2 = (wrap64 (t247 + t249))
       ·rw [if_pos c81] at H
        have c81b0 : (x13_2 == (wrap64 (t247 + t249))) = true := beq_iff_eq.mpr c81
        have c81b1 : (x13_2 != (wrap64 (t247 + t249))) = false := bne_eq_false_iff_eq.mpr c81
        clear c81
        simp only [Option.some.injEq, Prod.mk.injEq] at H
        obtain ⟨rfl, rfl, rfl⟩ := H
        have hnb82 := NB252_246.out
        have hnc82 := NB246_252.out
        have hcz83_0 : wr.cell? ⟨gb252, 0, none⟩ = some (.int .i64 t247) := (blk_cell BK252.out 0).trans rfl
        have hcz83_1 : wr.cell? ⟨gb252, 1, none⟩ = some (.int .i64 t248) := (blk_cell BK252.out 1).trans rfl
        have hcz83_2 : wr.cell? ⟨gb252, 2, none⟩ = some (.int .i64 t249) := (blk_cell BK252.out 2).trans rfl
        have hcz83_3 : wr.cell? ⟨gb252, 3, none⟩ = some (.int .i64 t250) := (blk_cell BK252.out 3).trans rfl
        have hfz83_0 := blk_frozen BK252.out 0
        have hfz83_1 := blk_frozen BK252.out 1
        have hfz83_2 := blk_frozen BK252.out 2
        have hfz83_3 := blk_frozen BK252.out 3
        go_wp2
        go_ret3
        exact ⟨_, _, by rfl, by exact Kd.R_mono HO_11.out (fun _ hk => hk.1), by exact Kd.R_mono HO_12.out (fun _ hk => hk.1), by repeat ((with_reducible exact HB.out))⟩
       ·rw [if_neg c81] at H
        have c81b0 : (x13_2 == (wrap64 (t247 + t249))) = false := beq_eq_false_iff_ne.mpr c81
        have c81b1 : (x13_2 != (wrap64 (t247 + t249))) = true := bne_iff_ne.mpr c81
        simp only [Option.some.injEq, Prod.mk.injEq] at H
        obtain ⟨rfl, rfl, rfl⟩ := H
        have hnb84 := NB252_246.out
        have hnc84 := NB246_252.out
        have hcz85_0 : wr.cell? ⟨gb252, 0, none⟩ = some (.int .i64 t247) := (blk_cell BK252.out 0).trans rfl
        have hcz85_1 : wr.cell? ⟨gb252, 1, none⟩ = some (.int .i64 t248) := (blk_cell BK252.out 1).trans rfl
        have hcz85_2 : wr.cell? ⟨gb252, 2, none⟩ = some (.int .i64 t249) := (blk_cell BK252.out 2).trans rfl
        have hcz85_3 : wr.cell? ⟨gb252, 3, none⟩ = some (.int .i64 t250) := (blk_cell BK252.out 3).trans rfl
        have hfz85_0 := blk_frozen BK252.out 0
        have hfz85_1 := blk_frozen BK252.out 1
        have hfz85_2 := blk_frozen BK252.out 2
        have hfz85_3 := blk_frozen BK252.out 3
        go_wp2
        go_ret3
        exact ⟨_, _, by rfl, by exact Kd.R_nil _ _ _ _ _, by exact Kd.R_nil _ _ _ _ _, by repeat ((with_reducible exact HB.out))⟩

end Go.Proofs.Ytfdmfgaiblfbhaa.P
namespace Go.Proofs.Ytfdmfgaiblfbhaa.P
open Go.RowKit Go.Proofs.YtfdmfgaiblfbhaaW.PrintWords Go.Proofs.YtfdmfgaiblfbhaaW.PrintLast Go.Proofs.YtfdmfgaiblfbhaaW.PrintMore
attribute [local go_sem] max2_int min2_int max_two min_two max_three min_three max_four min_four   -- for this text's walks alone
set_option linter.unusedVariables false
set_option linter.unusedSimpArgs false

attribute [local go_sem high] eqA23
/-! ### sashlaw04_awake: function 44 -/
def sashlaw04_awake.f (k : Nat)  : Option (Bool) := (rect_Cut.f k 0 0 80 24 1 (([40, 39] : List Int))).bind fun bt285 => (if bt285.2.2 = true then (if (bt285.1.length : Int) = 2 then (if 1 < (bt285.1.length : Int) then (if (((rd_T23 bt285.1 1).f0) == 41 && (((rd_T23 bt285.1 1).f1) == 0 && (((rd_T23 bt285.1 1).f2) == 39 && (((rd_T23 bt285.1 1).f3) == 24)))) = true then (if (bt285.2.1.length : Int) = 1 then (if 0 < (bt285.2.1.length : Int) then (some (((rd_T23 bt285.2.1 0).f0) == 40 && (((rd_T23 bt285.2.1 0).f1) == 0 && (((rd_T23 bt285.2.1 0).f2) == 1 && (((rd_T23 bt285.2.1 0).f3) == 24))))) else (none)) else (some false)) else (some false)) else (none)) else (some false)) else (some false))
theorem sashlaw04_awake.mono : ∀ k, LeO (sashlaw04_awake.f k ) (sashlaw04_awake.f (k + 1) ) := by
 intro  k
 unfold sashlaw04_awake.f
 repeat' first | (with_reducible exact rect_Cut.mono _ _ _ _ _ _ _) | (with_reducible exact LeO.refl _) | (with_reducible refine LeO.bind ?_ (fun _ => ?_))
end Go.Proofs.Ytfdmfgaiblfbhaa.P
namespace Go.Proofs.Ytfdmfgaiblfbhaa.P
open Go.RowKit Go.Proofs.YtfdmfgaiblfbhaaW.PrintWords Go.Proofs.YtfdmfgaiblfbhaaW.PrintLast Go.Proofs.YtfdmfgaiblfbhaaW.PrintMore
attribute [local go_sem] max2_int min2_int max_two min_two max_three min_three max_four min_four   -- for this text's walks alone
set_option linter.unusedVariables false
set_option linter.unusedSimpArgs false

/-! ### sashref04_May: function 57 -/
def sashref04_May.f (a0_0 : Int) (a0_1 : Int) (a0_2 : Int) (a0_3 : Int) : Option (Bool) := if a0_0 < 0 then (some false) else (if a0_0 > 10000 then (some false) else (if a0_1 < 0 then (some false) else (if a0_1 > 10000 then (some false) else (if a0_2 > 0 then (if a0_2 ≤ 10000 then (if a0_3 > 0 then (if a0_3 ≤ 10000 then (if (wrap64 (a0_0 + a0_2)) ≤ 10000 then (some (decide ((wrap64 (a0_1 + a0_3)) ≤ 10000))) else (some false)) else (some false)) else (some false)) else (some false)) else (some false)))))
set_option maxHeartbeats 8000000 in
set_option maxRecDepth 100000 in
theorem sashref04_May.calls (a0_0 : Int) (a0_1 : Int) (a0_2 : Int) (a0_3 : Int) (r : Bool) (w : World) (h : sashref04_May.f a0_0 a0_1 a0_2 a0_3 = some r) :
  Calls Try.prog 57 #[.agg #[.int .i64 a0_0, .int .i64 a0_1, .int .i64 a0_2, .int .i64 a0_3]] w fun e w' => e = .returned (.bool r) ∧ Below w.heap.size w w' := by
 have hu23 := Try.underlying23
 have HB := Aside0.mk (Below.refl w.heap.size w)
 have H : (if a0_0 < 0 then (some false) else (if a0_0 > 10000 then (some false) else (if a0_1 < 0 then (some false) else (if a0_1 > 10000 then (some false) else (if a0_2 > 0 then (if a0_2 ≤ 10000 then (if a0_3 > 0 then (if a0_3 ≤ 10000 then (if (wrap64 (a0_0 + a0_2)) ≤ 10000 then (some (decide ((wrap64 (a0_1 + a0_3)) ≤ 10000))) else (some false)) else (some false)) else (some false)) else (some false)) else (some false)))))) = some r := h
 clear h
 by_cases c2 : a0_0 < 0
 ·rw [if_pos c2] at H
  have c2b0 : decide (a0_0 < 0) = true := decide_eq_true c2
  clear c2
  obtain rfl := Option.some.inj H
  go_enter Try.func57, Try.ntmps57
  go_wp2_with (((with_reducible refine gate_dst (N := 1) rfl ?_); refine box_event ?hg (N := 1) ?hd (cs := #[.int .i64 a0_0, .int .i64 a0_1, .int .i64 a0_2, .int .i64 a0_3]) (t := 23) ?hr ?_; (case hd => rfl); (case hg => rfl); (case hr => (go_simp; done)); intro gb173 hg w3 hbox hb; have BK173 := Aside0.mk (hbox); replace HB := Aside0.mk (below_step (by repeat ((with_reducible exact HB.out))) hb); clear hb hbox hg; have hcz4_0 : w3.cell? ⟨gb173, 0, none⟩ = some (.int .i64 a0_0) := (blk_cell BK173.out 0).trans rfl; have hcz4_1 : w3.cell? ⟨gb173, 1, none⟩ = some (.int .i64 a0_1) := (blk_cell BK173.out 1).trans rfl; have hcz4_2 : w3.cell? ⟨gb173, 2, none⟩ = some (.int .i64 a0_2) := (blk_cell BK173.out 2).trans rfl; have hcz4_3 : w3.cell? ⟨gb173, 3, none⟩ = some (.int .i64 a0_3) := (blk_cell BK173.out 3).trans rfl; have hfz4_0 := blk_frozen BK173.out 0; have hfz4_1 := blk_frozen BK173.out 1; have hfz4_2 := blk_frozen BK173.out 2; have hfz4_3 := blk_frozen BK173.out 3))
  go_ret
  exact ⟨by rfl, by repeat ((with_reducible exact HB.out))⟩
 ·rw [if_neg c2] at H
  have c2b0 : decide (a0_0 < 0) = false := decide_eq_false c2
  clear c2
  by_cases c5 : a0_0 > 10000
  ·rw [if_pos c5] at H
   have c5b0 : decide (10000 < a0_0) = true := decide_eq_true c5
   clear c5
   obtain rfl := Option.some.inj H
   go_enter Try.func57, Try.ntmps57
   go_wp2_with (((with_reducible refine gate_dst (N := 1) rfl ?_); refine box_event ?hg (N := 1) ?hd (cs := #[.int .i64 a0_0, .int .i64 a0_1, .int .i64 a0_2, .int .i64 a0_3]) (t := 23) ?hr ?_; (case hd => rfl); (case hg => rfl); (case hr => (go_simp; done)); intro gb173 hg w6 hbox hb; have BK173 := Aside0.mk (hbox); replace HB := Aside0.mk (below_step (by repeat ((with_reducible exact HB.out))) hb); clear hb hbox hg; have hcz7_0 : w6.cell? ⟨gb173, 0, none⟩ = some (.int .i64 a0_0) := (blk_cell BK173.out 0).trans rfl; have hcz7_1 : w6.cell? ⟨gb173, 1, none⟩ = some (.int .i64 a0_1) := (blk_cell BK173.out 1).trans rfl; have hcz7_2 : w6.cell? ⟨gb173, 2, none⟩ = some (.int .i64 a0_2) := (blk_cell BK173.out 2).trans rfl; have hcz7_3 : w6.cell? ⟨gb173, 3, none⟩ = some (.int .i64 a0_3) := (blk_cell BK173.out 3).trans rfl; have hfz7_0 := blk_frozen BK173.out 0; have hfz7_1 := blk_frozen BK173.out 1; have hfz7_2 := blk_frozen BK173.out 2; have hfz7_3 := blk_frozen BK173.out 3))
   go_ret
   exact ⟨by rfl, by repeat ((with_reducible exact HB.out))⟩
  ·rw [if_neg c5] at H
   have c5b0 : decide (10000 < a0_0) = false := decide_eq_false c5
   clear c5
   by_cases c8 : a0_1 < 0
   ·rw [if_pos c8] at H
    have c8b0 : decide (a0_1 < 0) = true := decide_eq_true c8
    clear c8
    obtain rfl := Option.some.inj H
    go_enter Try.func57, Try.ntmps57
    go_wp2_with (((with_reducible refine gate_dst (N := 1) rfl ?_); refine box_event ?hg (N := 1) ?hd (cs := #[.int .i64 a0_0, .int .i64 a0_1, .int .i64 a0_2, .int .i64 a0_3]) (t := 23) ?hr ?_; (case hd => rfl); (case hg => rfl); (case hr => (go_simp; done)); intro gb173 hg w9 hbox hb; have BK173 := Aside0.mk (hbox); replace HB := Aside0.mk (below_step (by repeat ((with_reducible exact HB.out))) hb); clear hb hbox hg; have hcz10_0 : w9.cell? ⟨gb173, 0, none⟩ = some (.int .i64 a0_0) := (blk_cell BK173.out 0).trans rfl; have hcz10_1 : w9.cell? ⟨gb173, 1, none⟩ = some (.int .i64 a0_1) := (blk_cell BK173.out 1).trans rfl; have hcz10_2 : w9.cell? ⟨gb173, 2, none⟩ = some (.int .i64 a0_2) := (blk_cell BK173.out 2).trans rfl; have hcz10_3 : w9.cell? ⟨gb173, 3, none⟩ = some (.int .i64 a0_3) := (blk_cell BK173.out 3).trans rfl; have hfz10_0 := blk_frozen BK173.out 0; have hfz10_1 := blk_frozen BK173.out 1; have hfz10_2 := blk_frozen BK173.out 2; have hfz10_3 := blk_frozen BK173.out 3))
    go_ret
    exact ⟨by rfl, by repeat ((with_reducible exact HB.out))⟩
   ·rw [if_neg c8] at H
    have c8b0 : decide (a0_1 < 0) = false := decide_eq_false c8
    clear c8
    by_cases c11 : a0_1 > 10000
    ·rw [if_pos c11] at H
     have c11b0 : decide (10000 < a0_1) = true := decide_eq_true c11
     clear c11
     obtain rfl := Option.some.inj H
     go_enter Try.func57, Try.ntmps57
     go_wp2_with (((with_reducible refine gate_dst (N := 1) rfl ?_); refine box_event ?hg (N := 1) ?hd (cs := #[.int .i64 a0_0, .int .i64 a0_1, .int .i64 a0_2, .int .i64 a0_3]) (t := 23) ?hr ?_; (case hd => rfl); (case hg => rfl); (case hr => (go_simp; done)); intro gb173 hg w12 hbox hb; have BK173 := Aside0.mk (hbox); replace HB := Aside0.mk (below_step (by repeat ((with_reducible exact HB.out))) hb); clear hb hbox hg; have hcz13_0 : w12.cell? ⟨gb173, 0, none⟩ = some (.int .i64 a0_0) := (blk_cell BK173.out 0).trans rfl; have hcz13_1 : w12.cell? ⟨gb173, 1, none⟩ = some (.int .i64 a0_1) := (blk_cell BK173.out 1).trans rfl; have hcz13_2 : w12.cell? ⟨gb173, 2, none⟩ = some (.int .i64 a0_2) := (blk_cell BK173.out 2).trans rfl; have hcz13_3 : w12.cell? ⟨gb173, 3, none⟩ = some (.int .i64 a0_3) := (blk_cell BK173.out 3).trans rfl; have hfz13_0 := blk_frozen BK173.out 0; have hfz13_1 := blk_frozen BK173.out 1; have hfz13_2 := blk_frozen BK173.out 2; have hfz13_3 := blk_frozen BK173.out 3))
     go_ret
     exact ⟨by rfl, by repeat ((with_reducible exact HB.out))⟩
    ·rw [if_neg c11] at H
     have c11b0 : decide (10000 < a0_1) = false := decide_eq_false c11
     clear c11
     by_cases c14 : a0_2 > 0
     ·rw [if_pos c14] at H
      have c14b0 : decide (0 < a0_2) = true := decide_eq_true c14
      clear c14
      by_cases c15 : a0_2 ≤ 10000
      ·rw [if_pos c15] at H
       have c15b0 : decide (a0_2 ≤ 10000) = true := decide_eq_true c15
       clear c15
       by_cases c16 : a0_3 > 0
       ·rw [if_pos c16] at H
        have c16b0 : decide (0 < a0_3) = true := decide_eq_true c16
        clear c16
        by_cases c17 : a0_3 ≤ 10000
        ·rw [if_pos c17] at H
         have c17b0 : decide (a0_3 ≤ 10000) = true := decide_eq_true c17
         clear c17
         by_cases c18 : (wrap64 (a0_0 + a0_2)) ≤ 10000
         ·rw [if_pos c18] at H
          have c18b0 : decide ((wrap64 (a0_0 + a0_2)) ≤ 10000) = true := decide_eq_true c18
          clear c18
          obtain rfl := Option.some.inj H
          go_enter Try.func57, Try.ntmps57
          go_wp2_with (((with_reducible refine gate_dst (N := 1) rfl ?_); refine box_event ?hg (N := 1) ?hd (cs := #[.int .i64 a0_0, .int .i64 a0_1, .int .i64 a0_2, .int .i64 a0_3]) (t := 23) ?hr ?_; (case hd => rfl); (case hg => rfl); (case hr => (go_simp; done)); intro gb173 hg w19 hbox hb; have BK173 := Aside0.mk (hbox); replace HB := Aside0.mk (below_step (by repeat ((with_reducible exact HB.out))) hb); clear hb hbox hg; have hcz20_0 : w19.cell? ⟨gb173, 0, none⟩ = some (.int .i64 a0_0) := (blk_cell BK173.out 0).trans rfl; have hcz20_1 : w19.cell? ⟨gb173, 1, none⟩ = some (.int .i64 a0_1) := (blk_cell BK173.out 1).trans rfl; have hcz20_2 : w19.cell? ⟨gb173, 2, none⟩ = some (.int .i64 a0_2) := (blk_cell BK173.out 2).trans rfl; have hcz20_3 : w19.cell? ⟨gb173, 3, none⟩ = some (.int .i64 a0_3) := (blk_cell BK173.out 3).trans rfl; have hfz20_0 := blk_frozen BK173.out 0; have hfz20_1 := blk_frozen BK173.out 1; have hfz20_2 := blk_frozen BK173.out 2; have hfz20_3 := blk_frozen BK173.out 3))
          go_ret
          exact ⟨by rfl, by repeat ((with_reducible exact HB.out))⟩
         ·rw [if_neg c18] at H
          have c18b0 : decide ((wrap64 (a0_0 + a0_2)) ≤ 10000) = false := decide_eq_false c18
          clear c18
          obtain rfl := Option.some.inj H
          go_enter Try.func57, Try.ntmps57
          go_wp2_with (((with_reducible refine gate_dst (N := 1) rfl ?_); refine box_event ?hg (N := 1) ?hd (cs := #[.int .i64 a0_0, .int .i64 a0_1, .int .i64 a0_2, .int .i64 a0_3]) (t := 23) ?hr ?_; (case hd => rfl); (case hg => rfl); (case hr => (go_simp; done)); intro gb173 hg w21 hbox hb; have BK173 := Aside0.mk (hbox); replace HB := Aside0.mk (below_step (by repeat ((with_reducible exact HB.out))) hb); clear hb hbox hg; have hcz22_0 : w21.cell? ⟨gb173, 0, none⟩ = some (.int .i64 a0_0) := (blk_cell BK173.out 0).trans rfl; have hcz22_1 : w21.cell? ⟨gb173, 1, none⟩ = some (.int .i64 a0_1) := (blk_cell BK173.out 1).trans rfl; have hcz22_2 : w21.cell? ⟨gb173, 2, none⟩ = some (.int .i64 a0_2) := (blk_cell BK173.out 2).trans rfl; have hcz22_3 : w21.cell? ⟨gb173, 3, none⟩ = some (.int .i64 a0_3) := (blk_cell BK173.out 3).trans rfl; have hfz22_0 := blk_frozen BK173.out 0; have hfz22_1 := blk_frozen BK173.out 1; have hfz22_2 := blk_frozen BK173.out 2; have hfz22_3 := blk_frozen BK173.out 3))
          go_ret
          exact ⟨by rfl, by repeat ((with_reducible exact HB.out))⟩
        ·rw [if_neg c17] at H
         have c17b0 : decide (a0_3 ≤ 10000) = false := decide_eq_false c17
         clear c17
         obtain rfl := Option.some.inj H
         go_enter Try.func57, Try.ntmps57
         go_wp2_with (((with_reducible refine gate_dst (N := 1) rfl ?_); refine box_event ?hg (N := 1) ?hd (cs := #[.int .i64 a0_0, .int .i64 a0_1, .int .i64 a0_2, .int .i64 a0_3]) (t := 23) ?hr ?_; (case hd => rfl); (case hg => rfl); (case hr => (go_simp; done)); intro gb173 hg w23 hbox hb; have BK173 := Aside0.mk (hbox); replace HB := Aside0.mk (below_step (by repeat ((with_reducible exact HB.out))) hb); clear hb hbox hg; have hcz24_0 : w23.cell? ⟨gb173, 0, none⟩ = some (.int .i64 a0_0) := (blk_cell BK173.out 0).trans rfl; have hcz24_1 : w23.cell? ⟨gb173, 1, none⟩ = some (.int .i64 a0_1) := (blk_cell BK173.out 1).trans rfl; have hcz24_2 : w23.cell? ⟨gb173, 2, none⟩ = some (.int .i64 a0_2) := (blk_cell BK173.out 2).trans rfl; have hcz24_3 : w23.cell? ⟨gb173, 3, none⟩ = some (.int .i64 a0_3) := (blk_cell BK173.out 3).trans rfl; have hfz24_0 := blk_frozen BK173.out 0; have hfz24_1 := blk_frozen BK173.out 1; have hfz24_2 := blk_frozen BK173.out 2; have hfz24_3 := blk_frozen BK173.out 3))
         go_ret
         exact ⟨by rfl, by repeat ((with_reducible exact HB.out))⟩
       ·rw [if_neg c16] at H
        have c16b0 : decide (0 < a0_3) = false := decide_eq_false c16
        clear c16
        obtain rfl := Option.some.inj H
        go_enter Try.func57, Try.ntmps57
        go_wp2_with (((with_reducible refine gate_dst (N := 1) rfl ?_); refine box_event ?hg (N := 1) ?hd (cs := #[.int .i64 a0_0, .int .i64 a0_1, .int .i64 a0_2, .int .i64 a0_3]) (t := 23) ?hr ?_; (case hd => rfl); (case hg => rfl); (case hr => (go_simp; done)); intro gb173 hg w25 hbox hb; have BK173 := Aside0.mk (hbox); replace HB := Aside0.mk (below_step (by repeat ((with_reducible exact HB.out))) hb); clear hb hbox hg; have hcz26_0 : w25.cell? ⟨gb173, 0, none⟩ = some (.int .i64 a0_0) := (blk_cell BK173.out 0).trans rfl; have hcz26_1 : w25.cell? ⟨gb173, 1, none⟩ = some (.int .i64 a0_1) := (blk_cell BK173.out 1).trans rfl; have hcz26_2 : w25.cell? ⟨gb173, 2, none⟩ = some (.int .i64 a0_2) := (blk_cell BK173.out 2).trans rfl; have hcz26_3 : w25.cell? ⟨gb173, 3, none⟩ = some (.int .i64 a0_3) := (blk_cell BK173.out 3).trans rfl; have hfz26_0 := blk_frozen BK173.out 0; have hfz26_1 := blk_frozen BK173.out 1; have hfz26_2 := blk_frozen BK173.out 2; have hfz26_3 := blk_frozen BK173.out 3))
        go_ret
        exact ⟨by rfl, by repeat ((with_reducible exact HB.out))⟩
      ·rw [if_neg c15] at H
       have c15b0 : decide (a0_2 ≤ 10000) = false := decide_eq_false c15
       clear c15
       obtain rfl := Option.some.inj H
       go_enter Try.func57, Try.ntmps57
       go_wp2_with (((with_reducible refine gate_dst (N := 1) rfl ?_); refine box_event ?hg (N := 1) ?hd (cs := #[.int .i64 a0_0, .int .i64 a0_1, .int .i64 a0_2, .int .i64 a0_3]) (t := 23) ?hr ?_; (case hd => rfl); (case hg => rfl); (case hr => (go_simp; done)); intro gb173 hg w27 hbox hb; have BK173 := Aside0.mk (hbox); replace HB := Aside0.mk (below_step (by repeat ((with_reducible exact HB.out))) hb); clear hb hbox hg; have hcz28_0 : w27.cell? ⟨gb173, 0, none⟩ = some (.int .i64 a0_0) := (blk_cell BK173.out 0).trans rfl; have hcz28_1 : w27.cell? ⟨gb173, 1, none⟩ = some (.int .i64 a0_1) := (blk_cell BK173.out 1).trans rfl; have hcz28_2 : w27.cell? ⟨gb173, 2, none⟩ = some (.int .i64 a0_2) := (blk_cell BK173.out 2).trans rfl; have hcz28_3 : w27.cell? ⟨gb173, 3, none⟩ = some (.int .i64 a0_3) := (blk_cell BK173.out 3).trans rfl; have hfz28_0 := blk_frozen BK173.out 0; have hfz28_1 := blk_frozen BK173.out 1; have hfz28_2 := blk_frozen BK173.out 2; have hfz28_3 := blk_frozen BK173.out 3))
       go_ret
       exact ⟨by rfl, by repeat ((with_reducible exact HB.out))⟩
     ·rw [if_neg c14] at H
      have c14b0 : decide (0 < a0_2) = false := decide_eq_false c14
      clear c14
      obtain rfl := Option.some.inj H
      go_enter Try.func57, Try.ntmps57
      go_wp2_with (((with_reducible refine gate_dst (N := 1) rfl ?_); refine box_event ?hg (N := 1) ?hd (cs := #[.int .i64 a0_0, .int .i64 a0_1, .int .i64 a0_2, .int .i64 a0_3]) (t := 23) ?hr ?_; (case hd => rfl); (case hg => rfl); (case hr => (go_simp; done)); intro gb173 hg w29 hbox hb; have BK173 := Aside0.mk (hbox); replace HB := Aside0.mk (below_step (by repeat ((with_reducible exact HB.out))) hb); clear hb hbox hg; have hcz30_0 : w29.cell? ⟨gb173, 0, none⟩ = some (.int .i64 a0_0) := (blk_cell BK173.out 0).trans rfl; have hcz30_1 : w29.cell? ⟨gb173, 1, none⟩ = some (.int .i64 a0_1) := (blk_cell BK173.out 1).trans rfl; have hcz30_2 : w29.cell? ⟨gb173, 2, none⟩ = some (.int .i64 a0_2) := (blk_cell BK173.out 2).trans rfl; have hcz30_3 : w29.cell? ⟨gb173, 3, none⟩ = some (.int .i64 a0_3) := (blk_cell BK173.out 3).trans rfl; have hfz30_0 := blk_frozen BK173.out 0; have hfz30_1 := blk_frozen BK173.out 1; have hfz30_2 := blk_frozen BK173.out 2; have hfz30_3 := blk_frozen BK173.out 3))
      go_ret
      exact ⟨by rfl, by repeat ((with_reducible exact HB.out))⟩

end Go.Proofs.Ytfdmfgaiblfbhaa.P
/- May a rectangle be: plain words. -/
namespace Go.Proofs.Ytfdmfgaiblfbhaa.P
open Go.RowKit Go.Proofs.YtfdmfgaiblfbhaaW.PrintWords Go.Proofs.YtfdmfgaiblfbhaaW.PrintLast Go.Proofs.YtfdmfgaiblfbhaaW.PrintMore

theorem wq {x : Int} (h0 : -9223372036854775808 ≤ x) (h1 : x ≤ 9223372036854775807) : wrap64 x = x := by unfold wrap64; omega
theorem ev_pos {α : Type} {c : Prop} [Decidable c] {g f : Nat → Option α} {r : α} (hc : c) (h : Ev g r) : Ev (fun k => if c then g k else f k) r := by simp only [if_pos hc]; exact h
theorem ev_neg {α : Type} {c : Prop} [Decidable c] {g f : Nat → Option α} {r : α} (hc : ¬c) (h : Ev f r) : Ev (fun k => if c then g k else f k) r := by simp only [if_neg hc]; exact h
theorem ev_some {α : Type} {g : Nat → Option α} {r : α} (h : ∀ k, g k = some r) : Ev g r := ⟨0, fun k _ => h k⟩
theorem rd_in (pre : List Int) (p : Int) (rest : List Int) : rd (pre ++ p :: rest) (pre.length : Int) = p := by
  simp [rd, List.getD_eq_getElem?_getD]

/-- May a rectangle be? -/
def mayB (X Y W H : Int) : Bool := decide (0 ≤ X ∧ 1 ≤ W ∧ W ≤ 10000 ∧ X + W ≤ 10000 ∧ 0 ≤ Y ∧ 1 ≤ H ∧ H ≤ 10000 ∧ Y + H ≤ 10000)
theorem may_iff {X Y W H : Int} : mayB X Y W H = true ↔ (0 ≤ X ∧ 1 ≤ W ∧ W ≤ 10000 ∧ X + W ≤ 10000 ∧ 0 ≤ Y ∧ 1 ≤ H ∧ H ≤ 10000 ∧ Y + H ≤ 10000) := by unfold mayB; rw [decide_eq_true_iff]
theorem may_some (X Y W H : Int) : rect_may.f X Y W H = some (mayB X Y W H) := by
  unfold rect_may.f mayB
  by_cases h1 : X ≥ 0
  · by_cases h2 : W ≥ 1
    · by_cases h3 : W ≤ 10000
      · rw [if_pos h1, if_pos h2, if_pos h3, wq (x := 10000 - W) (by omega) (by omega)]
        by_cases h4 : X ≤ 10000 - W
        · rw [if_pos h4]
          by_cases h5 : Y ≥ 0
          · by_cases h6 : H ≥ 1
            · by_cases h7 : H ≤ 10000
              · rw [if_pos h5, if_pos h6, if_pos h7, wq (x := 10000 - H) (by omega) (by omega)]
                congr 1
                rw [decide_eq_decide]
                omega
              · rw [if_pos h5, if_pos h6, if_neg h7, decide_eq_false (by omega)]
            · rw [if_pos h5, if_neg h6, decide_eq_false (by omega)]
          · rw [if_neg h5, decide_eq_false (by omega)]
        · rw [if_neg h4, decide_eq_false (by omega)]
      · rw [if_pos h1, if_pos h2, if_neg h3, decide_eq_false (by omega)]
    · rw [if_pos h1, if_neg h2, decide_eq_false (by omega)]
  · rw [if_neg h1, decide_eq_false (by omega)]
theorem refmay_some (X Y W H : Int) : sashref04_May.f X Y W H = some (mayB X Y W H) := by
  unfold sashref04_May.f mayB
  by_cases h1 : X < 0
  · rw [if_pos h1, decide_eq_false (by omega)]
  · rw [if_neg h1]
    by_cases h2 : X > 10000
    · rw [if_pos h2, decide_eq_false (by omega)]
    · rw [if_neg h2]
      by_cases h3 : Y < 0
      · rw [if_pos h3, decide_eq_false (by omega)]
      · rw [if_neg h3]
        by_cases h4 : Y > 10000
        · rw [if_pos h4, decide_eq_false (by omega)]
        · rw [if_neg h4]
          by_cases h5 : W > 0
          · by_cases h6 : W ≤ 10000
            · by_cases h7 : H > 0
              · by_cases h8 : H ≤ 10000
                · rw [if_pos h5, if_pos h6, if_pos h7, if_pos h8, wq (x := X + W) (by omega) (by omega), wq (x := Y + H) (by omega) (by omega)]
                  by_cases h9 : X + W ≤ 10000
                  · rw [if_pos h9]
                    congr 1
                    rw [decide_eq_decide]
                    omega
                  · rw [if_neg h9, decide_eq_false (by omega)]
                · rw [if_pos h5, if_pos h6, if_pos h7, if_neg h8, decide_eq_false (by omega)]
              · rw [if_pos h5, if_pos h6, if_neg h7, decide_eq_false (by omega)]
            · rw [if_pos h5, if_neg h6, decide_eq_false (by omega)]
          · rw [if_neg h5, decide_eq_false (by omega)]

def mayR (r : S23) : Bool := mayB r.f0 r.f1 r.f2 r.f3
end Go.Proofs.Ytfdmfgaiblfbhaa.P
