/- CellFinds: part 3 of 6 of this claim's texts, one behind the other. The words of the kit's printer stand in it cut down, by a program, to those that are used. -/
import Derived.Test.YtfdmfgaiblfbhaaProg
import Derived.Below
import Derived.Deep.Draws
import Derived.Deep.AppendLies
import Derived.Maps.AppendAt
import Derived.OwnWalk
import Derived.Laws.BytesArg
import Derived.Laws.MakeOwn
import Derived.Laws.OwnMore
import Derived.Deep.OwnRows
import Derived.Tactics
import Derived.Lib.ConvBytes
import Derived.Laws.Slices
import Derived.WalkKit
import Derived.KernelRfl
import Derived.RowKit3
import Derived.Deep.LoopGhost
import Derived.Deep.QuietTactic
import Derived.BigQuiet
import Derived.WideLaws
import Derived.Deep.DeepCutAuto
import Derived.Deep.CutBlock
import Derived.Deep.RegionHeld3
import Derived.Laws.Rows
import Derived.Lib.AppendStr
import Derived.ArgAppend
import Derived.Laws.IdiomCopy
import Derived.OrdersHeld
import Derived.Laws.BitsLemmas
import Derived.RowKit
import Derived.Test.YtfdmfgaiblfbhaaMCellFindsa
import Derived.Test.YtfdmfgaiblfbhaaMCellFindsb
import Derived.WalkSpells
import Derived.Shelf.Spec.SlicesInsert
import Derived.Shelf.Spec.SlicesInsertGrow
namespace Go.Proofs.Ytfdmfgaiblfbhaa.P
open Go.RowKit Go.Proofs.YtfdmfgaiblfbhaaW.PrintWords Go.Proofs.YtfdmfgaiblfbhaaW.PrintLast Go.Proofs.YtfdmfgaiblfbhaaW.PrintMore
attribute [local go_sem] max2_int min2_int max_two min_two max_three min_three max_four min_four   -- for this text's walks alone
set_option linter.unusedVariables false
set_option linter.unusedSimpArgs false



def errW : Option Int → Value
  | none => .nilIface
  | some c => .iface 0 (.int .i64 c)
theorem errW_none : errW none = .nilIface := rfl
theorem errW_some (c : Int) : errW (some c) = .iface 0 (.int .i64 c) := rfl

theorem info3 : (Try.prog.info? 3).map (fun i => (i.zero, i.size, i.bytes)) = some (some (.int .i64 0), 1, 8) := by kernel_rfl
theorem info26 : (Try.prog.info? 26).map (fun i => (i.zero, i.size, i.bytes)) = some (some (.agg #[(.int .u8 0), (.int .i64 0), (.int .i64 0), (.int .i64 0), (.int .i64 0), (.int .i64 0), (.slice none 0 0)]), 7, 72) := by kernel_rfl
-- the values' own types
/-! #### struct type 23 -/
structure S23 where
  f0 : Int
  f1 : Int
  f2 : Int
  f3 : Int
def z23 : S23 := ⟨(0 : Int), (0 : Int), (0 : Int), (0 : Int)⟩
def k23 : Kd S23 := Kd.iso (Kd.pair (Kd.int .i64) (Kd.pair (Kd.int .i64) (Kd.pair (Kd.int .i64) (Kd.int .i64)))) (fun x : S23 => (x.f0, x.f1, x.f2, x.f3))
theorem k23_heap : Kd.Heap k23 := Kd.heap_iso _ (Kd.heap_pair (Kd.heap_int .i64) (Kd.heap_pair (Kd.heap_int .i64) (Kd.heap_pair (Kd.heap_int .i64) (Kd.heap_int .i64))))
theorem k23_open {w : World} {x : S23} {cs : List Value} (h : k23.K w x cs) : cs = [.int .i64 x.f0, .int .i64 x.f1, .int .i64 x.f2, .int .i64 x.f3] := by
  obtain ⟨_, _, rfl, rfl, ⟨_, _, rfl, rfl, ⟨_, _, rfl, rfl, rfl⟩⟩⟩ := h
  exact rfl
theorem k23_mk (w : World) (x : S23)  : k23.K w x [.int .i64 x.f0, .int .i64 x.f1, .int .i64 x.f2, .int .i64 x.f3] := ⟨[.int .i64 x.f0], [.int .i64 x.f1, .int .i64 x.f2, .int .i64 x.f3], rfl, rfl, ⟨[.int .i64 x.f1], [.int .i64 x.f2, .int .i64 x.f3], rfl, rfl, ⟨[.int .i64 x.f2], [.int .i64 x.f3], rfl, rfl, rfl⟩⟩⟩
theorem k23_mkM (w : World) (base : Nat) (ok : Nat → Prop) (x : S23)  : k23.M w base ok x [.int .i64 x.f0, .int .i64 x.f1, .int .i64 x.f2, .int .i64 x.f3] := ⟨[.int .i64 x.f0], [.int .i64 x.f1, .int .i64 x.f2, .int .i64 x.f3], rfl, rfl, ⟨[.int .i64 x.f1], [.int .i64 x.f2, .int .i64 x.f3], rfl, rfl, ⟨[.int .i64 x.f2], [.int .i64 x.f3], rfl, rfl, rfl⟩⟩⟩
def rd_T23 (xs : List S23) (i : Int) : S23 := xs.getD i.toNat z23
theorem at_T23 {w : World} {A : Option Addr} {n : Nat} {xs : List S23} (h : Kd.C k23 w A n xs) (i : Int) (h0 : 0 ≤ i) (h1 : i < n) : ∃ ad , A = some ad ∧ w.cell? (ad.add (i.toNat * 4)) = some (.int .i64 (rd_T23 xs i).f0) ∧ w.cell? ⟨(ad.add (i.toNat * 4)).block, (ad.add (i.toNat * 4)).off + 1, none⟩ = some (.int .i64 (rd_T23 xs i).f1) ∧ w.cell? ⟨(ad.add (i.toNat * 4)).block, (ad.add (i.toNat * 4)).off + 2, none⟩ = some (.int .i64 (rd_T23 xs i).f2) ∧ w.cell? ⟨(ad.add (i.toNat * 4)).block, (ad.add (i.toNat * 4)).off + 3, none⟩ = some (.int .i64 (rd_T23 xs i).f3) := by
  obtain ⟨ad, c, e, _, hK, hc0⟩ := Kd.C_get h z23 i h0 h1
  have hc : ∀ j u, c[j]? = some u → w.cell? (ad.add (i.toNat * 4 + j)) = some u := hc0
  obtain rfl := k23_open hK
  exact ⟨ad, e, hc 0 _ rfl, by rw [← add_field _ _ 1 (by omega)]; exact hc 1 _ rfl, by rw [← add_field _ _ 2 (by omega)]; exact hc 2 _ rfl, by rw [← add_field _ _ 3 (by omega)]; exact hc 3 _ rfl⟩

/-! #### struct type 26, nested in itself -/
structure S26 where
  f0 : Int
  f1 : S23
  f2 : Int
  f3 : (List S26)
def z26 : S26 := ⟨(0 : Int), z23, (0 : Int), ([] : List S26)⟩
def F26 (d : Kd S26) : Kd S26 := Kd.iso (Kd.pair (Kd.int .u8) (Kd.pair k23 (Kd.pair (Kd.int .i64) (Kd.slice 26 d)))) (fun x : S26 => (x.f0, x.f1, x.f2, x.f3))
theorem mono26 : Kd.Mono F26 := Kd.mono_iso _ (Kd.mono_pair (Kd.mono_const _) (Kd.mono_pair (Kd.mono_const _) (Kd.mono_pair (Kd.mono_const _) (Kd.mono_slice 26 Kd.mono_id))))
theorem sub26 : Kd.Sub F26 [26] := Kd.sub_iso _ (Kd.sub_pair (Kd.sub_const _ (by decide)) (Kd.sub_pair (Kd.sub_const _ (by decide)) (Kd.sub_pair (Kd.sub_const _ (by decide)) (Kd.sub_slice 26 (by decide) Kd.sub_id))))
theorem sz26 : ∀ n, (Kd.upto F26 7 [26] n).sz = 7 := Kd.upto_sz (fun _ => rfl)
def k26 : Kd S26 := Kd.fix F26 7 [26] sz26 (Kd.upto_E sub26)
theorem k26_heap : Kd.Heap k26 := Kd.heap_fix (fun _ h_ => Kd.heap_iso _ (Kd.heap_pair (Kd.heap_int .u8) (Kd.heap_pair k23_heap (Kd.heap_pair (Kd.heap_int .i64) (Kd.heap_slice 26 h_)))))
theorem k26_open {w : World} {x : S26} {cs : List Value} (h : k26.K w x cs) : ∃ A6 c6, cs = [.int .u8 x.f0, .int .i64 x.f1.f0, .int .i64 x.f1.f1, .int .i64 x.f1.f2, .int .i64 x.f1.f3, .int .i64 x.f2, .slice A6 x.f3.length c6] ∧ x.f3.length ≤ c6 ∧ k26.C w A6 x.f3.length x.f3 := by
  obtain ⟨n, h⟩ := h
  cases n with
  | zero => exact h.elim
  | succ n =>
    obtain ⟨_, _, rfl, rfl, ⟨_, _, rfl, s1, ⟨_, _, rfl, rfl, ⟨A6, c6, rfl, l6, g6⟩⟩⟩⟩ := h
    obtain rfl := k23_open s1
    exact ⟨A6, c6, rfl, l6, Kd.fix_C g6⟩
theorem k26_mk (w : World) (x : S26) {A6 : Option Addr} {c6 : Nat} (l6 : x.f3.length ≤ c6) (g6 : k26.C w A6 x.f3.length x.f3) : k26.K w x [.int .u8 x.f0, .int .i64 x.f1.f0, .int .i64 x.f1.f1, .int .i64 x.f1.f2, .int .i64 x.f1.f3, .int .i64 x.f2, .slice A6 x.f3.length c6] := by
  obtain ⟨n6, q6⟩ := Kd.fix_C_back mono26 g6
  have r6 := Kd.upto_C_le mono26 sz26 (show n6 ≤ n6 by omega) q6
  exact ⟨n6 + 1, ⟨[.int .u8 x.f0], [.int .i64 x.f1.f0, .int .i64 x.f1.f1, .int .i64 x.f1.f2, .int .i64 x.f1.f3, .int .i64 x.f2, .slice A6 x.f3.length c6], rfl, rfl, ⟨[.int .i64 x.f1.f0, .int .i64 x.f1.f1, .int .i64 x.f1.f2, .int .i64 x.f1.f3], [.int .i64 x.f2, .slice A6 x.f3.length c6], rfl, (k23_mk w x.f1 ), ⟨[.int .i64 x.f2], [.slice A6 x.f3.length c6], rfl, rfl, ⟨A6, c6, rfl, l6, r6⟩⟩⟩⟩⟩
theorem k26_openF {W : World} {ok : Nat → Prop} {x : S26} {cs : List Value} (h : Kd.FK k26 W ok x cs) : ∃ A6 c6, cs = [.int .u8 x.f0, .int .i64 x.f1.f0, .int .i64 x.f1.f1, .int .i64 x.f1.f2, .int .i64 x.f1.f3, .int .i64 x.f2, .slice A6 x.f3.length c6] ∧ x.f3.length ≤ c6 ∧ Kd.F k26 W ok A6 x.f3.length x.f3 := by
  obtain ⟨A6, c6, rfl, l6, _⟩ := k26_open (Kd.FK_now h)
  exact ⟨A6, c6, rfl, l6, (fun W' hW => by obtain ⟨A6_, c6_, he, l6_, g6_⟩ := k26_open (h W' hW); injection (Option.some.inj (show some (Value.slice A6 x.f3.length c6) = some (Value.slice A6_ x.f3.length c6_) from congrArg (fun l => l[6]?) he)) with ha_ _ _; rw [ha_]; exact g6_)⟩
theorem k26_mkF (W : World) (ok : Nat → Prop) (x : S26) {A6 : Option Addr} {c6 : Nat} (l6 : x.f3.length ≤ c6) (g6 : Kd.F k26 W ok A6 x.f3.length x.f3) : Kd.FK k26 W ok x [.int .u8 x.f0, .int .i64 x.f1.f0, .int .i64 x.f1.f1, .int .i64 x.f1.f2, .int .i64 x.f1.f3, .int .i64 x.f2, .slice A6 x.f3.length c6] := fun W2 hW => k26_mk W2 x l6 (g6 W2 hW)
def rd_T26 (xs : List S26) (i : Int) : S26 := xs.getD i.toNat z26
theorem at_T26 {w : World} {A : Option Addr} {n : Nat} {xs : List S26} (h : Kd.C k26 w A n xs) (i : Int) (h0 : 0 ≤ i) (h1 : i < n) : ∃ ad A6 c6, A = some ad ∧ w.cell? (ad.add (i.toNat * 7)) = some (.int .u8 (rd_T26 xs i).f0) ∧ w.cell? ⟨(ad.add (i.toNat * 7)).block, (ad.add (i.toNat * 7)).off + 1, none⟩ = some (.int .i64 (rd_T26 xs i).f1.f0) ∧ w.cell? ⟨(ad.add (i.toNat * 7)).block, (ad.add (i.toNat * 7)).off + 2, none⟩ = some (.int .i64 (rd_T26 xs i).f1.f1) ∧ w.cell? ⟨(ad.add (i.toNat * 7)).block, (ad.add (i.toNat * 7)).off + 3, none⟩ = some (.int .i64 (rd_T26 xs i).f1.f2) ∧ w.cell? ⟨(ad.add (i.toNat * 7)).block, (ad.add (i.toNat * 7)).off + 4, none⟩ = some (.int .i64 (rd_T26 xs i).f1.f3) ∧ w.cell? ⟨(ad.add (i.toNat * 7)).block, (ad.add (i.toNat * 7)).off + 5, none⟩ = some (.int .i64 (rd_T26 xs i).f2) ∧ w.cell? ⟨(ad.add (i.toNat * 7)).block, (ad.add (i.toNat * 7)).off + 6, none⟩ = some (.slice A6 (rd_T26 xs i).f3.length c6) ∧ (rd_T26 xs i).f3.length ≤ c6 ∧ k26.C w A6 (rd_T26 xs i).f3.length (rd_T26 xs i).f3 := by
  obtain ⟨ad, c, e, _, hK, hc0⟩ := Kd.C_get h z26 i h0 h1
  have hc : ∀ j u, c[j]? = some u → w.cell? (ad.add (i.toNat * 7 + j)) = some u := hc0
  obtain ⟨A6, c6, rfl, l6, g6⟩ := k26_open hK
  exact ⟨ad, A6, c6, e, hc 0 _ rfl, by rw [← add_field _ _ 1 (by omega)]; exact hc 1 _ rfl, by rw [← add_field _ _ 2 (by omega)]; exact hc 2 _ rfl, by rw [← add_field _ _ 3 (by omega)]; exact hc 3 _ rfl, by rw [← add_field _ _ 4 (by omega)]; exact hc 4 _ rfl, by rw [← add_field _ _ 5 (by omega)]; exact hc 5 _ rfl, by rw [← add_field _ _ 6 (by omega)]; exact hc 6 _ rfl, l6, g6⟩

/-! #### struct type 35 -/
structure S35 where
  f0 : Int
  f1 : S23
def z35 : S35 := ⟨(0 : Int), z23⟩
def k35 : Kd S35 := Kd.iso (Kd.pair (Kd.int .i64) k23) (fun x : S35 => (x.f0, x.f1))
def rd_T35 (xs : List S35) (i : Int) : S35 := xs.getD i.toNat z35
def rd_L5 (xs : List (List S35)) (i : Int) : (List S35) := xs.getD i.toNat ([] : List S35)
def rd_L6 (xs : List (List Int)) (i : Int) : (List Int) := xs.getD i.toNat ([] : List Int)
def rd_L8 (xs : List (List S23)) (i : Int) : (List S23) := xs.getD i.toNat ([] : List S23)
def rd_L9 (xs : List (List S26)) (i : Int) : (List S26) := xs.getD i.toNat ([] : List S26)
end Go.Proofs.Ytfdmfgaiblfbhaa.P
namespace Go.Proofs.Ytfdmfgaiblfbhaa.P
open Go.RowKit Go.Proofs.YtfdmfgaiblfbhaaW.PrintWords Go.Proofs.YtfdmfgaiblfbhaaW.PrintLast Go.Proofs.YtfdmfgaiblfbhaaW.PrintMore
attribute [local go_sem] max2_int min2_int max_two min_two max_three min_three max_four min_four   -- for this text's walks alone
set_option linter.unusedVariables false
set_option linter.unusedSimpArgs false

/-! ### sashref05_count: function 124 -/
mutual
def sashref05_count.l0 : Nat → Int → Int → Int → Int → Int → Int → Int → Int → Int → Int → List (S26) → Option (Int)
  | 0, _, _, _, _, _, _, _, _, _, _, _ => none
  | k + 1, x1, x5, x9, x10, x102000, x102001, x102002, x102003, x102004, x102005, x102006 => if x10 < x9 then (if x5 > x1 then (some x5) else (if 0 ≤ x10 then (if x10 < (x102006.length : Int) then ((sashref05_count.f k ((rd_T26 x102006 x10).f0) ((rd_T26 x102006 x10).f1.f0) ((rd_T26 x102006 x10).f1.f1) ((rd_T26 x102006 x10).f1.f2) ((rd_T26 x102006 x10).f1.f3) ((rd_T26 x102006 x10).f2) ((rd_T26 x102006 x10).f3) x1).bind fun t103 => (sashref05_count.l0 k x1 (wrap64 (x5 + t103)) x9 (wrap64 (x10 + 1)) x102000 x102001 x102002 x102003 x102004 x102005 x102006)) else (none)) else (none))) else (some x5)
def sashref05_count.f : Nat → Int → Int → Int → Int → Int → Int → List (S26) → Int → Option (Int)
  | 0, _, _, _, _, _, _, _, _ => none
  | k + 1, a0_0, a0_1, a0_2, a0_3, a0_4, a0_5, l0_6, a1 => sashref05_count.l0 k a1 1 (l0_6.length : Int) 0 a0_0 a0_1 a0_2 a0_3 a0_4 a0_5 l0_6
end
theorem sashref05_count.mono_l : ∀ k, (∀ y0 y1 y2 y3 y4 y5 y6 y7, LeO (sashref05_count.f k y0 y1 y2 y3 y4 y5 y6 y7) (sashref05_count.f (k + 1) y0 y1 y2 y3 y4 y5 y6 y7)) ∧ (∀ y0 y1 y2 y3 y4 y5 y6 y7 y8 y9 y10, LeO (sashref05_count.l0 k y0 y1 y2 y3 y4 y5 y6 y7 y8 y9 y10) (sashref05_count.l0 (k + 1) y0 y1 y2 y3 y4 y5 y6 y7 y8 y9 y10))
  | 0 => ⟨fun _ _ _ _ _ _ _ _ r h => by simp [sashref05_count.f] at h, fun _ _ _ _ _ _ _ _ _ _ _ r h => by simp [sashref05_count.l0] at h⟩
  | k + 1 => by
    obtain ⟨ih0, ih1⟩ := sashref05_count.mono_l k
    refine ⟨?_, ?_⟩
    · intro y0 y1 y2 y3 y4 y5 y6 y7
      unfold sashref05_count.f
      repeat' first
      | (with_reducible exact ih0 _ _ _ _ _ _ _ _)
      | (with_reducible exact ih1 _ _ _ _ _ _ _ _ _ _ _)
      | (with_reducible exact LeO.refl _)
      | (with_reducible exact LeO.none _)
      | (with_reducible refine LeO.ite ?_ ?_)
      | (with_reducible refine LeO.bind ?_ (fun _ => ?_))
      | exact ih0 _ _ _ _ _ _ _ _
      | exact ih1 _ _ _ _ _ _ _ _ _ _ _
      | exact LeO.none _
      | refine LeO.ite ?_ ?_
      | refine LeO.bind ?_ (fun _ => ?_)
    · intro y0 y1 y2 y3 y4 y5 y6 y7 y8 y9 y10
      unfold sashref05_count.l0
      repeat' first
      | (with_reducible exact ih0 _ _ _ _ _ _ _ _)
      | (with_reducible exact ih1 _ _ _ _ _ _ _ _ _ _ _)
      | (with_reducible exact LeO.refl _)
      | (with_reducible exact LeO.none _)
      | (with_reducible refine LeO.ite ?_ ?_)
      | (with_reducible refine LeO.bind ?_ (fun _ => ?_))
      | exact ih0 _ _ _ _ _ _ _ _
      | exact ih1 _ _ _ _ _ _ _ _ _ _ _
      | exact LeO.none _
      | refine LeO.ite ?_ ?_
      | refine LeO.bind ?_ (fun _ => ?_)
theorem sashref05_count.mono : ∀ a0 a1 a2 a3 a4 a5 a6 a7 k, LeO (sashref05_count.f k a0 a1 a2 a3 a4 a5 a6 a7) (sashref05_count.f (k + 1) a0 a1 a2 a3 a4 a5 a6 a7) := by
  intro a0 a1 a2 a3 a4 a5 a6 a7 k
  obtain ⟨ih0, ih1⟩ := sashref05_count.mono_l k
  exact ih0 a0 a1 a2 a3 a4 a5 a6 a7
set_option maxHeartbeats 8000000 in
set_option maxRecDepth 100000 in
theorem sashref05_count.calls (k : Nat) : ∀ (a0_0 : Int) (a0_1 : Int) (a0_2 : Int) (a0_3 : Int) (a0_4 : Int) (a0_5 : Int) (A0_6 : Option Addr) (c0_6 : Nat) (l0_6 : List (S26)) (a1 : Int) (r : Int) (w : World) (hr0_6 : Kd.C k26 w A0_6 l0_6.length l0_6) (hc0_6 : l0_6.length ≤ c0_6) (h : sashref05_count.f k a0_0 a0_1 a0_2 a0_3 a0_4 a0_5 l0_6 a1 = some r),
    Calls Try.prog 124 #[.agg #[.int .u8 a0_0, .int .i64 a0_1, .int .i64 a0_2, .int .i64 a0_3, .int .i64 a0_4, .int .i64 a0_5, .slice A0_6 l0_6.length c0_6], .int .i64 a1] w fun e w' => e = .returned (.int .i64 r) ∧ Below w.heap.size w w' := by
  induction k using Nat.strongRecOn with
  | _ k ih =>
  intro a0_0 a0_1 a0_2 a0_3 a0_4 a0_5 A0_6 c0_6 l0_6 a1 r w hr0_6 hc0_6 h
  cases k with
  | zero => exact absurd h (by simp [sashref05_count.f])
  | succ k =>
  simp only [sashref05_count.f] at h
  have hu26 := Try.underlying26
  have HR0_6 := Aside0.mk hr0_6
  have HC0_6 := Aside0.mk hc0_6
  clear hr0_6 hc0_6
  have HB := Aside0.mk (Below.refl w.heap.size w)
  have H : (sashref05_count.l0 k a1 1 (l0_6.length : Int) 0 a0_0 a0_1 a0_2 a0_3 a0_4 a0_5 l0_6) = some r := h
  clear h
  have H' := Aside0.mk H
  clear H
  go_enter Try.func124, Try.ntmps124
  go_wp2_with (first | ((with_reducible refine gate_dst (N := 2) rfl ?_); refine box_event ?hg (N := 2) ?hd (cs := #[.int .u8 a0_0, .int .i64 a0_1, .int .i64 a0_2, .int .i64 a0_3, .int .i64 a0_4, .int .i64 a0_5, .slice A0_6 l0_6.length c0_6]) (t := 26) ?hr ?_; (case hd => rfl); (case hg => rfl); (case hr => first | (go_simp; done) | (go_simp; rfl)); intro gb101 hg w3 hbox hb; have n0_ := Aside0.mk (below_step (by repeat (first | (with_reducible first | exact HB.out | apply below_alloc | apply pw_below_drewN | apply below_drew1) | exact HB.out)) hb); have n1_ := Aside0.mk (hbox); have n2_ := Aside0.mk ((by rw [hg]; exact (below_size (by repeat (first | (with_reducible first | exact HB.out | apply below_alloc | apply pw_below_drewN | apply below_drew1) | exact HB.out))) : w.heap.size ≤ gb101)); have n3_ := Aside0.mk ((by rw [hg]; exact (below_size (by repeat (first | (with_reducible first | exact HB.out | apply below_alloc | apply pw_below_drewN | apply below_drew1) | exact HB.out))) : w.heap.size ≤ gb101)); clear HB; have HB := n0_; have BK101 := n1_; have GW101 := n2_; have GE101 := n3_; clear n0_ n1_ n2_ n3_; clear hb hbox hg; have hcz4_0 : w3.cell? ⟨gb101, 0, none⟩ = some (.int .u8 a0_0) := (blk_cell BK101.out 0).trans rfl; have hcz4_1 : w3.cell? ⟨gb101, 1, none⟩ = some (.int .i64 a0_1) := (blk_cell BK101.out 1).trans rfl; have hcz4_2 : w3.cell? ⟨gb101, 2, none⟩ = some (.int .i64 a0_2) := (blk_cell BK101.out 2).trans rfl; have hcz4_3 : w3.cell? ⟨gb101, 3, none⟩ = some (.int .i64 a0_3) := (blk_cell BK101.out 3).trans rfl; have hcz4_4 : w3.cell? ⟨gb101, 4, none⟩ = some (.int .i64 a0_4) := (blk_cell BK101.out 4).trans rfl; have hcz4_5 : w3.cell? ⟨gb101, 5, none⟩ = some (.int .i64 a0_5) := (blk_cell BK101.out 5).trans rfl; have hcz4_6 : w3.cell? ⟨gb101, 6, none⟩ = some (.slice A0_6 l0_6.length c0_6) := (blk_cell BK101.out 6).trans rfl; have hfz4_0 := blk_frozen BK101.out 0; have hfz4_1 := blk_frozen BK101.out 1; have hfz4_2 := blk_frozen BK101.out 2; have hfz4_3 := blk_frozen BK101.out 3; have hfz4_4 := blk_frozen BK101.out 4; have hfz4_5 := blk_frozen BK101.out 5; have hfz4_6 := blk_frozen BK101.out 6))
  go_loopg [5, 10] k (fun kq v5 v10 w' => ∃ (x5_1 : Int) (x10_1 : Int), v5 = .int .i64 x5_1 ∧ v10 = .int .i64 x10_1 ∧ Aside0 (sashref05_count.l0 kq a1 x5_1 (l0_6.length : Int) x10_1 a0_0 a0_1 a0_2 a0_3 a0_4 a0_5 l0_6 = some r) ∧ Aside0 (kq ≤ k) ∧ Aside0 (w'.heap[gb101]? = some (.cells #[.int .u8 a0_0, .int .i64 a0_1, .int .i64 a0_2, .int .i64 a0_3, .int .i64 a0_4, .int .i64 a0_5, (.slice A0_6 l0_6.length c0_6)] 26 (0, 0))) ∧ Aside0 (Below w.heap.size w w'))
  case atStart => exact ⟨(1), (0), (by first | rfl | (simp; done) | (simp [*]; done)), (by first | rfl | (simp; done) | (simp [*]; done)), H', ⟨Nat.le_refl _⟩, ⟨by (with_reducible repeat (first | refine blk_drewN ?_ _ | refine blk_drew ?_ | refine blk_alloc ?_ _)); exact BK101.out⟩, ⟨by repeat (first | (with_reducible first | exact HB.out | apply below_alloc | apply pw_below_drewN | apply below_drew1 | refine below_set ?_ GE101.out) | exact HB.out)⟩⟩
  case round =>
    clear H'
    try clear c1
    try clear p2
    try clear hcz4_0
    try clear hcz4_1
    try clear hcz4_2
    try clear hcz4_3
    try clear hcz4_4
    try clear hcz4_5
    try clear hcz4_6
    try clear hfz4_0
    try clear hfz4_1
    try clear hfz4_2
    try clear hfz4_3
    try clear hfz4_4
    try clear hfz4_5
    try clear hfz4_6
    obtain ⟨x5_1, x10_1, rfl, rfl, HA, HK1, BK101, HB⟩ := hrel
    cases gk with
    | zero => exact absurd HA.out (by simp [sashref05_count.l0])
    | succ k1 =>
      have H := HA.out
      clear HA
      simp only [sashref05_count.l0] at H
      by_cases c5 : x10_1 < (l0_6.length : Int)
      · rw [if_pos c5] at H
        have c5b0 : decide (x10_1 < (l0_6.length : Int)) = true := decide_eq_true c5
        clear c5
        by_cases c6 : x5_1 > a1
        · rw [if_pos c6] at H
          have c6b0 : decide (a1 < x5_1) = true := decide_eq_true c6
          clear c6
          obtain rfl := Option.some.inj H
          go_wp2
          go_ret
          exact ⟨by first | rfl | (simp [errW_none, errW_some] <;> rfl) | (simp [*, errW_none, errW_some] <;> rfl), by repeat (first | (with_reducible first | exact HB.out | apply below_alloc | apply pw_below_drewN | apply below_drew1 | refine below_set ?_ GE101.out) | exact HB.out)⟩
        · rw [if_neg c6] at H
          have c6b0 : decide (a1 < x5_1) = false := decide_eq_false c6
          clear c6
          by_cases c7 : 0 ≤ x10_1
          · rw [if_pos c7] at H
            have c7b0 : decide (0 ≤ x10_1) = true := decide_eq_true c7
            clear c7
            by_cases c8 : x10_1 < (l0_6.length : Int)
            · rw [if_pos c8] at H
              have c8b0 : decide (x10_1 < (l0_6.length : Int)) = true := decide_eq_true c8
              clear c8
              replace H := Option.bind_eq_some_iff.mp H
              obtain ⟨t103, A90, H⟩ := H
              replace H : (sashref05_count.l0 k1 a1 (wrap64 (x5_1 + t103)) (l0_6.length : Int) (wrap64 (x10_1 + 1)) a0_0 a0_1 a0_2 a0_3 a0_4 a0_5 l0_6) = some r := H
              have A9 := Aside0.mk A90
              clear A90
              have H' := Aside0.mk H
              clear H
              have hcz10_0 : wr.cell? ⟨gb101, 0, none⟩ = some (.int .u8 a0_0) := (blk_cell BK101.out 0).trans rfl
              have hcz10_1 : wr.cell? ⟨gb101, 1, none⟩ = some (.int .i64 a0_1) := (blk_cell BK101.out 1).trans rfl
              have hcz10_2 : wr.cell? ⟨gb101, 2, none⟩ = some (.int .i64 a0_2) := (blk_cell BK101.out 2).trans rfl
              have hcz10_3 : wr.cell? ⟨gb101, 3, none⟩ = some (.int .i64 a0_3) := (blk_cell BK101.out 3).trans rfl
              have hcz10_4 : wr.cell? ⟨gb101, 4, none⟩ = some (.int .i64 a0_4) := (blk_cell BK101.out 4).trans rfl
              have hcz10_5 : wr.cell? ⟨gb101, 5, none⟩ = some (.int .i64 a0_5) := (blk_cell BK101.out 5).trans rfl
              have hcz10_6 : wr.cell? ⟨gb101, 6, none⟩ = some (.slice A0_6 l0_6.length c0_6) := (blk_cell BK101.out 6).trans rfl
              have hfz10_0 := blk_frozen BK101.out 0
              have hfz10_1 := blk_frozen BK101.out 1
              have hfz10_2 := blk_frozen BK101.out 2
              have hfz10_3 := blk_frozen BK101.out 3
              have hfz10_4 := blk_frozen BK101.out 4
              have hfz10_5 := blk_frozen BK101.out 5
              have hfz10_6 := blk_frozen BK101.out 6
              have p102 : 0 ≤ (x10_1 : Int) := of_decide_eq_true (by first | (with_reducible assumption) | assumption)
              have q102 : x10_1 < (l0_6.length : Int) := of_decide_eq_true (by first | (with_reducible assumption) | assumption)
              obtain ⟨ad102, A102_6, c102_6, e102, hx102_0, hx102_1, hx102_2, hx102_3, hx102_4, hx102_5, hx102_6, hl102_6, hi102_6⟩ := at_T26 HR0_6.out x10_1 p102 q102
              cases e102
              replace hx102_0 := (HB.out.cell (World.block_lt_of_cell? w _ hx102_0)).trans hx102_0
              replace hx102_1 := (HB.out.cell (World.block_lt_of_cell? w _ hx102_1)).trans hx102_1
              replace hx102_2 := (HB.out.cell (World.block_lt_of_cell? w _ hx102_2)).trans hx102_2
              replace hx102_3 := (HB.out.cell (World.block_lt_of_cell? w _ hx102_3)).trans hx102_3
              replace hx102_4 := (HB.out.cell (World.block_lt_of_cell? w _ hx102_4)).trans hx102_4
              replace hx102_5 := (HB.out.cell (World.block_lt_of_cell? w _ hx102_5)).trans hx102_5
              replace hx102_6 := (HB.out.cell (World.block_lt_of_cell? w _ hx102_6)).trans hx102_6
              have HR102_6 := Aside0.mk hi102_6
              have HC102_6 := Aside0.mk hl102_6
              clear hi102_6 hl102_6
              replace p102 := eq_true p102
              replace q102 := eq_true q102
              go_wp2_with (first | ((with_reducible refine gate_callee (f := 124) rfl ?_); refine goesL_ (some 24) rfl rfl Try.func124 (by kernel_rfl) rfl #[.agg #[.int .u8 ((rd_T26 l0_6 x10_1).f0), .int .i64 ((rd_T26 l0_6 x10_1).f1.f0), .int .i64 ((rd_T26 l0_6 x10_1).f1.f1), .int .i64 ((rd_T26 l0_6 x10_1).f1.f2), .int .i64 ((rd_T26 l0_6 x10_1).f1.f3), .int .i64 ((rd_T26 l0_6 x10_1).f2), .slice A102_6 ((rd_T26 l0_6 x10_1).f3).length c102_6], .int .i64 a1] rfl (by (try simp only [List.map_toArray, List.map_cons, List.map_nil]); first | done | rfl | (simp only [List.length_drop, List.length_take]; rfl)) ?_; (with_reducible refine (ih k1 (by have := HK1.out; omega) ((rd_T26 l0_6 x10_1).f0) ((rd_T26 l0_6 x10_1).f1.f0) ((rd_T26 l0_6 x10_1).f1.f1) ((rd_T26 l0_6 x10_1).f1.f2) ((rd_T26 l0_6 x10_1).f1.f3) ((rd_T26 l0_6 x10_1).f2) _ _ ((rd_T26 l0_6 x10_1).f3) a1 t103 _ ?side1 ?side2 A9.out).mono ?_); (case side1 => repeat (first | exact (Kd.C_below HR102_6.out HB.out) | (with_reducible refine Kd.C_alloc ?_ _) | (with_reducible refine Kd.C_drewN ?_ _) | (with_reducible refine Kd.C_drew ?_))); (case side2 => exact HC102_6.out); rintro e w11 ⟨rfl, hb⟩; refine ⟨_, rfl, ?_⟩; have n0_ := Aside0.mk (blk_below (g := gb101) (o := .cells #[.int .u8 a0_0, .int .i64 a0_1, .int .i64 a0_2, .int .i64 a0_3, .int .i64 a0_4, .int .i64 a0_5, .slice (some ad102) l0_6.length c0_6] 26 (0, 0)) (by (with_reducible repeat (first | refine blk_drewN ?_ _ | refine blk_drew ?_ | refine blk_alloc ?_ _)); exact BK101.out) hb); have n1_ := Aside0.mk (below_step (by repeat (first | (with_reducible first | exact HB.out | apply below_alloc | apply pw_below_drewN | apply below_drew1 | refine below_set ?_ GE101.out) | exact HB.out)) hb); clear BK101; clear HB; have BK101 := n0_; have HB := n1_; clear n0_ n1_; (try clear hb); (try clear hb2); (try clear hk); (try clear hi)))
              go_roundg k1
              case measure => have := HK1.out; omega
              case rel => exact ⟨(wrap64 (x5_1 + t103)), (wrap64 (x10_1 + 1)), (by first | rfl | (simp; done) | (simp [*]; done)), (by first | rfl | (simp; done) | (simp [*]; done)), H', ⟨by have := HK1.out; omega⟩, ⟨by (with_reducible repeat (first | refine blk_drewN ?_ _ | refine blk_drew ?_ | refine blk_alloc ?_ _)); exact BK101.out⟩, ⟨by repeat (first | (with_reducible first | exact HB.out | apply below_alloc | apply pw_below_drewN | apply below_drew1 | refine below_set ?_ GE101.out) | exact HB.out)⟩⟩
            · rw [if_neg c8] at H
              exact absurd H (by simp)
          · rw [if_neg c7] at H
            exact absurd H (by simp)
      · rw [if_neg c5] at H
        have c5b0 : decide (x10_1 < (l0_6.length : Int)) = false := decide_eq_false c5
        clear c5
        obtain rfl := Option.some.inj H
        go_wp2
        go_ret
        exact ⟨by first | rfl | (simp [errW_none, errW_some] <;> rfl) | (simp [*, errW_none, errW_some] <;> rfl), by repeat (first | (with_reducible first | exact HB.out | apply below_alloc | apply pw_below_drewN | apply below_drew1 | refine below_set ?_ GE101.out) | exact HB.out)⟩

end Go.Proofs.Ytfdmfgaiblfbhaa.P
namespace Go.Proofs.Ytfdmfgaiblfbhaa.P
open Go.RowKit Go.Proofs.YtfdmfgaiblfbhaaW.PrintWords Go.Proofs.YtfdmfgaiblfbhaaW.PrintLast Go.Proofs.YtfdmfgaiblfbhaaW.PrintMore
attribute [local go_sem] max2_int min2_int max_two min_two max_three min_three max_four min_four   -- for this text's walks alone
set_option linter.unusedVariables false
set_option linter.unusedSimpArgs false

/-! ### sashref05_Great: function 34 -/
def sashref05_Great.f (k : Nat) (a0_0 : Int) (a0_1 : Int) (a0_2 : Int) (a0_3 : Int) (a0_4 : Int) (a0_5 : Int) (l0_6 : List (S26)) : Option (Bool) := (sashref05_count.f k a0_0 a0_1 a0_2 a0_3 a0_4 a0_5 l0_6 200).bind fun t105 => (some (decide (t105 > 200)))
theorem sashref05_Great.mono : ∀ a0 a1 a2 a3 a4 a5 a6 k, LeO (sashref05_Great.f k a0 a1 a2 a3 a4 a5 a6) (sashref05_Great.f (k + 1) a0 a1 a2 a3 a4 a5 a6) := by
  intro a0 a1 a2 a3 a4 a5 a6 k
  unfold sashref05_Great.f
  repeat' first
      | (with_reducible exact sashref05_count.mono _ _ _ _ _ _ _ _ _)
      | (with_reducible exact LeO.refl _)
      | (with_reducible exact LeO.none _)
      | (with_reducible refine LeO.ite ?_ ?_)
      | (with_reducible refine LeO.bind ?_ (fun _ => ?_))
      | exact sashref05_count.mono _ _ _ _ _ _ _ _ _
      | exact LeO.none _
      | refine LeO.ite ?_ ?_
      | refine LeO.bind ?_ (fun _ => ?_)
set_option maxHeartbeats 8000000 in
set_option maxRecDepth 100000 in
theorem sashref05_Great.calls (k : Nat) (a0_0 : Int) (a0_1 : Int) (a0_2 : Int) (a0_3 : Int) (a0_4 : Int) (a0_5 : Int) (A0_6 : Option Addr) (c0_6 : Nat) (l0_6 : List (S26)) (r : Bool) (w : World) (hr0_6 : Kd.C k26 w A0_6 l0_6.length l0_6) (hc0_6 : l0_6.length ≤ c0_6) (h : sashref05_Great.f k a0_0 a0_1 a0_2 a0_3 a0_4 a0_5 l0_6 = some r) :
    Calls Try.prog 34 #[.agg #[.int .u8 a0_0, .int .i64 a0_1, .int .i64 a0_2, .int .i64 a0_3, .int .i64 a0_4, .int .i64 a0_5, .slice A0_6 l0_6.length c0_6]] w fun e w' => e = .returned (.bool r) ∧ Below w.heap.size w w' := by
  have hu26 := Try.underlying26
  have HR0_6 := Aside0.mk hr0_6
  have HC0_6 := Aside0.mk hc0_6
  clear hr0_6 hc0_6
  have HB := Aside0.mk (Below.refl w.heap.size w)
  have H : ((sashref05_count.f k a0_0 a0_1 a0_2 a0_3 a0_4 a0_5 l0_6 200).bind fun t105 => (some (decide (t105 > 200)))) = some r := h
  clear h
  replace H := Option.bind_eq_some_iff.mp H
  obtain ⟨t105, A20, H⟩ := H
  replace H : (some (decide (t105 > 200))) = some r := H
  have A2 := Aside0.mk A20
  clear A20
  obtain rfl := Option.some.inj H
  go_enter Try.func34, Try.ntmps34
  go_wp2_with (first | ((with_reducible refine gate_dst (N := 1) rfl ?_); refine box_event ?hg (N := 1) ?hd (cs := #[.int .u8 a0_0, .int .i64 a0_1, .int .i64 a0_2, .int .i64 a0_3, .int .i64 a0_4, .int .i64 a0_5, .slice A0_6 l0_6.length c0_6]) (t := 26) ?hr ?_; (case hd => rfl); (case hg => rfl); (case hr => first | (go_simp; done) | (go_simp; rfl)); intro gb104 hg w3 hbox hb; have n0_ := Aside0.mk (below_step (by repeat (first | (with_reducible first | exact HB.out | apply below_alloc | apply pw_below_drewN | apply below_drew1) | exact HB.out)) hb); have n1_ := Aside0.mk (hbox); have n2_ := Aside0.mk ((by rw [hg]; exact (below_size (by repeat (first | (with_reducible first | exact HB.out | apply below_alloc | apply pw_below_drewN | apply below_drew1) | exact HB.out))) : w.heap.size ≤ gb104)); have n3_ := Aside0.mk ((by rw [hg]; exact (below_size (by repeat (first | (with_reducible first | exact HB.out | apply below_alloc | apply pw_below_drewN | apply below_drew1) | exact HB.out))) : w.heap.size ≤ gb104)); clear HB; have HB := n0_; have BK104 := n1_; have GW104 := n2_; have GE104 := n3_; clear n0_ n1_ n2_ n3_; clear hb hbox hg; have hcz4_0 : w3.cell? ⟨gb104, 0, none⟩ = some (.int .u8 a0_0) := (blk_cell BK104.out 0).trans rfl; have hcz4_1 : w3.cell? ⟨gb104, 1, none⟩ = some (.int .i64 a0_1) := (blk_cell BK104.out 1).trans rfl; have hcz4_2 : w3.cell? ⟨gb104, 2, none⟩ = some (.int .i64 a0_2) := (blk_cell BK104.out 2).trans rfl; have hcz4_3 : w3.cell? ⟨gb104, 3, none⟩ = some (.int .i64 a0_3) := (blk_cell BK104.out 3).trans rfl; have hcz4_4 : w3.cell? ⟨gb104, 4, none⟩ = some (.int .i64 a0_4) := (blk_cell BK104.out 4).trans rfl; have hcz4_5 : w3.cell? ⟨gb104, 5, none⟩ = some (.int .i64 a0_5) := (blk_cell BK104.out 5).trans rfl; have hcz4_6 : w3.cell? ⟨gb104, 6, none⟩ = some (.slice A0_6 l0_6.length c0_6) := (blk_cell BK104.out 6).trans rfl; have hfz4_0 := blk_frozen BK104.out 0; have hfz4_1 := blk_frozen BK104.out 1; have hfz4_2 := blk_frozen BK104.out 2; have hfz4_3 := blk_frozen BK104.out 3; have hfz4_4 := blk_frozen BK104.out 4; have hfz4_5 := blk_frozen BK104.out 5; have hfz4_6 := blk_frozen BK104.out 6) | ((with_reducible refine gate_callee (f := 124) rfl ?_); refine goesL_ (some 4) rfl rfl Try.func124 (by kernel_rfl) rfl #[.agg #[.int .u8 a0_0, .int .i64 a0_1, .int .i64 a0_2, .int .i64 a0_3, .int .i64 a0_4, .int .i64 a0_5, .slice A0_6 l0_6.length c0_6], .int .i64 200] rfl (by (try simp only [List.map_toArray, List.map_cons, List.map_nil]); first | done | rfl | (simp only [List.length_drop, List.length_take]; rfl)) ?_; (with_reducible refine (sashref05_count.calls k a0_0 a0_1 a0_2 a0_3 a0_4 a0_5 _ _ l0_6 200 t105 _ ?side1 ?side2 A2.out).mono ?_); (case side1 => repeat (first | exact (Kd.C_below HR0_6.out HB.out) | (with_reducible refine Kd.C_alloc ?_ _) | (with_reducible refine Kd.C_drewN ?_ _) | (with_reducible refine Kd.C_drew ?_))); (case side2 => exact HC0_6.out); rintro e w5 ⟨rfl, hb⟩; refine ⟨_, rfl, ?_⟩; have n0_ := Aside0.mk (blk_below (g := gb104) (o := .cells #[.int .u8 a0_0, .int .i64 a0_1, .int .i64 a0_2, .int .i64 a0_3, .int .i64 a0_4, .int .i64 a0_5, .slice A0_6 l0_6.length c0_6] 26 (0, 0)) (by (with_reducible repeat (first | refine blk_drewN ?_ _ | refine blk_drew ?_ | refine blk_alloc ?_ _)); exact BK104.out) hb); have n1_ := Aside0.mk (below_step (by repeat (first | (with_reducible first | exact HB.out | apply below_alloc | apply pw_below_drewN | apply below_drew1 | refine below_set ?_ GE104.out) | exact HB.out)) hb); clear BK104; clear HB; have BK104 := n0_; have HB := n1_; clear n0_ n1_; (try clear hb); (try clear hb2); (try clear hk); (try clear hi)))
  go_ret
  exact ⟨by first | rfl | (simp [errW_none, errW_some] <;> rfl) | (simp [*, errW_none, errW_some] <;> rfl), by repeat (first | (with_reducible first | exact HB.out | apply below_alloc | apply pw_below_drewN | apply below_drew1 | refine below_set ?_ GE104.out) | exact HB.out)⟩

end Go.Proofs.Ytfdmfgaiblfbhaa.P
namespace Go.Proofs.Ytfdmfgaiblfbhaa.P
open Go.RowKit Go.Proofs.YtfdmfgaiblfbhaaW.PrintWords Go.Proofs.YtfdmfgaiblfbhaaW.PrintLast Go.Proofs.YtfdmfgaiblfbhaaW.PrintMore
attribute [local go_sem] max2_int min2_int max_two min_two max_three min_three max_four min_four   -- for this text's walks alone
set_option linter.unusedVariables false
set_option linter.unusedSimpArgs false

/-! ### sashref05_Ints: function 51 -/
def sashref05_Ints.l0 : Nat → List Int → List Int → Int → Int → Option (Bool)
  | 0, _, _, _, _ => none
  | k + 1, x0, x1, x12, x13 => if x13 < x12 then (if 0 ≤ x13 then (if x13 < (x0.length : Int) then (if x13 < (x1.length : Int) then (if (rd x0 x13) = (rd x1 x13) then (sashref05_Ints.l0 k x0 x1 x12 (wrap64 (x13 + 1))) else (some false)) else (none)) else (none)) else (none)) else (some true)
def sashref05_Ints.f (k : Nat) (l0 : List Int) (l1 : List Int) : Option (Bool) := if (l0.length : Int) = (l1.length : Int) then (sashref05_Ints.l0 k l0 l1 (l0.length : Int) 0) else (some false)
theorem sashref05_Ints.mono_l : ∀ k, (∀ y0 y1 y2 y3, LeO (sashref05_Ints.l0 k y0 y1 y2 y3) (sashref05_Ints.l0 (k + 1) y0 y1 y2 y3))
  | 0 => fun _ _ _ _ r h => by simp [sashref05_Ints.l0] at h
  | k + 1 => by
    have ih0 := sashref05_Ints.mono_l k
    · intro y0 y1 y2 y3
      unfold sashref05_Ints.l0
      repeat' first
      | (with_reducible exact ih0 _ _ _ _)
      | (with_reducible exact LeO.refl _)
      | (with_reducible exact LeO.none _)
      | (with_reducible refine LeO.ite ?_ ?_)
      | (with_reducible refine LeO.bind ?_ (fun _ => ?_))
      | exact ih0 _ _ _ _
      | exact LeO.none _
      | refine LeO.ite ?_ ?_
      | refine LeO.bind ?_ (fun _ => ?_)
theorem sashref05_Ints.mono : ∀ a0 a1 k, LeO (sashref05_Ints.f k a0 a1) (sashref05_Ints.f (k + 1) a0 a1) := by
  intro a0 a1 k
  have ih0 := sashref05_Ints.mono_l k
  unfold sashref05_Ints.f
  repeat' first
      | (with_reducible exact ih0 _ _ _ _)
      | (with_reducible exact LeO.refl _)
      | (with_reducible exact LeO.none _)
      | (with_reducible refine LeO.ite ?_ ?_)
      | (with_reducible refine LeO.bind ?_ (fun _ => ?_))
      | exact ih0 _ _ _ _
      | exact LeO.none _
      | refine LeO.ite ?_ ?_
      | refine LeO.bind ?_ (fun _ => ?_)
set_option maxHeartbeats 8000000 in
set_option maxRecDepth 100000 in
theorem sashref05_Ints.calls (k : Nat) (A0 : Option Addr) (c0 : Nat) (l0 : List Int) (A1 : Option Addr) (c1 : Nat) (l1 : List Int) (r : Bool) (w : World) (hr0 : Kd.C (Kd.int .i64) w A0 l0.length l0) (hc0 : l0.length ≤ c0) (hr1 : Kd.C (Kd.int .i64) w A1 l1.length l1) (hc1 : l1.length ≤ c1) (h : sashref05_Ints.f k l0 l1 = some r) :
    Calls Try.prog 51 #[.slice A0 l0.length c0, .slice A1 l1.length c1] w fun e w' => e = .returned (.bool r) ∧ Drawn0 w w' := by
  have HR0 := Aside0.mk hr0
  have HC0 := Aside0.mk hc0
  clear hr0 hc0
  have HR1 := Aside0.mk hr1
  have HC1 := Aside0.mk hc1
  clear hr1 hc1
  have H : (if (l0.length : Int) = (l1.length : Int) then (sashref05_Ints.l0 k l0 l1 (l0.length : Int) 0) else (some false)) = some r := h
  clear h
  by_cases c3 : (l0.length : Int) = (l1.length : Int)
  · rw [if_pos c3] at H
    have c3b0 : ((l0.length : Int) == (l1.length : Int)) = true := beq_iff_eq.mpr c3
    have c3b1 : ((l0.length : Int) != (l1.length : Int)) = false := bne_eq_false_iff_eq.mpr c3
    have c3b2 : (l0.length == l1.length) = true := by first | simpa using c3 | (simp at c3 ⊢; omega)
    clear c3
    have H' := Aside0.mk H
    clear H
    go_enter Try.func51, Try.ntmps51
    go_wp2
    repeat (go_quiet (fail); try go_wp2)
    go_loopg [13] k (fun kq v13 w' => ∃ (x13_1 : Int), v13 = .int .i64 x13_1 ∧ Aside0 (sashref05_Ints.l0 kq l0 l1 (l0.length : Int) x13_1 = some r) ∧ Aside0 (kq ≤ k) ∧ Drawn0 w w')
    case atStart => exact ⟨(0), (by first | rfl | (simp; done) | (simp [*]; done)), H', ⟨Nat.le_refl _⟩, by repeat (first | exact Drawn0.refl _ | apply Drawn0.step)⟩
    case round =>
      clear H'
      try clear c1
      try clear p2
      try clear c3
      try clear c3b0
      try clear c3b1
      try clear c3b2
      obtain ⟨x13_1, rfl, HA, HK1, ⟨m1, rfl⟩⟩ := hrel
      cases gk with
      | zero => exact absurd HA.out (by simp [sashref05_Ints.l0])
      | succ k1 =>
        have H := HA.out
        clear HA
        simp only [sashref05_Ints.l0] at H
        by_cases c4 : x13_1 < (l0.length : Int)
        · rw [if_pos c4] at H
          have c4b0 : decide (x13_1 < (l0.length : Int)) = true := decide_eq_true c4
          clear c4
          by_cases c5 : 0 ≤ x13_1
          · rw [if_pos c5] at H
            have c5b0 : decide (0 ≤ x13_1) = true := decide_eq_true c5
            clear c5
            by_cases c6 : x13_1 < (l0.length : Int)
            · rw [if_pos c6] at H
              have c6b0 : decide (x13_1 < (l0.length : Int)) = true := decide_eq_true c6
              clear c6
              by_cases c7 : x13_1 < (l1.length : Int)
              · rw [if_pos c7] at H
                have c7b0 : decide (x13_1 < (l1.length : Int)) = true := decide_eq_true c7
                clear c7
                by_cases c8 : (rd l0 x13_1) = (rd l1 x13_1)
                · rw [if_pos c8] at H
                  have c8b0 : ((rd l0 x13_1) == (rd l1 x13_1)) = true := beq_iff_eq.mpr c8
                  have c8b1 : ((rd l0 x13_1) != (rd l1 x13_1)) = false := bne_eq_false_iff_eq.mpr c8
                  clear c8
                  have H' := Aside0.mk H
                  clear H
                  have p362 : 0 ≤ (x13_1 : Int) := of_decide_eq_true (by first | (with_reducible assumption) | assumption)
                  have q362 : x13_1 < (l0.length : Int) := of_decide_eq_true (by first | (with_reducible assumption) | assumption)
                  obtain ⟨ad362, e362, hx362_0⟩ := Kd.at_int HR0.out x13_1 p362 q362
                  cases e362
                  replace p362 := eq_true p362
                  replace q362 := eq_true q362
                  have p363 : 0 ≤ (x13_1 : Int) := of_decide_eq_true (by first | (with_reducible assumption) | assumption)
                  have q363 : x13_1 < (l1.length : Int) := of_decide_eq_true (by first | (with_reducible assumption) | assumption)
                  obtain ⟨ad363, e363, hx363_0⟩ := Kd.at_int HR1.out x13_1 p363 q363
                  cases e363
                  replace p363 := eq_true p363
                  replace q363 := eq_true q363
                  go_wp2
                  repeat (go_quiet (fail); try go_wp2)
                  go_roundg k1
                  case measure => have := HK1.out; omega
                  case rel => exact ⟨(wrap64 (x13_1 + 1)), (by first | rfl | (simp; done) | (simp [*]; done)), H', ⟨by have := HK1.out; omega⟩, by repeat (first | exact Drawn0.refl _ | apply Drawn0.step)⟩
                · rw [if_neg c8] at H
                  have c8b0 : ((rd l0 x13_1) == (rd l1 x13_1)) = false := beq_eq_false_iff_ne.mpr c8
                  have c8b1 : ((rd l0 x13_1) != (rd l1 x13_1)) = true := bne_iff_ne.mpr c8
                  obtain rfl := Option.some.inj H
                  have p362 : 0 ≤ (x13_1 : Int) := of_decide_eq_true (by first | (with_reducible assumption) | assumption)
                  have q362 : x13_1 < (l0.length : Int) := of_decide_eq_true (by first | (with_reducible assumption) | assumption)
                  obtain ⟨ad362, e362, hx362_0⟩ := Kd.at_int HR0.out x13_1 p362 q362
                  cases e362
                  replace p362 := eq_true p362
                  replace q362 := eq_true q362
                  have p363 : 0 ≤ (x13_1 : Int) := of_decide_eq_true (by first | (with_reducible assumption) | assumption)
                  have q363 : x13_1 < (l1.length : Int) := of_decide_eq_true (by first | (with_reducible assumption) | assumption)
                  obtain ⟨ad363, e363, hx363_0⟩ := Kd.at_int HR1.out x13_1 p363 q363
                  cases e363
                  replace p363 := eq_true p363
                  replace q363 := eq_true q363
                  go_wp2
                  repeat (go_quiet (fail); try go_wp2)
                  go_ret
                  exact ⟨by first | rfl | (simp; done) | (simp [*]; done), by repeat (first | exact Drawn0.refl _ | apply Drawn0.step)⟩
              · rw [if_neg c7] at H
                exact absurd H (by simp)
            · rw [if_neg c6] at H
              exact absurd H (by simp)
          · rw [if_neg c5] at H
            exact absurd H (by simp)
        · rw [if_neg c4] at H
          have c4b0 : decide (x13_1 < (l0.length : Int)) = false := decide_eq_false c4
          clear c4
          obtain rfl := Option.some.inj H
          go_wp2
          repeat (go_quiet (fail); try go_wp2)
          go_ret
          exact ⟨by first | rfl | (simp; done) | (simp [*]; done), by repeat (first | exact Drawn0.refl _ | apply Drawn0.step)⟩
  · rw [if_neg c3] at H
    have c3b0 : ((l0.length : Int) == (l1.length : Int)) = false := beq_eq_false_iff_ne.mpr c3
    have c3b1 : ((l0.length : Int) != (l1.length : Int)) = true := bne_iff_ne.mpr c3
    have c3b2 : (l0.length == l1.length) = false := by first | simpa using c3 | (simp at c3 ⊢; omega)
    obtain rfl := Option.some.inj H
    go_enter Try.func51, Try.ntmps51
    go_wp2
    repeat (go_quiet (fail); try go_wp2)
    go_ret
    exact ⟨by first | rfl | (simp; done) | (simp [*]; done), by repeat (first | exact Drawn0.refl _ | apply Drawn0.step)⟩

end Go.Proofs.Ytfdmfgaiblfbhaa.P
namespace Go.Proofs.Ytfdmfgaiblfbhaa.P
open Go.RowKit Go.Proofs.YtfdmfgaiblfbhaaW.PrintWords Go.Proofs.YtfdmfgaiblfbhaaW.PrintLast Go.Proofs.YtfdmfgaiblfbhaaW.PrintMore
attribute [local go_sem] max2_int min2_int max_two min_two max_three min_three max_four min_four   -- for this text's walks alone
set_option linter.unusedVariables false
set_option linter.unusedSimpArgs false

theorem eqA23 (d : Nat) (w : World) (x0 y0 : Int) (x1 y1 : Int) (x2 y2 : Int) (x3 y3 : Int) :
    (Op.equalIn (d + 2) 23 (.agg #[.int .i64 x0, .int .i64 x1, .int .i64 x2, .int .i64 x3]) (.agg #[.int .i64 y0, .int .i64 y1, .int .i64 y2, .int .i64 y3])).run Try.prog w = .ok (x0 == y0 && (x1 == y1 && (x2 == y2 && (x3 == y3)))) w := by
  refine eqA_of Try.underlying23 (by kernel_rfl) ?_
  refine eqf_cons (by rfl) (by go_simp; rfl) (by go_simp; rfl) (by go_simp) ?_
  refine eqf_cons (by rfl) (by go_simp; rfl) (by go_simp; rfl) (by go_simp) ?_
  refine eqf_cons (by rfl) (by go_simp; rfl) (by go_simp; rfl) (by go_simp) ?_
  exact eqf_last (by rfl) (by go_simp; rfl) (by go_simp; rfl) (by go_simp)
end Go.Proofs.Ytfdmfgaiblfbhaa.P
namespace Go.Proofs.Ytfdmfgaiblfbhaa.P
open Go.RowKit Go.Proofs.YtfdmfgaiblfbhaaW.PrintWords Go.Proofs.YtfdmfgaiblfbhaaW.PrintLast Go.Proofs.YtfdmfgaiblfbhaaW.PrintMore
attribute [local go_sem] max2_int min2_int max_two min_two max_three min_three max_four min_four   -- for this text's walks alone
set_option linter.unusedVariables false
set_option linter.unusedSimpArgs false

attribute [local go_sem high] eqA23
/-! ### sashref05_Same: function 64 -/
mutual
def sashref05_Same.j0 : Nat → Bool → Int → Int → Int → Int → Int → Int → List (S26) → Int → Int → Int → Int → Int → Int → List (S26) → Option (Bool)
  | 0, _, _, _, _, _, _, _, _, _, _, _, _, _, _, _ => none
  | k + 1, x33, x601000, x601001, x601002, x601003, x601004, x601005, x601006, x602000, x602001, x602002, x602003, x602004, x602005, x602006 => if x33 = true then (some false) else (sashref05_Same.l0 k (x601006.length : Int) 0 x601000 x601001 x601002 x601003 x601004 x601005 x601006 x602000 x602001 x602002 x602003 x602004 x602005 x602006)
def sashref05_Same.l0 : Nat → Int → Int → Int → Int → Int → Int → Int → Int → List (S26) → Int → Int → Int → Int → Int → Int → List (S26) → Option (Bool)
  | 0, _, _, _, _, _, _, _, _, _, _, _, _, _, _, _, _ => none
  | k + 1, x36, x37, x601000, x601001, x601002, x601003, x601004, x601005, x601006, x602000, x602001, x602002, x602003, x602004, x602005, x602006 => if x37 < x36 then (if 0 ≤ x37 then (if x37 < (x601006.length : Int) then (if x37 < (x602006.length : Int) then ((sashref05_Same.f k ((rd_T26 x601006 x37).f0) ((rd_T26 x601006 x37).f1.f0) ((rd_T26 x601006 x37).f1.f1) ((rd_T26 x601006 x37).f1.f2) ((rd_T26 x601006 x37).f1.f3) ((rd_T26 x601006 x37).f2) ((rd_T26 x601006 x37).f3) ((rd_T26 x602006 x37).f0) ((rd_T26 x602006 x37).f1.f0) ((rd_T26 x602006 x37).f1.f1) ((rd_T26 x602006 x37).f1.f2) ((rd_T26 x602006 x37).f1.f3) ((rd_T26 x602006 x37).f2) ((rd_T26 x602006 x37).f3)).bind fun t604 => (if t604 = true then (sashref05_Same.l0 k x36 (wrap64 (x37 + 1)) x601000 x601001 x601002 x601003 x601004 x601005 x601006 x602000 x602001 x602002 x602003 x602004 x602005 x602006) else (some false))) else (none)) else (none)) else (none)) else (some true)
def sashref05_Same.f : Nat → Int → Int → Int → Int → Int → Int → List (S26) → Int → Int → Int → Int → Int → Int → List (S26) → Option (Bool)
  | 0, _, _, _, _, _, _, _, _, _, _, _, _, _, _ => none
  | k + 1, a0_0, a0_1, a0_2, a0_3, a0_4, a0_5, l0_6, a1_0, a1_1, a1_2, a1_3, a1_4, a1_5, l1_6 => if a0_0 = a1_0 then (if (!(a0_1 == a1_1) || (!(a0_2 == a1_2) || (!(a0_3 == a1_3) || (!(a0_4 == a1_4))))) = true then (sashref05_Same.j0 k true a0_0 a0_1 a0_2 a0_3 a0_4 a0_5 l0_6 a1_0 a1_1 a1_2 a1_3 a1_4 a1_5 l1_6) else (if a0_5 = a1_5 then (sashref05_Same.j0 k ((l0_6.length : Int) != (l1_6.length : Int)) a0_0 a0_1 a0_2 a0_3 a0_4 a0_5 l0_6 a1_0 a1_1 a1_2 a1_3 a1_4 a1_5 l1_6) else (sashref05_Same.j0 k true a0_0 a0_1 a0_2 a0_3 a0_4 a0_5 l0_6 a1_0 a1_1 a1_2 a1_3 a1_4 a1_5 l1_6))) else (sashref05_Same.j0 k true a0_0 a0_1 a0_2 a0_3 a0_4 a0_5 l0_6 a1_0 a1_1 a1_2 a1_3 a1_4 a1_5 l1_6)
end
theorem sashref05_Same.mono_l : ∀ k, (∀ y0 y1 y2 y3 y4 y5 y6 y7 y8 y9 y10 y11 y12 y13, LeO (sashref05_Same.f k y0 y1 y2 y3 y4 y5 y6 y7 y8 y9 y10 y11 y12 y13) (sashref05_Same.f (k + 1) y0 y1 y2 y3 y4 y5 y6 y7 y8 y9 y10 y11 y12 y13)) ∧ (∀ y0 y1 y2 y3 y4 y5 y6 y7 y8 y9 y10 y11 y12 y13 y14, LeO (sashref05_Same.j0 k y0 y1 y2 y3 y4 y5 y6 y7 y8 y9 y10 y11 y12 y13 y14) (sashref05_Same.j0 (k + 1) y0 y1 y2 y3 y4 y5 y6 y7 y8 y9 y10 y11 y12 y13 y14)) ∧ (∀ y0 y1 y2 y3 y4 y5 y6 y7 y8 y9 y10 y11 y12 y13 y14 y15, LeO (sashref05_Same.l0 k y0 y1 y2 y3 y4 y5 y6 y7 y8 y9 y10 y11 y12 y13 y14 y15) (sashref05_Same.l0 (k + 1) y0 y1 y2 y3 y4 y5 y6 y7 y8 y9 y10 y11 y12 y13 y14 y15))
  | 0 => ⟨fun _ _ _ _ _ _ _ _ _ _ _ _ _ _ r h => by simp [sashref05_Same.f] at h, fun _ _ _ _ _ _ _ _ _ _ _ _ _ _ _ r h => by simp [sashref05_Same.j0] at h, fun _ _ _ _ _ _ _ _ _ _ _ _ _ _ _ _ r h => by simp [sashref05_Same.l0] at h⟩
  | k + 1 => by
    obtain ⟨ih0, ih1, ih2⟩ := sashref05_Same.mono_l k
    refine ⟨?_, ?_, ?_⟩
    · intro y0 y1 y2 y3 y4 y5 y6 y7 y8 y9 y10 y11 y12 y13
      unfold sashref05_Same.f
      repeat' first
      | (with_reducible exact ih0 _ _ _ _ _ _ _ _ _ _ _ _ _ _)
      | (with_reducible exact ih1 _ _ _ _ _ _ _ _ _ _ _ _ _ _ _)
      | (with_reducible exact ih2 _ _ _ _ _ _ _ _ _ _ _ _ _ _ _ _)
      | (with_reducible exact LeO.refl _)
      | (with_reducible exact LeO.none _)
      | (with_reducible refine LeO.ite ?_ ?_)
      | (with_reducible refine LeO.bind ?_ (fun _ => ?_))
      | exact ih0 _ _ _ _ _ _ _ _ _ _ _ _ _ _
      | exact ih1 _ _ _ _ _ _ _ _ _ _ _ _ _ _ _
      | exact ih2 _ _ _ _ _ _ _ _ _ _ _ _ _ _ _ _
      | exact LeO.none _
      | refine LeO.ite ?_ ?_
      | refine LeO.bind ?_ (fun _ => ?_)
    · intro y0 y1 y2 y3 y4 y5 y6 y7 y8 y9 y10 y11 y12 y13 y14
      unfold sashref05_Same.j0
      repeat' first
      | (with_reducible exact ih0 _ _ _ _ _ _ _ _ _ _ _ _ _ _)
      | (with_reducible exact ih1 _ _ _ _ _ _ _ _ _ _ _ _ _ _ _)
      | (with_reducible exact ih2 _ _ _ _ _ _ _ _ _ _ _ _ _ _ _ _)
      | (with_reducible exact LeO.refl _)
      | (with_reducible exact LeO.none _)
      | (with_reducible refine LeO.ite ?_ ?_)
      | (with_reducible refine LeO.bind ?_ (fun _ => ?_))
      | exact ih0 _ _ _ _ _ _ _ _ _ _ _ _ _ _
      | exact ih1 _ _ _ _ _ _ _ _ _ _ _ _ _ _ _
      | exact ih2 _ _ _ _ _ _ _ _ _ _ _ _ _ _ _ _
      | exact LeO.none _
      | refine LeO.ite ?_ ?_
      | refine LeO.bind ?_ (fun _ => ?_)
    · intro y0 y1 y2 y3 y4 y5 y6 y7 y8 y9 y10 y11 y12 y13 y14 y15
      unfold sashref05_Same.l0
      repeat' first
      | (with_reducible exact ih0 _ _ _ _ _ _ _ _ _ _ _ _ _ _)
      | (with_reducible exact ih1 _ _ _ _ _ _ _ _ _ _ _ _ _ _ _)
      | (with_reducible exact ih2 _ _ _ _ _ _ _ _ _ _ _ _ _ _ _ _)
      | (with_reducible exact LeO.refl _)
      | (with_reducible exact LeO.none _)
      | (with_reducible refine LeO.ite ?_ ?_)
      | (with_reducible refine LeO.bind ?_ (fun _ => ?_))
      | exact ih0 _ _ _ _ _ _ _ _ _ _ _ _ _ _
      | exact ih1 _ _ _ _ _ _ _ _ _ _ _ _ _ _ _
      | exact ih2 _ _ _ _ _ _ _ _ _ _ _ _ _ _ _ _
      | exact LeO.none _
      | refine LeO.ite ?_ ?_
      | refine LeO.bind ?_ (fun _ => ?_)
theorem sashref05_Same.mono : ∀ a0 a1 a2 a3 a4 a5 a6 a7 a8 a9 a10 a11 a12 a13 k, LeO (sashref05_Same.f k a0 a1 a2 a3 a4 a5 a6 a7 a8 a9 a10 a11 a12 a13) (sashref05_Same.f (k + 1) a0 a1 a2 a3 a4 a5 a6 a7 a8 a9 a10 a11 a12 a13) := by
  intro a0 a1 a2 a3 a4 a5 a6 a7 a8 a9 a10 a11 a12 a13 k
  obtain ⟨ih0, ih1, ih2⟩ := sashref05_Same.mono_l k
  exact ih0 a0 a1 a2 a3 a4 a5 a6 a7 a8 a9 a10 a11 a12 a13
def sashref05_Same.T6 : Bool × List (List Nat × List Nat) := (true, [([], []), ([0], [0]), ([], []), ([1, 2], [1, 2]), ([3], [3]), ([], []), ([5], [5]), ([], []), ([6, 7], [6, 7]), ([8], [8]), ([4, 9], [4, 9]), ([10], [10])])
def sashref05_Same.B6 : List Nat := [0, 1, 0, 7, 15, 0, 32, 0, 224, 480, 1023, 2047]
theorem sashref05_Same.tab6 : rtab .any (opsOf Try.f64 6) = sashref05_Same.T6 := by kernel_rfl
theorem sashref05_Same.bits6 : waitsOk sashref05_Same.T6.2 sashref05_Same.B6 = true := by kernel_rfl
set_option maxHeartbeats 8000000 in
set_option maxRecDepth 100000 in
theorem sashref05_Same.calls (k : Nat) : ∀ (a0_0 : Int) (a0_1 : Int) (a0_2 : Int) (a0_3 : Int) (a0_4 : Int) (a0_5 : Int) (A0_6 : Option Addr) (c0_6 : Nat) (l0_6 : List (S26)) (a1_0 : Int) (a1_1 : Int) (a1_2 : Int) (a1_3 : Int) (a1_4 : Int) (a1_5 : Int) (A1_6 : Option Addr) (c1_6 : Nat) (l1_6 : List (S26)) (r : Bool) (w : World) (hr0_6 : Kd.C k26 w A0_6 l0_6.length l0_6) (hc0_6 : l0_6.length ≤ c0_6) (hr1_6 : Kd.C k26 w A1_6 l1_6.length l1_6) (hc1_6 : l1_6.length ≤ c1_6) (h : sashref05_Same.f k a0_0 a0_1 a0_2 a0_3 a0_4 a0_5 l0_6 a1_0 a1_1 a1_2 a1_3 a1_4 a1_5 l1_6 = some r),
    Calls Try.prog 64 #[.agg #[.int .u8 a0_0, .int .i64 a0_1, .int .i64 a0_2, .int .i64 a0_3, .int .i64 a0_4, .int .i64 a0_5, .slice A0_6 l0_6.length c0_6], .agg #[.int .u8 a1_0, .int .i64 a1_1, .int .i64 a1_2, .int .i64 a1_3, .int .i64 a1_4, .int .i64 a1_5, .slice A1_6 l1_6.length c1_6]] w fun e w' => e = .returned (.bool r) ∧ Below w.heap.size w w' := by
  induction k using Nat.strongRecOn with
  | _ k ih =>
  intro a0_0 a0_1 a0_2 a0_3 a0_4 a0_5 A0_6 c0_6 l0_6 a1_0 a1_1 a1_2 a1_3 a1_4 a1_5 A1_6 c1_6 l1_6 r w hr0_6 hc0_6 hr1_6 hc1_6 h
  cases k with
  | zero => exact absurd h (by simp [sashref05_Same.f])
  | succ k =>
  simp only [sashref05_Same.f] at h
  have hu26 := Try.underlying26
  have hu23 := Try.underlying23
  have HR0_6 := Aside0.mk hr0_6
  have HC0_6 := Aside0.mk hc0_6
  clear hr0_6 hc0_6
  have HR1_6 := Aside0.mk hr1_6
  have HC1_6 := Aside0.mk hc1_6
  clear hr1_6 hc1_6
  have HB := Aside0.mk (Below.refl w.heap.size w)
  have H : (if a0_0 = a1_0 then (if (!(a0_1 == a1_1) || (!(a0_2 == a1_2) || (!(a0_3 == a1_3) || (!(a0_4 == a1_4))))) = true then (sashref05_Same.j0 k true a0_0 a0_1 a0_2 a0_3 a0_4 a0_5 l0_6 a1_0 a1_1 a1_2 a1_3 a1_4 a1_5 l1_6) else (if a0_5 = a1_5 then (sashref05_Same.j0 k ((l0_6.length : Int) != (l1_6.length : Int)) a0_0 a0_1 a0_2 a0_3 a0_4 a0_5 l0_6 a1_0 a1_1 a1_2 a1_3 a1_4 a1_5 l1_6) else (sashref05_Same.j0 k true a0_0 a0_1 a0_2 a0_3 a0_4 a0_5 l0_6 a1_0 a1_1 a1_2 a1_3 a1_4 a1_5 l1_6))) else (sashref05_Same.j0 k true a0_0 a0_1 a0_2 a0_3 a0_4 a0_5 l0_6 a1_0 a1_1 a1_2 a1_3 a1_4 a1_5 l1_6)) = some r := h
  clear h
  have HC3 := Aside0.mk H
  clear H
  go_enter Try.func64, Try.ntmps64
  go_upto_region 1 with (first | ((with_reducible refine gate_dst (N := 2) rfl ?_); (try (refine gate_guard (by rfl) ?_; dsimp only)); refine box_event ?hg (N := 2) ?hd (cs := #[.int .u8 a0_0, .int .i64 a0_1, .int .i64 a0_2, .int .i64 a0_3, .int .i64 a0_4, .int .i64 a0_5, .slice A0_6 l0_6.length c0_6]) (t := 26) ?hr ?_; (case hd => rfl); (case hg => rfl); (case hr => first | (go_simp; done) | (go_simp; rfl)); intro gb600 hg w4 hbox hb; have n0_ := Aside0.mk (below_step (by repeat (first | (with_reducible first | exact HB.out | apply below_alloc | apply pw_below_drewN | apply below_drew1) | exact HB.out)) hb); have n1_ := Aside0.mk (hbox); have n2_ := Aside0.mk ((by rw [hg]; exact (below_size (by repeat (first | (with_reducible first | exact HB.out | apply below_alloc | apply pw_below_drewN | apply below_drew1) | exact HB.out))) : w.heap.size ≤ gb600)); have n3_ := Aside0.mk ((by rw [hg]; exact (below_size (by repeat (first | (with_reducible first | exact HB.out | apply below_alloc | apply pw_below_drewN | apply below_drew1) | exact HB.out))) : w.heap.size ≤ gb600)); clear HB; have HB := n0_; have BK600 := n1_; have GW600 := n2_; have GE600 := n3_; clear n0_ n1_ n2_ n3_; clear hb hbox hg) | ((with_reducible refine gate_dst (N := 3) rfl ?_); (try (refine gate_guard (by rfl) ?_; dsimp only)); refine box_event ?hg (N := 3) ?hd (cs := #[.int .u8 a1_0, .int .i64 a1_1, .int .i64 a1_2, .int .i64 a1_3, .int .i64 a1_4, .int .i64 a1_5, .slice A1_6 l1_6.length c1_6]) (t := 26) ?hr ?_; (case hd => rfl); (case hg => rfl); (case hr => first | (go_simp; done) | (go_simp; rfl)); intro gb601 hg w5 hbox hb; have n0_ := Aside0.mk (blk_below (g := gb600) (o := .cells #[.int .u8 a0_0, .int .i64 a0_1, .int .i64 a0_2, .int .i64 a0_3, .int .i64 a0_4, .int .i64 a0_5, .slice A0_6 l0_6.length c0_6] 26 (0, 0)) (by (with_reducible repeat (first | refine blk_drewN ?_ _ | refine blk_drew ?_ | refine blk_alloc ?_ _)); exact BK600.out) hb); have n1_ := Aside0.mk (below_step (by repeat (first | (with_reducible first | exact HB.out | apply below_alloc | apply pw_below_drewN | apply below_drew1 | refine below_set ?_ GE600.out) | exact HB.out)) hb); have n2_ := Aside0.mk (hbox); have n3_ := Aside0.mk ((by rw [hg]; exact (below_size (by repeat (first | (with_reducible first | exact HB.out | apply below_alloc | apply pw_below_drewN | apply below_drew1 | refine below_set ?_ GE600.out) | exact HB.out))) : w.heap.size ≤ gb601)); have n4_ := Aside0.mk ((by rw [hg]; exact (below_size (by repeat (first | (with_reducible first | exact HB.out | apply below_alloc | apply pw_below_drewN | apply below_drew1 | refine below_set ?_ GE600.out) | exact HB.out))) : w.heap.size ≤ gb601)); have n5_ := Aside0.mk ((by rw [hg]; exact Nat.ne_of_lt (blk_lt (g := gb600) (o := .cells #[.int .u8 a0_0, .int .i64 a0_1, .int .i64 a0_2, .int .i64 a0_3, .int .i64 a0_4, .int .i64 a0_5, .slice A0_6 l0_6.length c0_6] 26 (0, 0)) (by (with_reducible repeat (first | refine blk_drewN ?_ _ | refine blk_drew ?_ | refine blk_alloc ?_ _)); exact BK600.out)) : gb600 ≠ gb601)); have n6_ := Aside0.mk ((by rw [hg]; exact Nat.ne_of_gt (blk_lt (g := gb600) (o := .cells #[.int .u8 a0_0, .int .i64 a0_1, .int .i64 a0_2, .int .i64 a0_3, .int .i64 a0_4, .int .i64 a0_5, .slice A0_6 l0_6.length c0_6] 26 (0, 0)) (by (with_reducible repeat (first | refine blk_drewN ?_ _ | refine blk_drew ?_ | refine blk_alloc ?_ _)); exact BK600.out)) : gb601 ≠ gb600)); clear BK600; clear HB; have BK600 := n0_; have HB := n1_; have BK601 := n2_; have GW601 := n3_; have GE601 := n4_; have NB600_601 := n5_; have NB601_600 := n6_; clear n0_ n1_ n2_ n3_ n4_ n5_ n6_; clear hb hbox hg))
  (try simp only [Act.put, List.setIfInBounds_toArray, List.set_cons_zero, List.set_cons_succ])
  go_cut [33] (fun v33 wc => ∃ (kq : Nat) (x33_2 : Bool), v33 = .bool x33_2 ∧ Aside0 (sashref05_Same.j0 kq x33_2 a0_0 a0_1 a0_2 a0_3 a0_4 a0_5 l0_6 a1_0 a1_1 a1_2 a1_3 a1_4 a1_5 l1_6 = some r) ∧ Aside0 (kq ≤ k) ∧ Aside0 (wc.heap[gb600]? = some (.cells #[.int .u8 a0_0, .int .i64 a0_1, .int .i64 a0_2, .int .i64 a0_3, .int .i64 a0_4, .int .i64 a0_5, (.slice A0_6 l0_6.length c0_6)] 26 (0, 0))) ∧ Aside0 (wc.heap[gb601]? = some (.cells #[.int .u8 a1_0, .int .i64 a1_1, .int .i64 a1_2, .int .i64 a1_3, .int .i64 a1_4, .int .i64 a1_5, (.slice A1_6 l1_6.length c1_6)] 26 (0, 0))) ∧ Aside0 (Below w.heap.size w wc))
  case first =>
    have H := HC3.out
    clear HC3
    by_cases c6 : a0_0 = a1_0
    · rw [if_pos c6] at H
      have c6b0 : (a0_0 == a1_0) = true := beq_iff_eq.mpr c6
      have c6b1 : (a0_0 != a1_0) = false := bne_eq_false_iff_eq.mpr c6
      clear c6
      (first | rw [c6b0] | (simp only [i64_w, i32_w]; rw [c6b0]) | skip)
      by_cases c7 : (!(a0_1 == a1_1) || (!(a0_2 == a1_2) || (!(a0_3 == a1_3) || (!(a0_4 == a1_4))))) = true
      · rw [if_pos c7] at H
        have c7b0 : (!(a0_1 == a1_1) || (!(a0_2 == a1_2) || (!(a0_3 == a1_3) || (!(a0_4 == a1_4))))) = true := c7
        clear c7
        have H' := Aside0.mk H
        clear H
        have hnb8 := NB600_601.out
        have hnc8 := NB601_600.out
        have hcz9_0 : w5.cell? ⟨gb600, 0, none⟩ = some (.int .u8 a0_0) := (blk_cell BK600.out 0).trans rfl
        have hcz9_1 : w5.cell? ⟨gb600, 1, none⟩ = some (.int .i64 a0_1) := (blk_cell BK600.out 1).trans rfl
        have hcz9_2 : w5.cell? ⟨gb600, 2, none⟩ = some (.int .i64 a0_2) := (blk_cell BK600.out 2).trans rfl
        have hcz9_3 : w5.cell? ⟨gb600, 3, none⟩ = some (.int .i64 a0_3) := (blk_cell BK600.out 3).trans rfl
        have hcz9_4 : w5.cell? ⟨gb600, 4, none⟩ = some (.int .i64 a0_4) := (blk_cell BK600.out 4).trans rfl
        have hcz9_5 : w5.cell? ⟨gb600, 5, none⟩ = some (.int .i64 a0_5) := (blk_cell BK600.out 5).trans rfl
        have hcz9_6 : w5.cell? ⟨gb600, 6, none⟩ = some (.slice A0_6 l0_6.length c0_6) := (blk_cell BK600.out 6).trans rfl
        have hfz9_0 := blk_frozen BK600.out 0
        have hfz9_1 := blk_frozen BK600.out 1
        have hfz9_2 := blk_frozen BK600.out 2
        have hfz9_3 := blk_frozen BK600.out 3
        have hfz9_4 := blk_frozen BK600.out 4
        have hfz9_5 := blk_frozen BK600.out 5
        have hfz9_6 := blk_frozen BK600.out 6
        have hcz10_0 : w5.cell? ⟨gb601, 0, none⟩ = some (.int .u8 a1_0) := (blk_cell BK601.out 0).trans rfl
        have hcz10_1 : w5.cell? ⟨gb601, 1, none⟩ = some (.int .i64 a1_1) := (blk_cell BK601.out 1).trans rfl
        have hcz10_2 : w5.cell? ⟨gb601, 2, none⟩ = some (.int .i64 a1_2) := (blk_cell BK601.out 2).trans rfl
        have hcz10_3 : w5.cell? ⟨gb601, 3, none⟩ = some (.int .i64 a1_3) := (blk_cell BK601.out 3).trans rfl
        have hcz10_4 : w5.cell? ⟨gb601, 4, none⟩ = some (.int .i64 a1_4) := (blk_cell BK601.out 4).trans rfl
        have hcz10_5 : w5.cell? ⟨gb601, 5, none⟩ = some (.int .i64 a1_5) := (blk_cell BK601.out 5).trans rfl
        have hcz10_6 : w5.cell? ⟨gb601, 6, none⟩ = some (.slice A1_6 l1_6.length c1_6) := (blk_cell BK601.out 6).trans rfl
        have hfz10_0 := blk_frozen BK601.out 0
        have hfz10_1 := blk_frozen BK601.out 1
        have hfz10_2 := blk_frozen BK601.out 2
        have hfz10_3 := blk_frozen BK601.out 3
        have hfz10_4 := blk_frozen BK601.out 4
        have hfz10_5 := blk_frozen BK601.out 5
        have hfz10_6 := blk_frozen BK601.out 6
        go_wp2
        go_meet
        case rel => exact ⟨_, (true), (by first | rfl | (simp; done) | (simp [*]; done)), H', ⟨by first | omega | exact Nat.le_refl _⟩, ⟨by (with_reducible repeat (first | refine blk_drewN ?_ _ | refine blk_drew ?_ | refine blk_alloc ?_ _)); exact BK600.out⟩, ⟨by (with_reducible repeat (first | refine blk_drewN ?_ _ | refine blk_drew ?_ | refine blk_alloc ?_ _)); exact BK601.out⟩, ⟨by repeat (first | (with_reducible first | exact HB.out | apply below_alloc | apply pw_below_drewN | apply below_drew1 | refine below_set ?_ GE600.out | refine below_set ?_ GE601.out) | exact HB.out)⟩⟩
      · rw [if_neg c7] at H
        have c7b0 : (!(a0_1 == a1_1) || (!(a0_2 == a1_2) || (!(a0_3 == a1_3) || (!(a0_4 == a1_4))))) = false := by simpa using c7
        clear c7
        by_cases c11 : a0_5 = a1_5
        · rw [if_pos c11] at H
          have c11b0 : (a0_5 == a1_5) = true := beq_iff_eq.mpr c11
          have c11b1 : (a0_5 != a1_5) = false := bne_eq_false_iff_eq.mpr c11
          clear c11
          have H' := Aside0.mk H
          clear H
          have hnb12 := NB600_601.out
          have hnc12 := NB601_600.out
          have hcz13_0 : w5.cell? ⟨gb600, 0, none⟩ = some (.int .u8 a0_0) := (blk_cell BK600.out 0).trans rfl
          have hcz13_1 : w5.cell? ⟨gb600, 1, none⟩ = some (.int .i64 a0_1) := (blk_cell BK600.out 1).trans rfl
          have hcz13_2 : w5.cell? ⟨gb600, 2, none⟩ = some (.int .i64 a0_2) := (blk_cell BK600.out 2).trans rfl
          have hcz13_3 : w5.cell? ⟨gb600, 3, none⟩ = some (.int .i64 a0_3) := (blk_cell BK600.out 3).trans rfl
          have hcz13_4 : w5.cell? ⟨gb600, 4, none⟩ = some (.int .i64 a0_4) := (blk_cell BK600.out 4).trans rfl
          have hcz13_5 : w5.cell? ⟨gb600, 5, none⟩ = some (.int .i64 a0_5) := (blk_cell BK600.out 5).trans rfl
          have hcz13_6 : w5.cell? ⟨gb600, 6, none⟩ = some (.slice A0_6 l0_6.length c0_6) := (blk_cell BK600.out 6).trans rfl
          have hfz13_0 := blk_frozen BK600.out 0
          have hfz13_1 := blk_frozen BK600.out 1
          have hfz13_2 := blk_frozen BK600.out 2
          have hfz13_3 := blk_frozen BK600.out 3
          have hfz13_4 := blk_frozen BK600.out 4
          have hfz13_5 := blk_frozen BK600.out 5
          have hfz13_6 := blk_frozen BK600.out 6
          have hcz14_0 : w5.cell? ⟨gb601, 0, none⟩ = some (.int .u8 a1_0) := (blk_cell BK601.out 0).trans rfl
          have hcz14_1 : w5.cell? ⟨gb601, 1, none⟩ = some (.int .i64 a1_1) := (blk_cell BK601.out 1).trans rfl
          have hcz14_2 : w5.cell? ⟨gb601, 2, none⟩ = some (.int .i64 a1_2) := (blk_cell BK601.out 2).trans rfl
          have hcz14_3 : w5.cell? ⟨gb601, 3, none⟩ = some (.int .i64 a1_3) := (blk_cell BK601.out 3).trans rfl
          have hcz14_4 : w5.cell? ⟨gb601, 4, none⟩ = some (.int .i64 a1_4) := (blk_cell BK601.out 4).trans rfl
          have hcz14_5 : w5.cell? ⟨gb601, 5, none⟩ = some (.int .i64 a1_5) := (blk_cell BK601.out 5).trans rfl
          have hcz14_6 : w5.cell? ⟨gb601, 6, none⟩ = some (.slice A1_6 l1_6.length c1_6) := (blk_cell BK601.out 6).trans rfl
          have hfz14_0 := blk_frozen BK601.out 0
          have hfz14_1 := blk_frozen BK601.out 1
          have hfz14_2 := blk_frozen BK601.out 2
          have hfz14_3 := blk_frozen BK601.out 3
          have hfz14_4 := blk_frozen BK601.out 4
          have hfz14_5 := blk_frozen BK601.out 5
          have hfz14_6 := blk_frozen BK601.out 6
          go_wp2
          go_meet
          case rel => exact ⟨_, (((l0_6.length : Int) != (l1_6.length : Int))), (by first | rfl | (simp; done) | (simp [*]; done)), H', ⟨by first | omega | exact Nat.le_refl _⟩, ⟨by (with_reducible repeat (first | refine blk_drewN ?_ _ | refine blk_drew ?_ | refine blk_alloc ?_ _)); exact BK600.out⟩, ⟨by (with_reducible repeat (first | refine blk_drewN ?_ _ | refine blk_drew ?_ | refine blk_alloc ?_ _)); exact BK601.out⟩, ⟨by repeat (first | (with_reducible first | exact HB.out | apply below_alloc | apply pw_below_drewN | apply below_drew1 | refine below_set ?_ GE600.out | refine below_set ?_ GE601.out) | exact HB.out)⟩⟩
        · rw [if_neg c11] at H
          have c11b0 : (a0_5 == a1_5) = false := beq_eq_false_iff_ne.mpr c11
          have c11b1 : (a0_5 != a1_5) = true := bne_iff_ne.mpr c11
          have H' := Aside0.mk H
          clear H
          have hnb15 := NB600_601.out
          have hnc15 := NB601_600.out
          have hcz16_0 : w5.cell? ⟨gb600, 0, none⟩ = some (.int .u8 a0_0) := (blk_cell BK600.out 0).trans rfl
          have hcz16_1 : w5.cell? ⟨gb600, 1, none⟩ = some (.int .i64 a0_1) := (blk_cell BK600.out 1).trans rfl
          have hcz16_2 : w5.cell? ⟨gb600, 2, none⟩ = some (.int .i64 a0_2) := (blk_cell BK600.out 2).trans rfl
          have hcz16_3 : w5.cell? ⟨gb600, 3, none⟩ = some (.int .i64 a0_3) := (blk_cell BK600.out 3).trans rfl
          have hcz16_4 : w5.cell? ⟨gb600, 4, none⟩ = some (.int .i64 a0_4) := (blk_cell BK600.out 4).trans rfl
          have hcz16_5 : w5.cell? ⟨gb600, 5, none⟩ = some (.int .i64 a0_5) := (blk_cell BK600.out 5).trans rfl
          have hcz16_6 : w5.cell? ⟨gb600, 6, none⟩ = some (.slice A0_6 l0_6.length c0_6) := (blk_cell BK600.out 6).trans rfl
          have hfz16_0 := blk_frozen BK600.out 0
          have hfz16_1 := blk_frozen BK600.out 1
          have hfz16_2 := blk_frozen BK600.out 2
          have hfz16_3 := blk_frozen BK600.out 3
          have hfz16_4 := blk_frozen BK600.out 4
          have hfz16_5 := blk_frozen BK600.out 5
          have hfz16_6 := blk_frozen BK600.out 6
          have hcz17_0 : w5.cell? ⟨gb601, 0, none⟩ = some (.int .u8 a1_0) := (blk_cell BK601.out 0).trans rfl
          have hcz17_1 : w5.cell? ⟨gb601, 1, none⟩ = some (.int .i64 a1_1) := (blk_cell BK601.out 1).trans rfl
          have hcz17_2 : w5.cell? ⟨gb601, 2, none⟩ = some (.int .i64 a1_2) := (blk_cell BK601.out 2).trans rfl
          have hcz17_3 : w5.cell? ⟨gb601, 3, none⟩ = some (.int .i64 a1_3) := (blk_cell BK601.out 3).trans rfl
          have hcz17_4 : w5.cell? ⟨gb601, 4, none⟩ = some (.int .i64 a1_4) := (blk_cell BK601.out 4).trans rfl
          have hcz17_5 : w5.cell? ⟨gb601, 5, none⟩ = some (.int .i64 a1_5) := (blk_cell BK601.out 5).trans rfl
          have hcz17_6 : w5.cell? ⟨gb601, 6, none⟩ = some (.slice A1_6 l1_6.length c1_6) := (blk_cell BK601.out 6).trans rfl
          have hfz17_0 := blk_frozen BK601.out 0
          have hfz17_1 := blk_frozen BK601.out 1
          have hfz17_2 := blk_frozen BK601.out 2
          have hfz17_3 := blk_frozen BK601.out 3
          have hfz17_4 := blk_frozen BK601.out 4
          have hfz17_5 := blk_frozen BK601.out 5
          have hfz17_6 := blk_frozen BK601.out 6
          go_wp2
          go_meet
          case rel => exact ⟨_, (true), (by first | rfl | (simp; done) | (simp [*]; done)), H', ⟨by first | omega | exact Nat.le_refl _⟩, ⟨by (with_reducible repeat (first | refine blk_drewN ?_ _ | refine blk_drew ?_ | refine blk_alloc ?_ _)); exact BK600.out⟩, ⟨by (with_reducible repeat (first | refine blk_drewN ?_ _ | refine blk_drew ?_ | refine blk_alloc ?_ _)); exact BK601.out⟩, ⟨by repeat (first | (with_reducible first | exact HB.out | apply below_alloc | apply pw_below_drewN | apply below_drew1 | refine below_set ?_ GE600.out | refine below_set ?_ GE601.out) | exact HB.out)⟩⟩
    · rw [if_neg c6] at H
      have c6b0 : (a0_0 == a1_0) = false := beq_eq_false_iff_ne.mpr c6
      have c6b1 : (a0_0 != a1_0) = true := bne_iff_ne.mpr c6
      (first | rw [c6b0] | (simp only [i64_w, i32_w]; rw [c6b0]) | skip)
      have H' := Aside0.mk H
      clear H
      have hnb18 := NB600_601.out
      have hnc18 := NB601_600.out
      have hcz19_0 : w5.cell? ⟨gb600, 0, none⟩ = some (.int .u8 a0_0) := (blk_cell BK600.out 0).trans rfl
      have hcz19_1 : w5.cell? ⟨gb600, 1, none⟩ = some (.int .i64 a0_1) := (blk_cell BK600.out 1).trans rfl
      have hcz19_2 : w5.cell? ⟨gb600, 2, none⟩ = some (.int .i64 a0_2) := (blk_cell BK600.out 2).trans rfl
      have hcz19_3 : w5.cell? ⟨gb600, 3, none⟩ = some (.int .i64 a0_3) := (blk_cell BK600.out 3).trans rfl
      have hcz19_4 : w5.cell? ⟨gb600, 4, none⟩ = some (.int .i64 a0_4) := (blk_cell BK600.out 4).trans rfl
      have hcz19_5 : w5.cell? ⟨gb600, 5, none⟩ = some (.int .i64 a0_5) := (blk_cell BK600.out 5).trans rfl
      have hcz19_6 : w5.cell? ⟨gb600, 6, none⟩ = some (.slice A0_6 l0_6.length c0_6) := (blk_cell BK600.out 6).trans rfl
      have hfz19_0 := blk_frozen BK600.out 0
      have hfz19_1 := blk_frozen BK600.out 1
      have hfz19_2 := blk_frozen BK600.out 2
      have hfz19_3 := blk_frozen BK600.out 3
      have hfz19_4 := blk_frozen BK600.out 4
      have hfz19_5 := blk_frozen BK600.out 5
      have hfz19_6 := blk_frozen BK600.out 6
      have hcz20_0 : w5.cell? ⟨gb601, 0, none⟩ = some (.int .u8 a1_0) := (blk_cell BK601.out 0).trans rfl
      have hcz20_1 : w5.cell? ⟨gb601, 1, none⟩ = some (.int .i64 a1_1) := (blk_cell BK601.out 1).trans rfl
      have hcz20_2 : w5.cell? ⟨gb601, 2, none⟩ = some (.int .i64 a1_2) := (blk_cell BK601.out 2).trans rfl
      have hcz20_3 : w5.cell? ⟨gb601, 3, none⟩ = some (.int .i64 a1_3) := (blk_cell BK601.out 3).trans rfl
      have hcz20_4 : w5.cell? ⟨gb601, 4, none⟩ = some (.int .i64 a1_4) := (blk_cell BK601.out 4).trans rfl
      have hcz20_5 : w5.cell? ⟨gb601, 5, none⟩ = some (.int .i64 a1_5) := (blk_cell BK601.out 5).trans rfl
      have hcz20_6 : w5.cell? ⟨gb601, 6, none⟩ = some (.slice A1_6 l1_6.length c1_6) := (blk_cell BK601.out 6).trans rfl
      have hfz20_0 := blk_frozen BK601.out 0
      have hfz20_1 := blk_frozen BK601.out 1
      have hfz20_2 := blk_frozen BK601.out 2
      have hfz20_3 := blk_frozen BK601.out 3
      have hfz20_4 := blk_frozen BK601.out 4
      have hfz20_5 := blk_frozen BK601.out 5
      have hfz20_6 := blk_frozen BK601.out 6
      go_wp2
      go_meet
      case rel => exact ⟨_, (true), (by first | rfl | (simp; done) | (simp [*]; done)), H', ⟨by first | omega | exact Nat.le_refl _⟩, ⟨by (with_reducible repeat (first | refine blk_drewN ?_ _ | refine blk_drew ?_ | refine blk_alloc ?_ _)); exact BK600.out⟩, ⟨by (with_reducible repeat (first | refine blk_drewN ?_ _ | refine blk_drew ?_ | refine blk_alloc ?_ _)); exact BK601.out⟩, ⟨by repeat (first | (with_reducible first | exact HB.out | apply below_alloc | apply pw_below_drewN | apply below_drew1 | refine below_set ?_ GE600.out | refine below_set ?_ GE601.out) | exact HB.out)⟩⟩
  case rest =>
    clear HC3
    try clear c1
    try clear p2
    try clear c6
    try clear c6b0
    try clear c6b1
    try clear c7
    try clear c7b0
    try clear c8
    try clear c11
    try clear c11b0
    try clear c11b1
    try clear c12
    try clear c15
    try clear c18
    try clear hcz10_0
    try clear hcz10_1
    try clear hcz10_2
    try clear hcz10_3
    try clear hcz10_4
    try clear hcz10_5
    try clear hcz10_6
    try clear hcz13_0
    try clear hcz13_1
    try clear hcz13_2
    try clear hcz13_3
    try clear hcz13_4
    try clear hcz13_5
    try clear hcz13_6
    try clear hcz14_0
    try clear hcz14_1
    try clear hcz14_2
    try clear hcz14_3
    try clear hcz14_4
    try clear hcz14_5
    try clear hcz14_6
    try clear hcz16_0
    try clear hcz16_1
    try clear hcz16_2
    try clear hcz16_3
    try clear hcz16_4
    try clear hcz16_5
    try clear hcz16_6
    try clear hcz17_0
    try clear hcz17_1
    try clear hcz17_2
    try clear hcz17_3
    try clear hcz17_4
    try clear hcz17_5
    try clear hcz17_6
    try clear hcz19_0
    try clear hcz19_1
    try clear hcz19_2
    try clear hcz19_3
    try clear hcz19_4
    try clear hcz19_5
    try clear hcz19_6
    try clear hcz20_0
    try clear hcz20_1
    try clear hcz20_2
    try clear hcz20_3
    try clear hcz20_4
    try clear hcz20_5
    try clear hcz20_6
    try clear hcz9_0
    try clear hcz9_1
    try clear hcz9_2
    try clear hcz9_3
    try clear hcz9_4
    try clear hcz9_5
    try clear hcz9_6
    try clear hfz10_0
    try clear hfz10_1
    try clear hfz10_2
    try clear hfz10_3
    try clear hfz10_4
    try clear hfz10_5
    try clear hfz10_6
    try clear hfz13_0
    try clear hfz13_1
    try clear hfz13_2
    try clear hfz13_3
    try clear hfz13_4
    try clear hfz13_5
    try clear hfz13_6
    try clear hfz14_0
    try clear hfz14_1
    try clear hfz14_2
    try clear hfz14_3
    try clear hfz14_4
    try clear hfz14_5
    try clear hfz14_6
    try clear hfz16_0
    try clear hfz16_1
    try clear hfz16_2
    try clear hfz16_3
    try clear hfz16_4
    try clear hfz16_5
    try clear hfz16_6
    try clear hfz17_0
    try clear hfz17_1
    try clear hfz17_2
    try clear hfz17_3
    try clear hfz17_4
    try clear hfz17_5
    try clear hfz17_6
    try clear hfz19_0
    try clear hfz19_1
    try clear hfz19_2
    try clear hfz19_3
    try clear hfz19_4
    try clear hfz19_5
    try clear hfz19_6
    try clear hfz20_0
    try clear hfz20_1
    try clear hfz20_2
    try clear hfz20_3
    try clear hfz20_4
    try clear hfz20_5
    try clear hfz20_6
    try clear hfz9_0
    try clear hfz9_1
    try clear hfz9_2
    try clear hfz9_3
    try clear hfz9_4
    try clear hfz9_5
    try clear hfz9_6
    obtain ⟨kq, x33_2, rfl, HA, HJ2, BK600, BK601, HB⟩ := hcut
    cases kq with
    | zero => exact absurd HA.out (by simp [sashref05_Same.j0])
    | succ kj2 =>
      have H := HA.out
      clear HA
      simp only [sashref05_Same.j0] at H
      by_cases c21 : x33_2 = true
      · subst c21
        have H1 : (some false) = some r := by rw [if_pos rfl] at H; exact H
        clear H
        have H := H1
        clear H1
        obtain rfl := Option.some.inj H
        go_wp2
        go_ret
        exact ⟨by first | rfl | (simp [errW_none, errW_some] <;> rfl) | (simp [*, errW_none, errW_some] <;> rfl), by repeat (first | (with_reducible first | exact HB.out | apply below_alloc | apply pw_below_drewN | apply below_drew1 | refine below_set ?_ GE600.out | refine below_set ?_ GE601.out) | exact HB.out)⟩
      · replace c21 := Bool.eq_false_iff.mpr c21
        subst c21
        have H1 : (sashref05_Same.l0 kj2 (l0_6.length : Int) 0 a0_0 a0_1 a0_2 a0_3 a0_4 a0_5 l0_6 a1_0 a1_1 a1_2 a1_3 a1_4 a1_5 l1_6) = some r := by rw [if_neg (show ¬ (false = true) by decide)] at H; exact H
        clear H
        have H := H1
        clear H1
        have H' := Aside0.mk H
        clear H
        have hnb22 := NB600_601.out
        have hnc22 := NB601_600.out
        have hcz23_0 : wc.cell? ⟨gb600, 0, none⟩ = some (.int .u8 a0_0) := (blk_cell BK600.out 0).trans rfl
        have hcz23_1 : wc.cell? ⟨gb600, 1, none⟩ = some (.int .i64 a0_1) := (blk_cell BK600.out 1).trans rfl
        have hcz23_2 : wc.cell? ⟨gb600, 2, none⟩ = some (.int .i64 a0_2) := (blk_cell BK600.out 2).trans rfl
        have hcz23_3 : wc.cell? ⟨gb600, 3, none⟩ = some (.int .i64 a0_3) := (blk_cell BK600.out 3).trans rfl
        have hcz23_4 : wc.cell? ⟨gb600, 4, none⟩ = some (.int .i64 a0_4) := (blk_cell BK600.out 4).trans rfl
        have hcz23_5 : wc.cell? ⟨gb600, 5, none⟩ = some (.int .i64 a0_5) := (blk_cell BK600.out 5).trans rfl
        have hcz23_6 : wc.cell? ⟨gb600, 6, none⟩ = some (.slice A0_6 l0_6.length c0_6) := (blk_cell BK600.out 6).trans rfl
        have hfz23_0 := blk_frozen BK600.out 0
        have hfz23_1 := blk_frozen BK600.out 1
        have hfz23_2 := blk_frozen BK600.out 2
        have hfz23_3 := blk_frozen BK600.out 3
        have hfz23_4 := blk_frozen BK600.out 4
        have hfz23_5 := blk_frozen BK600.out 5
        have hfz23_6 := blk_frozen BK600.out 6
        go_wp2
        go_loopg [37] kj2 (fun kq v37 w' => ∃ (x37_2 : Int), v37 = .int .i64 x37_2 ∧ Aside0 (sashref05_Same.l0 kq (l0_6.length : Int) x37_2 a0_0 a0_1 a0_2 a0_3 a0_4 a0_5 l0_6 a1_0 a1_1 a1_2 a1_3 a1_4 a1_5 l1_6 = some r) ∧ Aside0 (kq ≤ kj2) ∧ Aside0 (w'.heap[gb600]? = some (.cells #[.int .u8 a0_0, .int .i64 a0_1, .int .i64 a0_2, .int .i64 a0_3, .int .i64 a0_4, .int .i64 a0_5, (.slice A0_6 l0_6.length c0_6)] 26 (0, 0))) ∧ Aside0 (w'.heap[gb601]? = some (.cells #[.int .u8 a1_0, .int .i64 a1_1, .int .i64 a1_2, .int .i64 a1_3, .int .i64 a1_4, .int .i64 a1_5, (.slice A1_6 l1_6.length c1_6)] 26 (0, 0))) ∧ Aside0 (Below w.heap.size w w'))
        case atStart => exact ⟨(0), (by first | rfl | (simp; done) | (simp [*]; done)), H', ⟨Nat.le_refl _⟩, ⟨by (with_reducible repeat (first | refine blk_drewN ?_ _ | refine blk_drew ?_ | refine blk_alloc ?_ _)); exact BK600.out⟩, ⟨by (with_reducible repeat (first | refine blk_drewN ?_ _ | refine blk_drew ?_ | refine blk_alloc ?_ _)); exact BK601.out⟩, ⟨by repeat (first | (with_reducible first | exact HB.out | apply below_alloc | apply pw_below_drewN | apply below_drew1 | refine below_set ?_ GE600.out | refine below_set ?_ GE601.out) | exact HB.out)⟩⟩
        case round =>
          clear H'
          try clear c1
          try clear c2
          try clear p2
          try clear c6
          try clear c6b0
          try clear c6b1
          try clear c7
          try clear c7b0
          try clear c8
          try clear c11
          try clear c11b0
          try clear c11b1
          try clear c12
          try clear c15
          try clear c18
          try clear c21
          try clear c22
          try clear hcz10_0
          try clear hcz10_1
          try clear hcz10_2
          try clear hcz10_3
          try clear hcz10_4
          try clear hcz10_5
          try clear hcz10_6
          try clear hcz13_0
          try clear hcz13_1
          try clear hcz13_2
          try clear hcz13_3
          try clear hcz13_4
          try clear hcz13_5
          try clear hcz13_6
          try clear hcz14_0
          try clear hcz14_1
          try clear hcz14_2
          try clear hcz14_3
          try clear hcz14_4
          try clear hcz14_5
          try clear hcz14_6
          try clear hcz16_0
          try clear hcz16_1
          try clear hcz16_2
          try clear hcz16_3
          try clear hcz16_4
          try clear hcz16_5
          try clear hcz16_6
          try clear hcz17_0
          try clear hcz17_1
          try clear hcz17_2
          try clear hcz17_3
          try clear hcz17_4
          try clear hcz17_5
          try clear hcz17_6
          try clear hcz19_0
          try clear hcz19_1
          try clear hcz19_2
          try clear hcz19_3
          try clear hcz19_4
          try clear hcz19_5
          try clear hcz19_6
          try clear hcz20_0
          try clear hcz20_1
          try clear hcz20_2
          try clear hcz20_3
          try clear hcz20_4
          try clear hcz20_5
          try clear hcz20_6
          try clear hcz23_0
          try clear hcz23_1
          try clear hcz23_2
          try clear hcz23_3
          try clear hcz23_4
          try clear hcz23_5
          try clear hcz23_6
          try clear hcz9_0
          try clear hcz9_1
          try clear hcz9_2
          try clear hcz9_3
          try clear hcz9_4
          try clear hcz9_5
          try clear hcz9_6
          try clear hfz10_0
          try clear hfz10_1
          try clear hfz10_2
          try clear hfz10_3
          try clear hfz10_4
          try clear hfz10_5
          try clear hfz10_6
          try clear hfz13_0
          try clear hfz13_1
          try clear hfz13_2
          try clear hfz13_3
          try clear hfz13_4
          try clear hfz13_5
          try clear hfz13_6
          try clear hfz14_0
          try clear hfz14_1
          try clear hfz14_2
          try clear hfz14_3
          try clear hfz14_4
          try clear hfz14_5
          try clear hfz14_6
          try clear hfz16_0
          try clear hfz16_1
          try clear hfz16_2
          try clear hfz16_3
          try clear hfz16_4
          try clear hfz16_5
          try clear hfz16_6
          try clear hfz17_0
          try clear hfz17_1
          try clear hfz17_2
          try clear hfz17_3
          try clear hfz17_4
          try clear hfz17_5
          try clear hfz17_6
          try clear hfz19_0
          try clear hfz19_1
          try clear hfz19_2
          try clear hfz19_3
          try clear hfz19_4
          try clear hfz19_5
          try clear hfz19_6
          try clear hfz20_0
          try clear hfz20_1
          try clear hfz20_2
          try clear hfz20_3
          try clear hfz20_4
          try clear hfz20_5
          try clear hfz20_6
          try clear hfz23_0
          try clear hfz23_1
          try clear hfz23_2
          try clear hfz23_3
          try clear hfz23_4
          try clear hfz23_5
          try clear hfz23_6
          try clear hfz9_0
          try clear hfz9_1
          try clear hfz9_2
          try clear hfz9_3
          try clear hfz9_4
          try clear hfz9_5
          try clear hfz9_6
          try clear p2
          obtain ⟨x37_2, rfl, HA, HK2, BK600, BK601, HB⟩ := hrel
          cases gk with
          | zero => exact absurd HA.out (by simp [sashref05_Same.l0])
          | succ k2 =>
            have H := HA.out
            clear HA
            simp only [sashref05_Same.l0] at H
            by_cases c24 : x37_2 < (l0_6.length : Int)
            · rw [if_pos c24] at H
              have c24b0 : decide (x37_2 < (l0_6.length : Int)) = true := decide_eq_true c24
              clear c24
              by_cases c25 : 0 ≤ x37_2
              · rw [if_pos c25] at H
                have c25b0 : decide (0 ≤ x37_2) = true := decide_eq_true c25
                clear c25
                by_cases c26 : x37_2 < (l0_6.length : Int)
                · rw [if_pos c26] at H
                  have c26b0 : decide (x37_2 < (l0_6.length : Int)) = true := decide_eq_true c26
                  clear c26
                  by_cases c27 : x37_2 < (l1_6.length : Int)
                  · rw [if_pos c27] at H
                    have c27b0 : decide (x37_2 < (l1_6.length : Int)) = true := decide_eq_true c27
                    clear c27
                    replace H := Option.bind_eq_some_iff.mp H
                    obtain ⟨t604, A280, H⟩ := H
                    replace H : (if t604 = true then (sashref05_Same.l0 k2 (l0_6.length : Int) (wrap64 (x37_2 + 1)) a0_0 a0_1 a0_2 a0_3 a0_4 a0_5 l0_6 a1_0 a1_1 a1_2 a1_3 a1_4 a1_5 l1_6) else (some false)) = some r := H
                    have A28 := Aside0.mk A280
                    clear A280
                    by_cases c29 : t604 = true
                    · subst c29
                      have H1 : (sashref05_Same.l0 k2 (l0_6.length : Int) (wrap64 (x37_2 + 1)) a0_0 a0_1 a0_2 a0_3 a0_4 a0_5 l0_6 a1_0 a1_1 a1_2 a1_3 a1_4 a1_5 l1_6) = some r := by rw [if_pos rfl] at H; exact H
                      clear H
                      have H := H1
                      clear H1
                      have H' := Aside0.mk H
                      clear H
                      try go_wp2
                      have n0_ := Aside0.mk (blk_drew BK600.out)
                      have n1_ := Aside0.mk (blk_drew BK601.out)
                      have n2_ := Aside0.mk (below_drew1 HB.out)
                      clear BK600
                      clear BK601
                      clear HB
                      have BK600 := n0_
                      have BK601 := n1_
                      have HB := n2_
                      clear n0_ n1_ n2_
                      have p602 : 0 ≤ (x37_2 : Int) := of_decide_eq_true (by first | (with_reducible assumption) | assumption)
                      have q602 : x37_2 < (l0_6.length : Int) := of_decide_eq_true (by first | (with_reducible assumption) | assumption)
                      obtain ⟨ad602, A602_6, c602_6, e602, hx602_0, hx602_1, hx602_2, hx602_3, hx602_4, hx602_5, hx602_6, hl602_6, hi602_6⟩ := at_T26 HR0_6.out x37_2 p602 q602
                      have hw602_6 := hx602_6
                      have hw602_5 := hx602_5
                      have hw602_4 := hx602_4
                      have hw602_3 := hx602_3
                      have hw602_2 := hx602_2
                      have hw602_1 := hx602_1
                      have hw602_0 := hx602_0
                      cases e602
                      replace hx602_0 := (HB.out.cell (World.block_lt_of_cell? w _ hx602_0)).trans hx602_0
                      replace hx602_1 := (HB.out.cell (World.block_lt_of_cell? w _ hx602_1)).trans hx602_1
                      replace hx602_2 := (HB.out.cell (World.block_lt_of_cell? w _ hx602_2)).trans hx602_2
                      replace hx602_3 := (HB.out.cell (World.block_lt_of_cell? w _ hx602_3)).trans hx602_3
                      replace hx602_4 := (HB.out.cell (World.block_lt_of_cell? w _ hx602_4)).trans hx602_4
                      replace hx602_5 := (HB.out.cell (World.block_lt_of_cell? w _ hx602_5)).trans hx602_5
                      replace hx602_6 := (HB.out.cell (World.block_lt_of_cell? w _ hx602_6)).trans hx602_6
                      have HR602_6 := Aside0.mk hi602_6
                      have HC602_6 := Aside0.mk hl602_6
                      clear hi602_6 hl602_6
                      replace p602 := eq_true p602
                      replace q602 := eq_true q602
                      have p603 : 0 ≤ (x37_2 : Int) := of_decide_eq_true (by first | (with_reducible assumption) | assumption)
                      have q603 : x37_2 < (l1_6.length : Int) := of_decide_eq_true (by first | (with_reducible assumption) | assumption)
                      obtain ⟨ad603, A603_6, c603_6, e603, hx603_0, hx603_1, hx603_2, hx603_3, hx603_4, hx603_5, hx603_6, hl603_6, hi603_6⟩ := at_T26 HR1_6.out x37_2 p603 q603
                      have hw603_6 := hx603_6
                      have hw603_5 := hx603_5
                      have hw603_4 := hx603_4
                      have hw603_3 := hx603_3
                      have hw603_2 := hx603_2
                      have hw603_1 := hx603_1
                      have hw603_0 := hx603_0
                      cases e603
                      replace hx603_0 := (HB.out.cell (World.block_lt_of_cell? w _ hx603_0)).trans hx603_0
                      replace hx603_1 := (HB.out.cell (World.block_lt_of_cell? w _ hx603_1)).trans hx603_1
                      replace hx603_2 := (HB.out.cell (World.block_lt_of_cell? w _ hx603_2)).trans hx603_2
                      replace hx603_3 := (HB.out.cell (World.block_lt_of_cell? w _ hx603_3)).trans hx603_3
                      replace hx603_4 := (HB.out.cell (World.block_lt_of_cell? w _ hx603_4)).trans hx603_4
                      replace hx603_5 := (HB.out.cell (World.block_lt_of_cell? w _ hx603_5)).trans hx603_5
                      replace hx603_6 := (HB.out.cell (World.block_lt_of_cell? w _ hx603_6)).trans hx603_6
                      have HR603_6 := Aside0.mk hi603_6
                      have HC603_6 := Aside0.mk hl603_6
                      clear hi603_6 hl603_6
                      replace p603 := eq_true p603
                      replace q603 := eq_true q603
                      refine start_ (n := 12) (S := fun w' => w'.cell? ⟨gb600, 0, none⟩ = some (.int .u8 a0_0) ∧ w'.cell? ⟨gb600, 1, none⟩ = some (.int .i64 a0_1) ∧ w'.cell? ⟨gb600, 2, none⟩ = some (.int .i64 a0_2) ∧ w'.cell? ⟨gb600, 3, none⟩ = some (.int .i64 a0_3) ∧ w'.cell? ⟨gb600, 4, none⟩ = some (.int .i64 a0_4) ∧ w'.cell? ⟨gb600, 5, none⟩ = some (.int .i64 a0_5) ∧ w'.cell? ⟨gb600, 6, none⟩ = some (.slice (some ad602) l0_6.length c0_6) ∧ w'.cell? ⟨gb601, 0, none⟩ = some (.int .u8 a1_0) ∧ w'.cell? ⟨gb601, 1, none⟩ = some (.int .i64 a1_1) ∧ w'.cell? ⟨gb601, 2, none⟩ = some (.int .i64 a1_2) ∧ w'.cell? ⟨gb601, 3, none⟩ = some (.int .i64 a1_3) ∧ w'.cell? ⟨gb601, 4, none⟩ = some (.int .i64 a1_4) ∧ w'.cell? ⟨gb601, 5, none⟩ = some (.int .i64 a1_5) ∧ w'.cell? ⟨gb601, 6, none⟩ = some (.slice (some ad603) l1_6.length c1_6) ∧ w'.cell? (ad602.add ((x37_2).toNat * 7)) = some (.int .u8 ((rd_T26 l0_6 x37_2).f0)) ∧ w'.cell? ⟨(ad602.add ((x37_2).toNat * 7)).block, (ad602.add ((x37_2).toNat * 7)).off + 1, none⟩ = some (.int .i64 ((rd_T26 l0_6 x37_2).f1.f0)) ∧ w'.cell? ⟨(ad602.add ((x37_2).toNat * 7)).block, (ad602.add ((x37_2).toNat * 7)).off + 2, none⟩ = some (.int .i64 ((rd_T26 l0_6 x37_2).f1.f1)) ∧ w'.cell? ⟨(ad602.add ((x37_2).toNat * 7)).block, (ad602.add ((x37_2).toNat * 7)).off + 3, none⟩ = some (.int .i64 ((rd_T26 l0_6 x37_2).f1.f2)) ∧ w'.cell? ⟨(ad602.add ((x37_2).toNat * 7)).block, (ad602.add ((x37_2).toNat * 7)).off + 4, none⟩ = some (.int .i64 ((rd_T26 l0_6 x37_2).f1.f3)) ∧ w'.cell? ⟨(ad602.add ((x37_2).toNat * 7)).block, (ad602.add ((x37_2).toNat * 7)).off + 5, none⟩ = some (.int .i64 ((rd_T26 l0_6 x37_2).f2)) ∧ w'.cell? ⟨(ad602.add ((x37_2).toNat * 7)).block, (ad602.add ((x37_2).toNat * 7)).off + 6, none⟩ = some (.slice A602_6 ((rd_T26 l0_6 x37_2).f3).length c602_6) ∧ w'.cell? (ad603.add ((x37_2).toNat * 7)) = some (.int .u8 ((rd_T26 l1_6 x37_2).f0)) ∧ w'.cell? ⟨(ad603.add ((x37_2).toNat * 7)).block, (ad603.add ((x37_2).toNat * 7)).off + 1, none⟩ = some (.int .i64 ((rd_T26 l1_6 x37_2).f1.f0)) ∧ w'.cell? ⟨(ad603.add ((x37_2).toNat * 7)).block, (ad603.add ((x37_2).toNat * 7)).off + 2, none⟩ = some (.int .i64 ((rd_T26 l1_6 x37_2).f1.f1)) ∧ w'.cell? ⟨(ad603.add ((x37_2).toNat * 7)).block, (ad603.add ((x37_2).toNat * 7)).off + 3, none⟩ = some (.int .i64 ((rd_T26 l1_6 x37_2).f1.f2)) ∧ w'.cell? ⟨(ad603.add ((x37_2).toNat * 7)).block, (ad603.add ((x37_2).toNat * 7)).off + 4, none⟩ = some (.int .i64 ((rd_T26 l1_6 x37_2).f1.f3)) ∧ w'.cell? ⟨(ad603.add ((x37_2).toNat * 7)).block, (ad603.add ((x37_2).toNat * 7)).off + 5, none⟩ = some (.int .i64 ((rd_T26 l1_6 x37_2).f2)) ∧ w'.cell? ⟨(ad603.add ((x37_2).toNat * 7)).block, (ad603.add ((x37_2).toNat * 7)).off + 6, none⟩ = some (.slice A603_6 ((rd_T26 l1_6 x37_2).f3).length c603_6)) (ds := []) #[false, false, false, false, false, false, false, false, false, false, false, false] (by kernel_rfl) rfl rfl ⟨(blk_cell BK600.out 0).trans rfl, (blk_cell BK600.out 1).trans rfl, (blk_cell BK600.out 2).trans rfl, (blk_cell BK600.out 3).trans rfl, (blk_cell BK600.out 4).trans rfl, (blk_cell BK600.out 5).trans rfl, (blk_cell BK600.out 6).trans rfl, (blk_cell BK601.out 0).trans rfl, (blk_cell BK601.out 1).trans rfl, (blk_cell BK601.out 2).trans rfl, (blk_cell BK601.out 3).trans rfl, (blk_cell BK601.out 4).trans rfl, (blk_cell BK601.out 5).trans rfl, (blk_cell BK601.out 6).trans rfl, ((HB.out.cell (World.block_lt_of_cell? w _ hw602_0)).trans hw602_0), ((HB.out.cell (World.block_lt_of_cell? w _ hw602_1)).trans hw602_1), ((HB.out.cell (World.block_lt_of_cell? w _ hw602_2)).trans hw602_2), ((HB.out.cell (World.block_lt_of_cell? w _ hw602_3)).trans hw602_3), ((HB.out.cell (World.block_lt_of_cell? w _ hw602_4)).trans hw602_4), ((HB.out.cell (World.block_lt_of_cell? w _ hw602_5)).trans hw602_5), ((HB.out.cell (World.block_lt_of_cell? w _ hw602_6)).trans hw602_6), ((HB.out.cell (World.block_lt_of_cell? w _ hw603_0)).trans hw603_0), ((HB.out.cell (World.block_lt_of_cell? w _ hw603_1)).trans hw603_1), ((HB.out.cell (World.block_lt_of_cell? w _ hw603_2)).trans hw603_2), ((HB.out.cell (World.block_lt_of_cell? w _ hw603_3)).trans hw603_3), ((HB.out.cell (World.block_lt_of_cell? w _ hw603_4)).trans hw603_4), ((HB.out.cell (World.block_lt_of_cell? w _ hw603_5)).trans hw603_5), ((HB.out.cell (World.block_lt_of_cell? w _ hw603_6)).trans hw603_6)⟩ (fun hHeld => ?_); refine with_tabW sashref05_Same.tab6 sashref05_Same.bits6 (fun HT_ HW_ => ?_)
                      generalize wr.drew = w30 at BK600 BK601 HB HR602_6 HR603_6 hx602_0 hx602_1 hx602_2 hx602_3 hx602_4 hx602_5 hx602_6 hx603_0 hx603_1 hx603_2 hx603_3 hx603_4 hx603_5 hx603_6 hHeld ⊢
                      refine pure_ (i := 0) (N := some 40) (v := ?_) (a' := ?_) #[true, false, false, false, false, false, false, false, false, false, false, false] rfl rfl (any_of HT_.out (by kernel_rfl)) (fun _ _ _ h => h) (Or.inl ⟨by rfl, ?_⟩) ?_ ?_
                      rotate_left
                      · intro w'
                        go_simp
                        with_reducible rfl
                      rotate_left
                      · simp only [Act.put, List.setIfInBounds_toArray, List.set_cons_zero, List.set_cons_succ, i64_w, i32_w]
                        rfl
                      refine pure_ (i := 2) (N := some 42) (v := ?_) (a' := ?_) #[true, false, true, false, false, false, false, false, false, false, false, false] rfl rfl (any_of HT_.out (by kernel_rfl)) (fun _ _ _ h => h) (Or.inl ⟨by rfl, ?_⟩) ?_ ?_
                      rotate_left
                      · intro w'
                        go_simp
                        with_reducible rfl
                      rotate_left
                      · simp only [Act.put, List.setIfInBounds_toArray, List.set_cons_zero, List.set_cons_succ, i64_w, i32_w]
                        rfl
                      refine pure_ (i := 5) (N := some 45) (v := ?_) (a' := ?_) #[true, false, true, false, false, true, false, false, false, false, false, false] rfl rfl (any_of HT_.out (by kernel_rfl)) (fun _ _ _ h => h) (Or.inl ⟨by rfl, ?_⟩) ?_ ?_
                      rotate_left
                      · intro w'
                        go_simp
                        with_reducible rfl
                      rotate_left
                      · simp only [Act.put, List.setIfInBounds_toArray, List.set_cons_zero, List.set_cons_succ, i64_w, i32_w]
                        rfl
                      refine pure_ (i := 7) (N := some 47) (v := ?_) (a' := ?_) #[true, false, true, false, false, true, false, true, false, false, false, false] rfl rfl (any_of HT_.out (by kernel_rfl)) (fun _ _ _ h => h) (Or.inl ⟨by rfl, ?_⟩) ?_ ?_
                      rotate_left
                      · intro w'
                        go_simp
                        with_reducible rfl
                      rotate_left
                      · simp only [Act.put, List.setIfInBounds_toArray, List.set_cons_zero, List.set_cons_succ, i64_w, i32_w]
                        rfl
                      refine take_ (i := 1) (N := some 41) (v := ?_) (a' := ?_) #[true, true, true, false, false, true, false, true, false, false, false, false] rfl rfl (take_ofW HT_.out HW_.out (by kernel_rfl)) (fun _ _ _ h => h) (Or.inl ⟨by rfl, ?_⟩) hHeld ?_ ?_
                      rotate_left
                      · rintro w' ⟨s0, s1, s2, s3, s4, s5, s6, s7, s8, s9, s10, s11, s12, s13, s14, s15, s16, s17, s18, s19, s20, s21, s22, s23, s24, s25, s26, s27⟩
                        go_simp
                        with_reducible rfl
                      rotate_left
                      · simp only [Act.put, List.setIfInBounds_toArray, List.set_cons_zero, List.set_cons_succ, i64_w, i32_w]
                        rfl
                      refine pure_ (i := 3) (N := some 43) (v := ?_) (a' := ?_) #[true, true, true, true, false, true, false, true, false, false, false, false] rfl rfl (any_of HT_.out (by kernel_rfl)) (fun _ _ _ h => h) (Or.inl ⟨by rfl, ?_⟩) ?_ ?_
                      rotate_left
                      · intro w'
                        go_simp
                        with_reducible rfl
                      rotate_left
                      · simp only [Act.put, List.setIfInBounds_toArray, List.set_cons_zero, List.set_cons_succ, i64_w, i32_w]
                        rfl
                      refine take_ (i := 4) (N := some 44) (v := ?_) (a' := ?_) #[true, true, true, true, true, true, false, true, false, false, false, false] rfl rfl (take_ofW HT_.out HW_.out (by kernel_rfl)) (fun _ _ _ h => h) (Or.inl ⟨by rfl, ?_⟩) hHeld ?_ ?_
                      rotate_left
                      · rintro w' ⟨s0, s1, s2, s3, s4, s5, s6, s7, s8, s9, s10, s11, s12, s13, s14, s15, s16, s17, s18, s19, s20, s21, s22, s23, s24, s25, s26, s27⟩
                        go_simp
                        with_reducible rfl
                      rotate_left
                      · simp only [Act.put, List.setIfInBounds_toArray, List.set_cons_zero, List.set_cons_succ, i64_w, i32_w]
                        rfl
                      refine take_ (i := 6) (N := some 46) (v := ?_) (a' := ?_) #[true, true, true, true, true, true, true, true, false, false, false, false] rfl rfl (take_ofW HT_.out HW_.out (by kernel_rfl)) (fun _ _ _ h => h) (Or.inl ⟨by rfl, ?_⟩) hHeld ?_ ?_
                      rotate_left
                      · rintro w' ⟨s0, s1, s2, s3, s4, s5, s6, s7, s8, s9, s10, s11, s12, s13, s14, s15, s16, s17, s18, s19, s20, s21, s22, s23, s24, s25, s26, s27⟩
                        go_simp
                        with_reducible rfl
                      rotate_left
                      · simp only [Act.put, List.setIfInBounds_toArray, List.set_cons_zero, List.set_cons_succ, i64_w, i32_w]
                        rfl
                      refine pure_ (i := 8) (N := some 48) (v := ?_) (a' := ?_) #[true, true, true, true, true, true, true, true, true, false, false, false] rfl rfl (any_of HT_.out (by kernel_rfl)) (fun _ _ _ h => h) (Or.inl ⟨by rfl, ?_⟩) ?_ ?_
                      rotate_left
                      · intro w'
                        go_simp
                        with_reducible rfl
                      rotate_left
                      · simp only [Act.put, List.setIfInBounds_toArray, List.set_cons_zero, List.set_cons_succ, i64_w, i32_w]
                        rfl
                      refine take_ (i := 9) (N := some 49) (v := ?_) (a' := ?_) #[true, true, true, true, true, true, true, true, true, true, false, false] rfl rfl (take_ofW HT_.out HW_.out (by kernel_rfl)) (fun _ _ _ h => h) (Or.inl ⟨by rfl, ?_⟩) hHeld ?_ ?_
                      rotate_left
                      · rintro w' ⟨s0, s1, s2, s3, s4, s5, s6, s7, s8, s9, s10, s11, s12, s13, s14, s15, s16, s17, s18, s19, s20, s21, s22, s23, s24, s25, s26, s27⟩
                        go_simp
                        with_reducible rfl
                      rotate_left
                      · simp only [Act.put, List.setIfInBounds_toArray, List.set_cons_zero, List.set_cons_succ, i64_w, i32_w]
                        rfl
                      refine one_ (i := 10) (N := some 50) #[true, true, true, true, true, true, true, true, true, true, true, false] rfl rfl (one_of HT_.out (by kernel_rfl)) (by decide) (fun K hK => ?_)
                      refine goes_ Try.func64 (by kernel_rfl) rfl #[.agg #[.int .u8 ((rd_T26 l0_6 x37_2).f0), .int .i64 ((rd_T26 l0_6 x37_2).f1.f0), .int .i64 ((rd_T26 l0_6 x37_2).f1.f1), .int .i64 ((rd_T26 l0_6 x37_2).f1.f2), .int .i64 ((rd_T26 l0_6 x37_2).f1.f3), .int .i64 ((rd_T26 l0_6 x37_2).f2), .slice A602_6 ((rd_T26 l0_6 x37_2).f3).length c602_6], .agg #[.int .u8 ((rd_T26 l1_6 x37_2).f0), .int .i64 ((rd_T26 l1_6 x37_2).f1.f0), .int .i64 ((rd_T26 l1_6 x37_2).f1.f1), .int .i64 ((rd_T26 l1_6 x37_2).f1.f2), .int .i64 ((rd_T26 l1_6 x37_2).f1.f3), .int .i64 ((rd_T26 l1_6 x37_2).f2), .slice A603_6 ((rd_T26 l1_6 x37_2).f3).length c603_6]] (by rfl) rfl rfl (by (try simp only [List.map_toArray, List.map_cons, List.map_nil]); first | done | rfl | (simp only [List.length_drop, List.length_take]; rfl)) ?_
                      with_reducible refine (ih k2 (by have := HJ2.out; have := HK2.out; omega) ((rd_T26 l0_6 x37_2).f0) ((rd_T26 l0_6 x37_2).f1.f0) ((rd_T26 l0_6 x37_2).f1.f1) ((rd_T26 l0_6 x37_2).f1.f2) ((rd_T26 l0_6 x37_2).f1.f3) ((rd_T26 l0_6 x37_2).f2) _ _ ((rd_T26 l0_6 x37_2).f3) ((rd_T26 l1_6 x37_2).f0) ((rd_T26 l1_6 x37_2).f1.f0) ((rd_T26 l1_6 x37_2).f1.f1) ((rd_T26 l1_6 x37_2).f1.f2) ((rd_T26 l1_6 x37_2).f1.f3) ((rd_T26 l1_6 x37_2).f2) _ _ ((rd_T26 l1_6 x37_2).f3) true _ ?side1 ?side2 ?side3 ?side4 A28.out).mono ?_
                      (case side1 => repeat (first | exact (Kd.C_below HR602_6.out HB.out) | (with_reducible refine Kd.C_alloc ?_ _) | (with_reducible refine Kd.C_drewN ?_ _) | (with_reducible refine Kd.C_drew ?_)))
                      (case side2 => exact HC602_6.out)
                      (case side3 => repeat (first | exact (Kd.C_below HR603_6.out HB.out) | (with_reducible refine Kd.C_alloc ?_ _) | (with_reducible refine Kd.C_drewN ?_ _) | (with_reducible refine Kd.C_drew ?_)))
                      (case side4 => exact HC603_6.out)
                      rintro e w31 ⟨rfl, hb⟩
                      refine ⟨_, rfl, ?_⟩
                      have n0_ := Aside0.mk (blk_below (g := gb600) (o := .cells #[.int .u8 a0_0, .int .i64 a0_1, .int .i64 a0_2, .int .i64 a0_3, .int .i64 a0_4, .int .i64 a0_5, .slice (some ad602) l0_6.length c0_6] 26 (0, 0)) (by (with_reducible repeat (first | refine blk_drewN ?_ _ | refine blk_drew ?_ | refine blk_alloc ?_ _)); exact BK600.out) hb)
                      have n1_ := Aside0.mk (blk_below (g := gb601) (o := .cells #[.int .u8 a1_0, .int .i64 a1_1, .int .i64 a1_2, .int .i64 a1_3, .int .i64 a1_4, .int .i64 a1_5, .slice (some ad603) l1_6.length c1_6] 26 (0, 0)) (by (with_reducible repeat (first | refine blk_drewN ?_ _ | refine blk_drew ?_ | refine blk_alloc ?_ _)); exact BK601.out) hb)
                      have n2_ := Aside0.mk (below_step (by repeat (first | (with_reducible first | exact HB.out | apply below_alloc | apply pw_below_drewN | apply below_drew1 | refine below_set ?_ GE600.out | refine below_set ?_ GE601.out) | exact HB.out)) hb)
                      clear BK600
                      clear BK601
                      clear HB
                      have BK600 := n0_
                      have BK601 := n1_
                      have HB := n2_
                      clear n0_ n1_ n2_
                      (try clear hb)
                      (try clear hb2)
                      (try clear hk)
                      (try clear hi)
                      refine hK.out _ _ ⟨(blk_cell BK600.out 0).trans rfl, (blk_cell BK600.out 1).trans rfl, (blk_cell BK600.out 2).trans rfl, (blk_cell BK600.out 3).trans rfl, (blk_cell BK600.out 4).trans rfl, (blk_cell BK600.out 5).trans rfl, (blk_cell BK600.out 6).trans rfl, (blk_cell BK601.out 0).trans rfl, (blk_cell BK601.out 1).trans rfl, (blk_cell BK601.out 2).trans rfl, (blk_cell BK601.out 3).trans rfl, (blk_cell BK601.out 4).trans rfl, (blk_cell BK601.out 5).trans rfl, (blk_cell BK601.out 6).trans rfl, ((HB.out.cell (World.block_lt_of_cell? w _ hw602_0)).trans hw602_0), ((HB.out.cell (World.block_lt_of_cell? w _ hw602_1)).trans hw602_1), ((HB.out.cell (World.block_lt_of_cell? w _ hw602_2)).trans hw602_2), ((HB.out.cell (World.block_lt_of_cell? w _ hw602_3)).trans hw602_3), ((HB.out.cell (World.block_lt_of_cell? w _ hw602_4)).trans hw602_4), ((HB.out.cell (World.block_lt_of_cell? w _ hw602_5)).trans hw602_5), ((HB.out.cell (World.block_lt_of_cell? w _ hw602_6)).trans hw602_6), ((HB.out.cell (World.block_lt_of_cell? w _ hw603_0)).trans hw603_0), ((HB.out.cell (World.block_lt_of_cell? w _ hw603_1)).trans hw603_1), ((HB.out.cell (World.block_lt_of_cell? w _ hw603_2)).trans hw603_2), ((HB.out.cell (World.block_lt_of_cell? w _ hw603_3)).trans hw603_3), ((HB.out.cell (World.block_lt_of_cell? w _ hw603_4)).trans hw603_4), ((HB.out.cell (World.block_lt_of_cell? w _ hw603_5)).trans hw603_5), ((HB.out.cell (World.block_lt_of_cell? w _ hw603_6)).trans hw603_6)⟩ (fun hHeld => ?_)
                      clear hK K
                      refine norm_ (a' := ?_) ?_ ?_
                      rotate_left
                      · show Act.put _ (some 50) _ = _
                        simp only [Act.put, List.setIfInBounds_toArray, List.set_cons_zero, List.set_cons_succ, i64_w, i32_w]
                        rfl
                      refine pure_ (i := 11) (N := some 51) (v := ?_) (a' := ?_) #[true, true, true, true, true, true, true, true, true, true, true, true] rfl rfl (any_of HT_.out (by kernel_rfl)) (fun _ _ _ h => h) (Or.inl ⟨by rfl, ?_⟩) ?_ ?_
                      rotate_left
                      · intro w'
                        go_simp
                        with_reducible rfl
                      rotate_left
                      · simp only [Act.put, List.setIfInBounds_toArray, List.set_cons_zero, List.set_cons_succ, i64_w, i32_w]
                        rfl
                      refine done_ (done_of HT_.out (by kernel_rfl)) ?_
                      try go_wp2
                      go_roundg k2
                      case measure => have := HJ2.out; have := HK2.out; omega
                      case rel => exact ⟨(wrap64 (x37_2 + 1)), (by first | rfl | (simp; done) | (simp [*]; done)), H', ⟨by have := HJ2.out; have := HK2.out; omega⟩, ⟨by (with_reducible repeat (first | refine blk_drewN ?_ _ | refine blk_drew ?_ | refine blk_alloc ?_ _)); exact BK600.out⟩, ⟨by (with_reducible repeat (first | refine blk_drewN ?_ _ | refine blk_drew ?_ | refine blk_alloc ?_ _)); exact BK601.out⟩, ⟨by repeat (first | (with_reducible first | exact HB.out | apply below_alloc | apply pw_below_drewN | apply below_drew1 | refine below_set ?_ GE600.out | refine below_set ?_ GE601.out) | exact HB.out)⟩⟩
                    · replace c29 := Bool.eq_false_iff.mpr c29
                      subst c29
                      have H1 : (some false) = some r := by rw [if_neg (show ¬ (false = true) by decide)] at H; exact H
                      clear H
                      have H := H1
                      clear H1
                      obtain rfl := Option.some.inj H
                      try go_wp2
                      have n0_ := Aside0.mk (blk_drew BK600.out)
                      have n1_ := Aside0.mk (blk_drew BK601.out)
                      have n2_ := Aside0.mk (below_drew1 HB.out)
                      clear BK600
                      clear BK601
                      clear HB
                      have BK600 := n0_
                      have BK601 := n1_
                      have HB := n2_
                      clear n0_ n1_ n2_
                      have p602 : 0 ≤ (x37_2 : Int) := of_decide_eq_true (by first | (with_reducible assumption) | assumption)
                      have q602 : x37_2 < (l0_6.length : Int) := of_decide_eq_true (by first | (with_reducible assumption) | assumption)
                      obtain ⟨ad602, A602_6, c602_6, e602, hx602_0, hx602_1, hx602_2, hx602_3, hx602_4, hx602_5, hx602_6, hl602_6, hi602_6⟩ := at_T26 HR0_6.out x37_2 p602 q602
                      have hw602_6 := hx602_6
                      have hw602_5 := hx602_5
                      have hw602_4 := hx602_4
                      have hw602_3 := hx602_3
                      have hw602_2 := hx602_2
                      have hw602_1 := hx602_1
                      have hw602_0 := hx602_0
                      cases e602
                      replace hx602_0 := (HB.out.cell (World.block_lt_of_cell? w _ hx602_0)).trans hx602_0
                      replace hx602_1 := (HB.out.cell (World.block_lt_of_cell? w _ hx602_1)).trans hx602_1
                      replace hx602_2 := (HB.out.cell (World.block_lt_of_cell? w _ hx602_2)).trans hx602_2
                      replace hx602_3 := (HB.out.cell (World.block_lt_of_cell? w _ hx602_3)).trans hx602_3
                      replace hx602_4 := (HB.out.cell (World.block_lt_of_cell? w _ hx602_4)).trans hx602_4
                      replace hx602_5 := (HB.out.cell (World.block_lt_of_cell? w _ hx602_5)).trans hx602_5
                      replace hx602_6 := (HB.out.cell (World.block_lt_of_cell? w _ hx602_6)).trans hx602_6
                      have HR602_6 := Aside0.mk hi602_6
                      have HC602_6 := Aside0.mk hl602_6
                      clear hi602_6 hl602_6
                      replace p602 := eq_true p602
                      replace q602 := eq_true q602
                      have p603 : 0 ≤ (x37_2 : Int) := of_decide_eq_true (by first | (with_reducible assumption) | assumption)
                      have q603 : x37_2 < (l1_6.length : Int) := of_decide_eq_true (by first | (with_reducible assumption) | assumption)
                      obtain ⟨ad603, A603_6, c603_6, e603, hx603_0, hx603_1, hx603_2, hx603_3, hx603_4, hx603_5, hx603_6, hl603_6, hi603_6⟩ := at_T26 HR1_6.out x37_2 p603 q603
                      have hw603_6 := hx603_6
                      have hw603_5 := hx603_5
                      have hw603_4 := hx603_4
                      have hw603_3 := hx603_3
                      have hw603_2 := hx603_2
                      have hw603_1 := hx603_1
                      have hw603_0 := hx603_0
                      cases e603
                      replace hx603_0 := (HB.out.cell (World.block_lt_of_cell? w _ hx603_0)).trans hx603_0
                      replace hx603_1 := (HB.out.cell (World.block_lt_of_cell? w _ hx603_1)).trans hx603_1
                      replace hx603_2 := (HB.out.cell (World.block_lt_of_cell? w _ hx603_2)).trans hx603_2
                      replace hx603_3 := (HB.out.cell (World.block_lt_of_cell? w _ hx603_3)).trans hx603_3
                      replace hx603_4 := (HB.out.cell (World.block_lt_of_cell? w _ hx603_4)).trans hx603_4
                      replace hx603_5 := (HB.out.cell (World.block_lt_of_cell? w _ hx603_5)).trans hx603_5
                      replace hx603_6 := (HB.out.cell (World.block_lt_of_cell? w _ hx603_6)).trans hx603_6
                      have HR603_6 := Aside0.mk hi603_6
                      have HC603_6 := Aside0.mk hl603_6
                      clear hi603_6 hl603_6
                      replace p603 := eq_true p603
                      replace q603 := eq_true q603
                      refine start_ (n := 12) (S := fun w' => w'.cell? ⟨gb600, 0, none⟩ = some (.int .u8 a0_0) ∧ w'.cell? ⟨gb600, 1, none⟩ = some (.int .i64 a0_1) ∧ w'.cell? ⟨gb600, 2, none⟩ = some (.int .i64 a0_2) ∧ w'.cell? ⟨gb600, 3, none⟩ = some (.int .i64 a0_3) ∧ w'.cell? ⟨gb600, 4, none⟩ = some (.int .i64 a0_4) ∧ w'.cell? ⟨gb600, 5, none⟩ = some (.int .i64 a0_5) ∧ w'.cell? ⟨gb600, 6, none⟩ = some (.slice (some ad602) l0_6.length c0_6) ∧ w'.cell? ⟨gb601, 0, none⟩ = some (.int .u8 a1_0) ∧ w'.cell? ⟨gb601, 1, none⟩ = some (.int .i64 a1_1) ∧ w'.cell? ⟨gb601, 2, none⟩ = some (.int .i64 a1_2) ∧ w'.cell? ⟨gb601, 3, none⟩ = some (.int .i64 a1_3) ∧ w'.cell? ⟨gb601, 4, none⟩ = some (.int .i64 a1_4) ∧ w'.cell? ⟨gb601, 5, none⟩ = some (.int .i64 a1_5) ∧ w'.cell? ⟨gb601, 6, none⟩ = some (.slice (some ad603) l1_6.length c1_6) ∧ w'.cell? (ad602.add ((x37_2).toNat * 7)) = some (.int .u8 ((rd_T26 l0_6 x37_2).f0)) ∧ w'.cell? ⟨(ad602.add ((x37_2).toNat * 7)).block, (ad602.add ((x37_2).toNat * 7)).off + 1, none⟩ = some (.int .i64 ((rd_T26 l0_6 x37_2).f1.f0)) ∧ w'.cell? ⟨(ad602.add ((x37_2).toNat * 7)).block, (ad602.add ((x37_2).toNat * 7)).off + 2, none⟩ = some (.int .i64 ((rd_T26 l0_6 x37_2).f1.f1)) ∧ w'.cell? ⟨(ad602.add ((x37_2).toNat * 7)).block, (ad602.add ((x37_2).toNat * 7)).off + 3, none⟩ = some (.int .i64 ((rd_T26 l0_6 x37_2).f1.f2)) ∧ w'.cell? ⟨(ad602.add ((x37_2).toNat * 7)).block, (ad602.add ((x37_2).toNat * 7)).off + 4, none⟩ = some (.int .i64 ((rd_T26 l0_6 x37_2).f1.f3)) ∧ w'.cell? ⟨(ad602.add ((x37_2).toNat * 7)).block, (ad602.add ((x37_2).toNat * 7)).off + 5, none⟩ = some (.int .i64 ((rd_T26 l0_6 x37_2).f2)) ∧ w'.cell? ⟨(ad602.add ((x37_2).toNat * 7)).block, (ad602.add ((x37_2).toNat * 7)).off + 6, none⟩ = some (.slice A602_6 ((rd_T26 l0_6 x37_2).f3).length c602_6) ∧ w'.cell? (ad603.add ((x37_2).toNat * 7)) = some (.int .u8 ((rd_T26 l1_6 x37_2).f0)) ∧ w'.cell? ⟨(ad603.add ((x37_2).toNat * 7)).block, (ad603.add ((x37_2).toNat * 7)).off + 1, none⟩ = some (.int .i64 ((rd_T26 l1_6 x37_2).f1.f0)) ∧ w'.cell? ⟨(ad603.add ((x37_2).toNat * 7)).block, (ad603.add ((x37_2).toNat * 7)).off + 2, none⟩ = some (.int .i64 ((rd_T26 l1_6 x37_2).f1.f1)) ∧ w'.cell? ⟨(ad603.add ((x37_2).toNat * 7)).block, (ad603.add ((x37_2).toNat * 7)).off + 3, none⟩ = some (.int .i64 ((rd_T26 l1_6 x37_2).f1.f2)) ∧ w'.cell? ⟨(ad603.add ((x37_2).toNat * 7)).block, (ad603.add ((x37_2).toNat * 7)).off + 4, none⟩ = some (.int .i64 ((rd_T26 l1_6 x37_2).f1.f3)) ∧ w'.cell? ⟨(ad603.add ((x37_2).toNat * 7)).block, (ad603.add ((x37_2).toNat * 7)).off + 5, none⟩ = some (.int .i64 ((rd_T26 l1_6 x37_2).f2)) ∧ w'.cell? ⟨(ad603.add ((x37_2).toNat * 7)).block, (ad603.add ((x37_2).toNat * 7)).off + 6, none⟩ = some (.slice A603_6 ((rd_T26 l1_6 x37_2).f3).length c603_6)) (ds := []) #[false, false, false, false, false, false, false, false, false, false, false, false] (by kernel_rfl) rfl rfl ⟨(blk_cell BK600.out 0).trans rfl, (blk_cell BK600.out 1).trans rfl, (blk_cell BK600.out 2).trans rfl, (blk_cell BK600.out 3).trans rfl, (blk_cell BK600.out 4).trans rfl, (blk_cell BK600.out 5).trans rfl, (blk_cell BK600.out 6).trans rfl, (blk_cell BK601.out 0).trans rfl, (blk_cell BK601.out 1).trans rfl, (blk_cell BK601.out 2).trans rfl, (blk_cell BK601.out 3).trans rfl, (blk_cell BK601.out 4).trans rfl, (blk_cell BK601.out 5).trans rfl, (blk_cell BK601.out 6).trans rfl, ((HB.out.cell (World.block_lt_of_cell? w _ hw602_0)).trans hw602_0), ((HB.out.cell (World.block_lt_of_cell? w _ hw602_1)).trans hw602_1), ((HB.out.cell (World.block_lt_of_cell? w _ hw602_2)).trans hw602_2), ((HB.out.cell (World.block_lt_of_cell? w _ hw602_3)).trans hw602_3), ((HB.out.cell (World.block_lt_of_cell? w _ hw602_4)).trans hw602_4), ((HB.out.cell (World.block_lt_of_cell? w _ hw602_5)).trans hw602_5), ((HB.out.cell (World.block_lt_of_cell? w _ hw602_6)).trans hw602_6), ((HB.out.cell (World.block_lt_of_cell? w _ hw603_0)).trans hw603_0), ((HB.out.cell (World.block_lt_of_cell? w _ hw603_1)).trans hw603_1), ((HB.out.cell (World.block_lt_of_cell? w _ hw603_2)).trans hw603_2), ((HB.out.cell (World.block_lt_of_cell? w _ hw603_3)).trans hw603_3), ((HB.out.cell (World.block_lt_of_cell? w _ hw603_4)).trans hw603_4), ((HB.out.cell (World.block_lt_of_cell? w _ hw603_5)).trans hw603_5), ((HB.out.cell (World.block_lt_of_cell? w _ hw603_6)).trans hw603_6)⟩ (fun hHeld => ?_); refine with_tabW sashref05_Same.tab6 sashref05_Same.bits6 (fun HT_ HW_ => ?_)
                      generalize wr.drew = w32 at BK600 BK601 HB HR602_6 HR603_6 hx602_0 hx602_1 hx602_2 hx602_3 hx602_4 hx602_5 hx602_6 hx603_0 hx603_1 hx603_2 hx603_3 hx603_4 hx603_5 hx603_6 hHeld ⊢
                      refine pure_ (i := 0) (N := some 40) (v := ?_) (a' := ?_) #[true, false, false, false, false, false, false, false, false, false, false, false] rfl rfl (any_of HT_.out (by kernel_rfl)) (fun _ _ _ h => h) (Or.inl ⟨by rfl, ?_⟩) ?_ ?_
                      rotate_left
                      · intro w'
                        go_simp
                        with_reducible rfl
                      rotate_left
                      · simp only [Act.put, List.setIfInBounds_toArray, List.set_cons_zero, List.set_cons_succ, i64_w, i32_w]
                        rfl
                      refine pure_ (i := 2) (N := some 42) (v := ?_) (a' := ?_) #[true, false, true, false, false, false, false, false, false, false, false, false] rfl rfl (any_of HT_.out (by kernel_rfl)) (fun _ _ _ h => h) (Or.inl ⟨by rfl, ?_⟩) ?_ ?_
                      rotate_left
                      · intro w'
                        go_simp
                        with_reducible rfl
                      rotate_left
                      · simp only [Act.put, List.setIfInBounds_toArray, List.set_cons_zero, List.set_cons_succ, i64_w, i32_w]
                        rfl
                      refine pure_ (i := 5) (N := some 45) (v := ?_) (a' := ?_) #[true, false, true, false, false, true, false, false, false, false, false, false] rfl rfl (any_of HT_.out (by kernel_rfl)) (fun _ _ _ h => h) (Or.inl ⟨by rfl, ?_⟩) ?_ ?_
                      rotate_left
                      · intro w'
                        go_simp
                        with_reducible rfl
                      rotate_left
                      · simp only [Act.put, List.setIfInBounds_toArray, List.set_cons_zero, List.set_cons_succ, i64_w, i32_w]
                        rfl
                      refine pure_ (i := 7) (N := some 47) (v := ?_) (a' := ?_) #[true, false, true, false, false, true, false, true, false, false, false, false] rfl rfl (any_of HT_.out (by kernel_rfl)) (fun _ _ _ h => h) (Or.inl ⟨by rfl, ?_⟩) ?_ ?_
                      rotate_left
                      · intro w'
                        go_simp
                        with_reducible rfl
                      rotate_left
                      · simp only [Act.put, List.setIfInBounds_toArray, List.set_cons_zero, List.set_cons_succ, i64_w, i32_w]
                        rfl
                      refine take_ (i := 1) (N := some 41) (v := ?_) (a' := ?_) #[true, true, true, false, false, true, false, true, false, false, false, false] rfl rfl (take_ofW HT_.out HW_.out (by kernel_rfl)) (fun _ _ _ h => h) (Or.inl ⟨by rfl, ?_⟩) hHeld ?_ ?_
                      rotate_left
                      · rintro w' ⟨s0, s1, s2, s3, s4, s5, s6, s7, s8, s9, s10, s11, s12, s13, s14, s15, s16, s17, s18, s19, s20, s21, s22, s23, s24, s25, s26, s27⟩
                        go_simp
                        with_reducible rfl
                      rotate_left
                      · simp only [Act.put, List.setIfInBounds_toArray, List.set_cons_zero, List.set_cons_succ, i64_w, i32_w]
                        rfl
                      refine pure_ (i := 3) (N := some 43) (v := ?_) (a' := ?_) #[true, true, true, true, false, true, false, true, false, false, false, false] rfl rfl (any_of HT_.out (by kernel_rfl)) (fun _ _ _ h => h) (Or.inl ⟨by rfl, ?_⟩) ?_ ?_
                      rotate_left
                      · intro w'
                        go_simp
                        with_reducible rfl
                      rotate_left
                      · simp only [Act.put, List.setIfInBounds_toArray, List.set_cons_zero, List.set_cons_succ, i64_w, i32_w]
                        rfl
                      refine take_ (i := 4) (N := some 44) (v := ?_) (a' := ?_) #[true, true, true, true, true, true, false, true, false, false, false, false] rfl rfl (take_ofW HT_.out HW_.out (by kernel_rfl)) (fun _ _ _ h => h) (Or.inl ⟨by rfl, ?_⟩) hHeld ?_ ?_
                      rotate_left
                      · rintro w' ⟨s0, s1, s2, s3, s4, s5, s6, s7, s8, s9, s10, s11, s12, s13, s14, s15, s16, s17, s18, s19, s20, s21, s22, s23, s24, s25, s26, s27⟩
                        go_simp
                        with_reducible rfl
                      rotate_left
                      · simp only [Act.put, List.setIfInBounds_toArray, List.set_cons_zero, List.set_cons_succ, i64_w, i32_w]
                        rfl
                      refine take_ (i := 6) (N := some 46) (v := ?_) (a' := ?_) #[true, true, true, true, true, true, true, true, false, false, false, false] rfl rfl (take_ofW HT_.out HW_.out (by kernel_rfl)) (fun _ _ _ h => h) (Or.inl ⟨by rfl, ?_⟩) hHeld ?_ ?_
                      rotate_left
                      · rintro w' ⟨s0, s1, s2, s3, s4, s5, s6, s7, s8, s9, s10, s11, s12, s13, s14, s15, s16, s17, s18, s19, s20, s21, s22, s23, s24, s25, s26, s27⟩
                        go_simp
                        with_reducible rfl
                      rotate_left
                      · simp only [Act.put, List.setIfInBounds_toArray, List.set_cons_zero, List.set_cons_succ, i64_w, i32_w]
                        rfl
                      refine pure_ (i := 8) (N := some 48) (v := ?_) (a' := ?_) #[true, true, true, true, true, true, true, true, true, false, false, false] rfl rfl (any_of HT_.out (by kernel_rfl)) (fun _ _ _ h => h) (Or.inl ⟨by rfl, ?_⟩) ?_ ?_
                      rotate_left
                      · intro w'
                        go_simp
                        with_reducible rfl
                      rotate_left
                      · simp only [Act.put, List.setIfInBounds_toArray, List.set_cons_zero, List.set_cons_succ, i64_w, i32_w]
                        rfl
                      refine take_ (i := 9) (N := some 49) (v := ?_) (a' := ?_) #[true, true, true, true, true, true, true, true, true, true, false, false] rfl rfl (take_ofW HT_.out HW_.out (by kernel_rfl)) (fun _ _ _ h => h) (Or.inl ⟨by rfl, ?_⟩) hHeld ?_ ?_
                      rotate_left
                      · rintro w' ⟨s0, s1, s2, s3, s4, s5, s6, s7, s8, s9, s10, s11, s12, s13, s14, s15, s16, s17, s18, s19, s20, s21, s22, s23, s24, s25, s26, s27⟩
                        go_simp
                        with_reducible rfl
                      rotate_left
                      · simp only [Act.put, List.setIfInBounds_toArray, List.set_cons_zero, List.set_cons_succ, i64_w, i32_w]
                        rfl
                      refine one_ (i := 10) (N := some 50) #[true, true, true, true, true, true, true, true, true, true, true, false] rfl rfl (one_of HT_.out (by kernel_rfl)) (by decide) (fun K hK => ?_)
                      refine goes_ Try.func64 (by kernel_rfl) rfl #[.agg #[.int .u8 ((rd_T26 l0_6 x37_2).f0), .int .i64 ((rd_T26 l0_6 x37_2).f1.f0), .int .i64 ((rd_T26 l0_6 x37_2).f1.f1), .int .i64 ((rd_T26 l0_6 x37_2).f1.f2), .int .i64 ((rd_T26 l0_6 x37_2).f1.f3), .int .i64 ((rd_T26 l0_6 x37_2).f2), .slice A602_6 ((rd_T26 l0_6 x37_2).f3).length c602_6], .agg #[.int .u8 ((rd_T26 l1_6 x37_2).f0), .int .i64 ((rd_T26 l1_6 x37_2).f1.f0), .int .i64 ((rd_T26 l1_6 x37_2).f1.f1), .int .i64 ((rd_T26 l1_6 x37_2).f1.f2), .int .i64 ((rd_T26 l1_6 x37_2).f1.f3), .int .i64 ((rd_T26 l1_6 x37_2).f2), .slice A603_6 ((rd_T26 l1_6 x37_2).f3).length c603_6]] (by rfl) rfl rfl (by (try simp only [List.map_toArray, List.map_cons, List.map_nil]); first | done | rfl | (simp only [List.length_drop, List.length_take]; rfl)) ?_
                      with_reducible refine (ih k2 (by have := HJ2.out; have := HK2.out; omega) ((rd_T26 l0_6 x37_2).f0) ((rd_T26 l0_6 x37_2).f1.f0) ((rd_T26 l0_6 x37_2).f1.f1) ((rd_T26 l0_6 x37_2).f1.f2) ((rd_T26 l0_6 x37_2).f1.f3) ((rd_T26 l0_6 x37_2).f2) _ _ ((rd_T26 l0_6 x37_2).f3) ((rd_T26 l1_6 x37_2).f0) ((rd_T26 l1_6 x37_2).f1.f0) ((rd_T26 l1_6 x37_2).f1.f1) ((rd_T26 l1_6 x37_2).f1.f2) ((rd_T26 l1_6 x37_2).f1.f3) ((rd_T26 l1_6 x37_2).f2) _ _ ((rd_T26 l1_6 x37_2).f3) false _ ?side1 ?side2 ?side3 ?side4 A28.out).mono ?_
                      (case side1 => repeat (first | exact (Kd.C_below HR602_6.out HB.out) | (with_reducible refine Kd.C_alloc ?_ _) | (with_reducible refine Kd.C_drewN ?_ _) | (with_reducible refine Kd.C_drew ?_)))
                      (case side2 => exact HC602_6.out)
                      (case side3 => repeat (first | exact (Kd.C_below HR603_6.out HB.out) | (with_reducible refine Kd.C_alloc ?_ _) | (with_reducible refine Kd.C_drewN ?_ _) | (with_reducible refine Kd.C_drew ?_)))
                      (case side4 => exact HC603_6.out)
                      rintro e w33 ⟨rfl, hb⟩
                      refine ⟨_, rfl, ?_⟩
                      have n0_ := Aside0.mk (blk_below (g := gb600) (o := .cells #[.int .u8 a0_0, .int .i64 a0_1, .int .i64 a0_2, .int .i64 a0_3, .int .i64 a0_4, .int .i64 a0_5, .slice (some ad602) l0_6.length c0_6] 26 (0, 0)) (by (with_reducible repeat (first | refine blk_drewN ?_ _ | refine blk_drew ?_ | refine blk_alloc ?_ _)); exact BK600.out) hb)
                      have n1_ := Aside0.mk (blk_below (g := gb601) (o := .cells #[.int .u8 a1_0, .int .i64 a1_1, .int .i64 a1_2, .int .i64 a1_3, .int .i64 a1_4, .int .i64 a1_5, .slice (some ad603) l1_6.length c1_6] 26 (0, 0)) (by (with_reducible repeat (first | refine blk_drewN ?_ _ | refine blk_drew ?_ | refine blk_alloc ?_ _)); exact BK601.out) hb)
                      have n2_ := Aside0.mk (below_step (by repeat (first | (with_reducible first | exact HB.out | apply below_alloc | apply pw_below_drewN | apply below_drew1 | refine below_set ?_ GE600.out | refine below_set ?_ GE601.out) | exact HB.out)) hb)
                      clear BK600
                      clear BK601
                      clear HB
                      have BK600 := n0_
                      have BK601 := n1_
                      have HB := n2_
                      clear n0_ n1_ n2_
                      (try clear hb)
                      (try clear hb2)
                      (try clear hk)
                      (try clear hi)
                      refine hK.out _ _ ⟨(blk_cell BK600.out 0).trans rfl, (blk_cell BK600.out 1).trans rfl, (blk_cell BK600.out 2).trans rfl, (blk_cell BK600.out 3).trans rfl, (blk_cell BK600.out 4).trans rfl, (blk_cell BK600.out 5).trans rfl, (blk_cell BK600.out 6).trans rfl, (blk_cell BK601.out 0).trans rfl, (blk_cell BK601.out 1).trans rfl, (blk_cell BK601.out 2).trans rfl, (blk_cell BK601.out 3).trans rfl, (blk_cell BK601.out 4).trans rfl, (blk_cell BK601.out 5).trans rfl, (blk_cell BK601.out 6).trans rfl, ((HB.out.cell (World.block_lt_of_cell? w _ hw602_0)).trans hw602_0), ((HB.out.cell (World.block_lt_of_cell? w _ hw602_1)).trans hw602_1), ((HB.out.cell (World.block_lt_of_cell? w _ hw602_2)).trans hw602_2), ((HB.out.cell (World.block_lt_of_cell? w _ hw602_3)).trans hw602_3), ((HB.out.cell (World.block_lt_of_cell? w _ hw602_4)).trans hw602_4), ((HB.out.cell (World.block_lt_of_cell? w _ hw602_5)).trans hw602_5), ((HB.out.cell (World.block_lt_of_cell? w _ hw602_6)).trans hw602_6), ((HB.out.cell (World.block_lt_of_cell? w _ hw603_0)).trans hw603_0), ((HB.out.cell (World.block_lt_of_cell? w _ hw603_1)).trans hw603_1), ((HB.out.cell (World.block_lt_of_cell? w _ hw603_2)).trans hw603_2), ((HB.out.cell (World.block_lt_of_cell? w _ hw603_3)).trans hw603_3), ((HB.out.cell (World.block_lt_of_cell? w _ hw603_4)).trans hw603_4), ((HB.out.cell (World.block_lt_of_cell? w _ hw603_5)).trans hw603_5), ((HB.out.cell (World.block_lt_of_cell? w _ hw603_6)).trans hw603_6)⟩ (fun hHeld => ?_)
                      clear hK K
                      refine norm_ (a' := ?_) ?_ ?_
                      rotate_left
                      · show Act.put _ (some 50) _ = _
                        simp only [Act.put, List.setIfInBounds_toArray, List.set_cons_zero, List.set_cons_succ, i64_w, i32_w]
                        rfl
                      refine pure_ (i := 11) (N := some 51) (v := ?_) (a' := ?_) #[true, true, true, true, true, true, true, true, true, true, true, true] rfl rfl (any_of HT_.out (by kernel_rfl)) (fun _ _ _ h => h) (Or.inl ⟨by rfl, ?_⟩) ?_ ?_
                      rotate_left
                      · intro w'
                        go_simp
                        with_reducible rfl
                      rotate_left
                      · simp only [Act.put, List.setIfInBounds_toArray, List.set_cons_zero, List.set_cons_succ, i64_w, i32_w]
                        rfl
                      refine done_ (done_of HT_.out (by kernel_rfl)) ?_
                      try go_wp2
                      go_ret
                      exact ⟨by first | rfl | (simp [errW_none, errW_some] <;> rfl) | (simp [*, errW_none, errW_some] <;> rfl), by repeat (first | (with_reducible first | exact HB.out | apply below_alloc | apply pw_below_drewN | apply below_drew1 | refine below_set ?_ GE600.out | refine below_set ?_ GE601.out) | exact HB.out)⟩
                  · rw [if_neg c27] at H
                    exact absurd H (by simp)
                · rw [if_neg c26] at H
                  exact absurd H (by simp)
              · rw [if_neg c25] at H
                exact absurd H (by simp)
            · rw [if_neg c24] at H
              have c24b0 : decide (x37_2 < (l0_6.length : Int)) = false := decide_eq_false c24
              clear c24
              obtain rfl := Option.some.inj H
              go_wp2
              go_ret
              exact ⟨by first | rfl | (simp [errW_none, errW_some] <;> rfl) | (simp [*, errW_none, errW_some] <;> rfl), by repeat (first | (with_reducible first | exact HB.out | apply below_alloc | apply pw_below_drewN | apply below_drew1 | refine below_set ?_ GE600.out | refine below_set ?_ GE601.out) | exact HB.out)⟩

end Go.Proofs.Ytfdmfgaiblfbhaa.P
namespace Go.Proofs.Ytfdmfgaiblfbhaa.P
open Go.RowKit Go.Proofs.YtfdmfgaiblfbhaaW.PrintWords Go.Proofs.YtfdmfgaiblfbhaaW.PrintLast Go.Proofs.YtfdmfgaiblfbhaaW.PrintMore
attribute [local go_sem] max2_int min2_int max_two min_two max_three min_three max_four min_four   -- for this text's walks alone
set_option linter.unusedVariables false
set_option linter.unusedSimpArgs false

/-! ### sashref05_Find: function 90 -/
mutual
def sashref05_Find.j0 : Nat → Int → Bool → Int → Int → Int → Int → Int → Int → List (S26) → Option (List Int × Bool)
  | 0, _, _, _, _, _, _, _, _, _ => none
  | k + 1, x1, x17, x985000, x985001, x985002, x985003, x985004, x985005, x985006 => if x17 = true then (some ((([] : List Int)), true)) else (sashref05_Find.l0 k x1 (x985006.length : Int) 0 x985000 x985001 x985002 x985003 x985004 x985005 x985006)
def sashref05_Find.l0 : Nat → Int → Int → Int → Int → Int → Int → Int → Int → Int → List (S26) → Option (List Int × Bool)
  | 0, _, _, _, _, _, _, _, _, _, _ => none
  | k + 1, x1, x21, x22, x985000, x985001, x985002, x985003, x985004, x985005, x985006 => if x22 < x21 then (if 0 ≤ x22 then (if x22 < (x985006.length : Int) then ((sashref05_Find.f k ((rd_T26 x985006 x22).f0) ((rd_T26 x985006 x22).f1.f0) ((rd_T26 x985006 x22).f1.f1) ((rd_T26 x985006 x22).f1.f2) ((rd_T26 x985006 x22).f1.f3) ((rd_T26 x985006 x22).f2) ((rd_T26 x985006 x22).f3) x1).bind fun bt989 => (if bt989.2 = true then ((some (([x22] : List Int) : List Int)).bind fun y993 => (if y993.length + bt989.1.length < 17592186044416 then (some ((y993 ++ bt989.1), true)) else (none))) else (sashref05_Find.l0 k x1 x21 (wrap64 (x22 + 1)) x985000 x985001 x985002 x985003 x985004 x985005 x985006))) else (none)) else (none)) else (some ((([] : List Int)), false))
def sashref05_Find.f : Nat → Int → Int → Int → Int → Int → Int → List (S26) → Int → Option (List Int × Bool)
  | 0, _, _, _, _, _, _, _, _ => none
  | k + 1, a0_0, a0_1, a0_2, a0_3, a0_4, a0_5, l0_6, a1 => if a0_0 = 1 then (sashref05_Find.j0 k a1 (a0_5 == a1) a0_0 a0_1 a0_2 a0_3 a0_4 a0_5 l0_6) else (sashref05_Find.j0 k a1 false a0_0 a0_1 a0_2 a0_3 a0_4 a0_5 l0_6)
end
theorem sashref05_Find.mono_l : ∀ k, (∀ y0 y1 y2 y3 y4 y5 y6 y7, LeO (sashref05_Find.f k y0 y1 y2 y3 y4 y5 y6 y7) (sashref05_Find.f (k + 1) y0 y1 y2 y3 y4 y5 y6 y7)) ∧ (∀ y0 y1 y2 y3 y4 y5 y6 y7 y8, LeO (sashref05_Find.j0 k y0 y1 y2 y3 y4 y5 y6 y7 y8) (sashref05_Find.j0 (k + 1) y0 y1 y2 y3 y4 y5 y6 y7 y8)) ∧ (∀ y0 y1 y2 y3 y4 y5 y6 y7 y8 y9, LeO (sashref05_Find.l0 k y0 y1 y2 y3 y4 y5 y6 y7 y8 y9) (sashref05_Find.l0 (k + 1) y0 y1 y2 y3 y4 y5 y6 y7 y8 y9))
  | 0 => ⟨fun _ _ _ _ _ _ _ _ r h => by simp [sashref05_Find.f] at h, fun _ _ _ _ _ _ _ _ _ r h => by simp [sashref05_Find.j0] at h, fun _ _ _ _ _ _ _ _ _ _ r h => by simp [sashref05_Find.l0] at h⟩
  | k + 1 => by
    obtain ⟨ih0, ih1, ih2⟩ := sashref05_Find.mono_l k
    refine ⟨?_, ?_, ?_⟩
    · intro y0 y1 y2 y3 y4 y5 y6 y7
      unfold sashref05_Find.f
      repeat' first
      | (with_reducible exact ih0 _ _ _ _ _ _ _ _)
      | (with_reducible exact ih1 _ _ _ _ _ _ _ _ _)
      | (with_reducible exact ih2 _ _ _ _ _ _ _ _ _ _)
      | (with_reducible exact LeO.refl _)
      | (with_reducible exact LeO.none _)
      | (with_reducible refine LeO.ite ?_ ?_)
      | (with_reducible refine LeO.bind ?_ (fun _ => ?_))
      | exact ih0 _ _ _ _ _ _ _ _
      | exact ih1 _ _ _ _ _ _ _ _ _
      | exact ih2 _ _ _ _ _ _ _ _ _ _
      | exact LeO.none _
      | refine LeO.ite ?_ ?_
      | refine LeO.bind ?_ (fun _ => ?_)
    · intro y0 y1 y2 y3 y4 y5 y6 y7 y8
      unfold sashref05_Find.j0
      repeat' first
      | (with_reducible exact ih0 _ _ _ _ _ _ _ _)
      | (with_reducible exact ih1 _ _ _ _ _ _ _ _ _)
      | (with_reducible exact ih2 _ _ _ _ _ _ _ _ _ _)
      | (with_reducible exact LeO.refl _)
      | (with_reducible exact LeO.none _)
      | (with_reducible refine LeO.ite ?_ ?_)
      | (with_reducible refine LeO.bind ?_ (fun _ => ?_))
      | exact ih0 _ _ _ _ _ _ _ _
      | exact ih1 _ _ _ _ _ _ _ _ _
      | exact ih2 _ _ _ _ _ _ _ _ _ _
      | exact LeO.none _
      | refine LeO.ite ?_ ?_
      | refine LeO.bind ?_ (fun _ => ?_)
    · intro y0 y1 y2 y3 y4 y5 y6 y7 y8 y9
      unfold sashref05_Find.l0
      repeat' first
      | (with_reducible exact ih0 _ _ _ _ _ _ _ _)
      | (with_reducible exact ih1 _ _ _ _ _ _ _ _ _)
      | (with_reducible exact ih2 _ _ _ _ _ _ _ _ _ _)
      | (with_reducible exact LeO.refl _)
      | (with_reducible exact LeO.none _)
      | (with_reducible refine LeO.ite ?_ ?_)
      | (with_reducible refine LeO.bind ?_ (fun _ => ?_))
      | exact ih0 _ _ _ _ _ _ _ _
      | exact ih1 _ _ _ _ _ _ _ _ _
      | exact ih2 _ _ _ _ _ _ _ _ _ _
      | exact LeO.none _
      | refine LeO.ite ?_ ?_
      | refine LeO.bind ?_ (fun _ => ?_)
theorem sashref05_Find.mono : ∀ a0 a1 a2 a3 a4 a5 a6 a7 k, LeO (sashref05_Find.f k a0 a1 a2 a3 a4 a5 a6 a7) (sashref05_Find.f (k + 1) a0 a1 a2 a3 a4 a5 a6 a7) := by
  intro a0 a1 a2 a3 a4 a5 a6 a7 k
  obtain ⟨ih0, ih1, ih2⟩ := sashref05_Find.mono_l k
  exact ih0 a0 a1 a2 a3 a4 a5 a6 a7
set_option maxHeartbeats 8000000 in
set_option maxRecDepth 100000 in
theorem sashref05_Find.calls (k : Nat) : ∀ (a0_0 : Int) (a0_1 : Int) (a0_2 : Int) (a0_3 : Int) (a0_4 : Int) (a0_5 : Int) (A0_6 : Option Addr) (c0_6 : Nat) (l0_6 : List (S26)) (a1 : Int) (r1 : List Int) (r2 : Bool) (w : World) (hr0_6 : Kd.C k26 w A0_6 l0_6.length l0_6) (hc0_6 : l0_6.length ≤ c0_6) (h : sashref05_Find.f k a0_0 a0_1 a0_2 a0_3 a0_4 a0_5 l0_6 a1 = some (r1, r2)),
    Calls Try.prog 90 #[.agg #[.int .u8 a0_0, .int .i64 a0_1, .int .i64 a0_2, .int .i64 a0_3, .int .i64 a0_4, .int .i64 a0_5, .slice A0_6 l0_6.length c0_6], .int .i64 a1] w fun e w' => ∃ v0_ : Value, e = .returned (.tuple #[v0_, .bool r2]) ∧ Kd.R (Kd.int .i64) 3 w' w.heap.size (fun _ => True) v0_ r1 ∧ Below w.heap.size w w' := by
  induction k using Nat.strongRecOn with
  | _ k ih =>
  intro a0_0 a0_1 a0_2 a0_3 a0_4 a0_5 A0_6 c0_6 l0_6 a1 r1 r2 w hr0_6 hc0_6 h
  cases k with
  | zero => exact absurd h (by simp [sashref05_Find.f])
  | succ k =>
  simp only [sashref05_Find.f] at h
  have hu26 := Try.underlying26
  have HR0_6 := Aside0.mk hr0_6
  have HC0_6 := Aside0.mk hc0_6
  clear hr0_6 hc0_6
  have HB := Aside0.mk (Below.refl w.heap.size w)
  have H : (if a0_0 = 1 then (sashref05_Find.j0 k a1 (a0_5 == a1) a0_0 a0_1 a0_2 a0_3 a0_4 a0_5 l0_6) else (sashref05_Find.j0 k a1 false a0_0 a0_1 a0_2 a0_3 a0_4 a0_5 l0_6)) = some (r1, r2) := h
  clear h
  have HC3 := Aside0.mk H
  clear H
  go_enter Try.func90, Try.ntmps90
  go_upto_region 1 with (first | ((with_reducible refine gate_dst (N := 2) rfl ?_); refine box_event ?hg (N := 2) ?hd (cs := #[.int .u8 a0_0, .int .i64 a0_1, .int .i64 a0_2, .int .i64 a0_3, .int .i64 a0_4, .int .i64 a0_5, .slice A0_6 l0_6.length c0_6]) (t := 26) ?hr ?_; (case hd => rfl); (case hg => rfl); (case hr => first | (go_simp; done) | (go_simp; rfl)); intro gb984 hg w4 hbox hb; have n0_ := Aside0.mk (below_step (by repeat (first | (with_reducible first | exact HB.out | apply below_alloc | apply pw_below_drewN | apply below_drew1) | exact HB.out)) hb); have n1_ := Aside0.mk (hbox); have n2_ := Aside0.mk ((by rw [hg]; exact (below_size (by repeat (first | (with_reducible first | exact HB.out | apply below_alloc | apply pw_below_drewN | apply below_drew1) | exact HB.out))) : w.heap.size ≤ gb984)); have n3_ := Aside0.mk ((by rw [hg]; exact (below_size (by repeat (first | (with_reducible first | exact HB.out | apply below_alloc | apply pw_below_drewN | apply below_drew1) | exact HB.out))) : w.heap.size ≤ gb984)); clear HB; have HB := n0_; have BK984 := n1_; have GW984 := n2_; have GE984 := n3_; clear n0_ n1_ n2_ n3_; clear hb hbox hg))
  (try simp only [Act.put, List.setIfInBounds_toArray, List.set_cons_zero, List.set_cons_succ])
  go_cut [17] (fun v17 wc => ∃ (kq : Nat) (x17_2 : Bool), v17 = .bool x17_2 ∧ Aside0 (sashref05_Find.j0 kq a1 x17_2 a0_0 a0_1 a0_2 a0_3 a0_4 a0_5 l0_6 = some (r1, r2)) ∧ Aside0 (kq ≤ k) ∧ Aside0 (wc.heap[gb984]? = some (.cells #[.int .u8 a0_0, .int .i64 a0_1, .int .i64 a0_2, .int .i64 a0_3, .int .i64 a0_4, .int .i64 a0_5, (.slice A0_6 l0_6.length c0_6)] 26 (0, 0))) ∧ Aside0 (Below w.heap.size w wc))
  case first =>
    have H := HC3.out
    clear HC3
    by_cases c5 : a0_0 = 1
    · rw [if_pos c5] at H
      have c5b0 : (a0_0 == 1) = true := beq_iff_eq.mpr c5
      have c5b1 : (a0_0 != 1) = false := bne_eq_false_iff_eq.mpr c5
      clear c5
      (first | rw [c5b0] | (simp only [i64_w, i32_w]; rw [c5b0]) | skip)
      have H' := Aside0.mk H
      clear H
      have hcz6_0 : w4.cell? ⟨gb984, 0, none⟩ = some (.int .u8 a0_0) := (blk_cell BK984.out 0).trans rfl
      have hcz6_1 : w4.cell? ⟨gb984, 1, none⟩ = some (.int .i64 a0_1) := (blk_cell BK984.out 1).trans rfl
      have hcz6_2 : w4.cell? ⟨gb984, 2, none⟩ = some (.int .i64 a0_2) := (blk_cell BK984.out 2).trans rfl
      have hcz6_3 : w4.cell? ⟨gb984, 3, none⟩ = some (.int .i64 a0_3) := (blk_cell BK984.out 3).trans rfl
      have hcz6_4 : w4.cell? ⟨gb984, 4, none⟩ = some (.int .i64 a0_4) := (blk_cell BK984.out 4).trans rfl
      have hcz6_5 : w4.cell? ⟨gb984, 5, none⟩ = some (.int .i64 a0_5) := (blk_cell BK984.out 5).trans rfl
      have hcz6_6 : w4.cell? ⟨gb984, 6, none⟩ = some (.slice A0_6 l0_6.length c0_6) := (blk_cell BK984.out 6).trans rfl
      have hfz6_0 := blk_frozen BK984.out 0
      have hfz6_1 := blk_frozen BK984.out 1
      have hfz6_2 := blk_frozen BK984.out 2
      have hfz6_3 := blk_frozen BK984.out 3
      have hfz6_4 := blk_frozen BK984.out 4
      have hfz6_5 := blk_frozen BK984.out 5
      have hfz6_6 := blk_frozen BK984.out 6
      go_wp2
      go_meet
      case rel => exact ⟨_, ((a0_5 == a1)), (by first | rfl | (simp; done) | (simp [*]; done)), H', ⟨by first | omega | exact Nat.le_refl _⟩, ⟨by (with_reducible repeat (first | refine blk_drewN ?_ _ | refine blk_drew ?_ | refine blk_alloc ?_ _)); exact BK984.out⟩, ⟨by repeat (first | (with_reducible first | exact HB.out | apply below_alloc | apply pw_below_drewN | apply below_drew1 | refine below_set ?_ GE984.out) | exact HB.out)⟩⟩
    · rw [if_neg c5] at H
      have c5b0 : (a0_0 == 1) = false := beq_eq_false_iff_ne.mpr c5
      have c5b1 : (a0_0 != 1) = true := bne_iff_ne.mpr c5
      (first | rw [c5b0] | (simp only [i64_w, i32_w]; rw [c5b0]) | skip)
      have H' := Aside0.mk H
      clear H
      have hcz7_0 : w4.cell? ⟨gb984, 0, none⟩ = some (.int .u8 a0_0) := (blk_cell BK984.out 0).trans rfl
      have hcz7_1 : w4.cell? ⟨gb984, 1, none⟩ = some (.int .i64 a0_1) := (blk_cell BK984.out 1).trans rfl
      have hcz7_2 : w4.cell? ⟨gb984, 2, none⟩ = some (.int .i64 a0_2) := (blk_cell BK984.out 2).trans rfl
      have hcz7_3 : w4.cell? ⟨gb984, 3, none⟩ = some (.int .i64 a0_3) := (blk_cell BK984.out 3).trans rfl
      have hcz7_4 : w4.cell? ⟨gb984, 4, none⟩ = some (.int .i64 a0_4) := (blk_cell BK984.out 4).trans rfl
      have hcz7_5 : w4.cell? ⟨gb984, 5, none⟩ = some (.int .i64 a0_5) := (blk_cell BK984.out 5).trans rfl
      have hcz7_6 : w4.cell? ⟨gb984, 6, none⟩ = some (.slice A0_6 l0_6.length c0_6) := (blk_cell BK984.out 6).trans rfl
      have hfz7_0 := blk_frozen BK984.out 0
      have hfz7_1 := blk_frozen BK984.out 1
      have hfz7_2 := blk_frozen BK984.out 2
      have hfz7_3 := blk_frozen BK984.out 3
      have hfz7_4 := blk_frozen BK984.out 4
      have hfz7_5 := blk_frozen BK984.out 5
      have hfz7_6 := blk_frozen BK984.out 6
      go_wp2
      go_meet
      case rel => exact ⟨_, (false), (by first | rfl | (simp; done) | (simp [*]; done)), H', ⟨by first | omega | exact Nat.le_refl _⟩, ⟨by (with_reducible repeat (first | refine blk_drewN ?_ _ | refine blk_drew ?_ | refine blk_alloc ?_ _)); exact BK984.out⟩, ⟨by repeat (first | (with_reducible first | exact HB.out | apply below_alloc | apply pw_below_drewN | apply below_drew1 | refine below_set ?_ GE984.out) | exact HB.out)⟩⟩
  case rest =>
    clear HC3
    try clear p2
    try clear c5
    try clear c5b0
    try clear c5b1
    try clear hcz6_0
    try clear hcz6_1
    try clear hcz6_2
    try clear hcz6_3
    try clear hcz6_4
    try clear hcz6_5
    try clear hcz6_6
    try clear hcz7_0
    try clear hcz7_1
    try clear hcz7_2
    try clear hcz7_3
    try clear hcz7_4
    try clear hcz7_5
    try clear hcz7_6
    try clear hfz6_0
    try clear hfz6_1
    try clear hfz6_2
    try clear hfz6_3
    try clear hfz6_4
    try clear hfz6_5
    try clear hfz6_6
    try clear hfz7_0
    try clear hfz7_1
    try clear hfz7_2
    try clear hfz7_3
    try clear hfz7_4
    try clear hfz7_5
    try clear hfz7_6
    obtain ⟨kq, x17_2, rfl, HA, HJ2, BK984, HB⟩ := hcut
    cases kq with
    | zero => exact absurd HA.out (by simp [sashref05_Find.j0])
    | succ kj2 =>
      have H := HA.out
      clear HA
      simp only [sashref05_Find.j0] at H
      by_cases c8 : x17_2 = true
      · subst c8
        have H1 : (some ((([] : List Int)), true)) = some (r1, r2) := by rw [if_pos rfl] at H; exact H
        clear H
        have H := H1
        clear H1
        obtain ⟨y985, hy985⟩ : ∃ y_ : List Int, y_ = (([] : List Int)) := ⟨_, rfl⟩
        replace H : (some (y985, true)) = some (r1, r2) := by first | (rw [hy985]; with_reducible exact H) | (have H2_ := (Option.bind_some _ _).symm.trans H; rw [hy985]; with_reducible exact H2_) | (have H2_ := (Option.bind_some _ _).symm.trans H; with_reducible exact H2_) | with_reducible exact H | (rw [hy985]; exact H) | exact H
        have Ny985 := Aside0.mk hy985
        clear hy985
        simp only [Option.some.injEq, Prod.mk.injEq] at H
        obtain ⟨rfl, rfl⟩ := H
        go_wp2_with (first | ((with_reducible refine gate_dst (N := 18) rfl ?_); refine Kd.R_lit (Kd.int .i64) _ 3 ?hg (N := 18) ?hd (xs := ([] : List Int)) (inner := []) (ok := fun _ => True) (okp := fun _ => True) ?hr ?hp (fun _ hk => hk) trivial (Below.refl _ _) (Nat.le_refl _) (by simp) ?_; (case hd => rfl); (case hg => rfl); (case hr => first | (go_simp; done) | (go_simp; rfl)); (case hp => exact (Reps.none _ _)); intro v986 w9 ho10 hb hg_ hnew_; clear hg_ hnew_; (first | rw [← Ny985.out] at ho10 | (simp only [Int.reduceToNat] at ho10; rw [← Ny985.out] at ho10)); have n0_ := Aside0.mk (Kd.R_lower ho10 (below_size (by repeat (first | (with_reducible first | exact HB.out | apply below_alloc | apply pw_below_drewN | apply below_drew1 | refine below_set ?_ GE984.out) | exact HB.out)))); have n1_ := Aside0.mk (blk_below (g := gb984) (o := .cells #[.int .u8 a0_0, .int .i64 a0_1, .int .i64 a0_2, .int .i64 a0_3, .int .i64 a0_4, .int .i64 a0_5, .slice A0_6 l0_6.length c0_6] 26 (0, 0)) (by (with_reducible repeat (first | refine blk_drewN ?_ _ | refine blk_drew ?_ | refine blk_alloc ?_ _)); exact BK984.out) hb); have n2_ := Aside0.mk (below_step (by repeat (first | (with_reducible first | exact HB.out | apply below_alloc | apply pw_below_drewN | apply below_drew1 | refine below_set ?_ GE984.out) | exact HB.out)) hb); clear BK984; clear HB; have HO987 := n0_; have BK984 := n1_; have HB := n2_; clear n0_ n1_ n2_; clear hb ho10))
        go_ret2
        exact ⟨_, by first | rfl | (simp [errW_none, errW_some] <;> rfl) | (simp [*, errW_none, errW_some] <;> rfl), by (with_reducible repeat (first | apply Kd.R_alloc | apply Kd.R_drewN | apply Kd.R_drew)); exact HO987.out, by repeat (first | (with_reducible first | exact HB.out | apply below_alloc | apply pw_below_drewN | apply below_drew1 | refine below_set ?_ GE984.out) | exact HB.out)⟩
      · replace c8 := Bool.eq_false_iff.mpr c8
        subst c8
        have H1 : (sashref05_Find.l0 kj2 a1 (l0_6.length : Int) 0 a0_0 a0_1 a0_2 a0_3 a0_4 a0_5 l0_6) = some (r1, r2) := by rw [if_neg (show ¬ (false = true) by decide)] at H; exact H
        clear H
        have H := H1
        clear H1
        have H' := Aside0.mk H
        clear H
        have hcz11_0 : wc.cell? ⟨gb984, 0, none⟩ = some (.int .u8 a0_0) := (blk_cell BK984.out 0).trans rfl
        have hcz11_1 : wc.cell? ⟨gb984, 1, none⟩ = some (.int .i64 a0_1) := (blk_cell BK984.out 1).trans rfl
        have hcz11_2 : wc.cell? ⟨gb984, 2, none⟩ = some (.int .i64 a0_2) := (blk_cell BK984.out 2).trans rfl
        have hcz11_3 : wc.cell? ⟨gb984, 3, none⟩ = some (.int .i64 a0_3) := (blk_cell BK984.out 3).trans rfl
        have hcz11_4 : wc.cell? ⟨gb984, 4, none⟩ = some (.int .i64 a0_4) := (blk_cell BK984.out 4).trans rfl
        have hcz11_5 : wc.cell? ⟨gb984, 5, none⟩ = some (.int .i64 a0_5) := (blk_cell BK984.out 5).trans rfl
        have hcz11_6 : wc.cell? ⟨gb984, 6, none⟩ = some (.slice A0_6 l0_6.length c0_6) := (blk_cell BK984.out 6).trans rfl
        have hfz11_0 := blk_frozen BK984.out 0
        have hfz11_1 := blk_frozen BK984.out 1
        have hfz11_2 := blk_frozen BK984.out 2
        have hfz11_3 := blk_frozen BK984.out 3
        have hfz11_4 := blk_frozen BK984.out 4
        have hfz11_5 := blk_frozen BK984.out 5
        have hfz11_6 := blk_frozen BK984.out 6
        go_wp2
        go_loopg [22] kj2 (fun kq v22 w' => ∃ (x22_2 : Int), v22 = .int .i64 x22_2 ∧ Aside0 (sashref05_Find.l0 kq a1 (l0_6.length : Int) x22_2 a0_0 a0_1 a0_2 a0_3 a0_4 a0_5 l0_6 = some (r1, r2)) ∧ Aside0 (kq ≤ kj2) ∧ Aside0 (w'.heap[gb984]? = some (.cells #[.int .u8 a0_0, .int .i64 a0_1, .int .i64 a0_2, .int .i64 a0_3, .int .i64 a0_4, .int .i64 a0_5, (.slice A0_6 l0_6.length c0_6)] 26 (0, 0))) ∧ Aside0 (Below w.heap.size w w'))
        case atStart => exact ⟨(0), (by first | rfl | (simp; done) | (simp [*]; done)), H', ⟨Nat.le_refl _⟩, ⟨by (with_reducible repeat (first | refine blk_drewN ?_ _ | refine blk_drew ?_ | refine blk_alloc ?_ _)); exact BK984.out⟩, ⟨by repeat (first | (with_reducible first | exact HB.out | apply below_alloc | apply pw_below_drewN | apply below_drew1 | refine below_set ?_ GE984.out) | exact HB.out)⟩⟩
        case round =>
          clear H'
          try clear p2
          try clear c5
          try clear c5b0
          try clear c5b1
          try clear c8
          try clear c9
          try clear hcz11_0
          try clear hcz11_1
          try clear hcz11_2
          try clear hcz11_3
          try clear hcz11_4
          try clear hcz11_5
          try clear hcz11_6
          try clear hcz6_0
          try clear hcz6_1
          try clear hcz6_2
          try clear hcz6_3
          try clear hcz6_4
          try clear hcz6_5
          try clear hcz6_6
          try clear hcz7_0
          try clear hcz7_1
          try clear hcz7_2
          try clear hcz7_3
          try clear hcz7_4
          try clear hcz7_5
          try clear hcz7_6
          try clear hfz11_0
          try clear hfz11_1
          try clear hfz11_2
          try clear hfz11_3
          try clear hfz11_4
          try clear hfz11_5
          try clear hfz11_6
          try clear hfz6_0
          try clear hfz6_1
          try clear hfz6_2
          try clear hfz6_3
          try clear hfz6_4
          try clear hfz6_5
          try clear hfz6_6
          try clear hfz7_0
          try clear hfz7_1
          try clear hfz7_2
          try clear hfz7_3
          try clear hfz7_4
          try clear hfz7_5
          try clear hfz7_6
          try clear p2
          obtain ⟨x22_2, rfl, HA, HK2, BK984, HB⟩ := hrel
          cases gk with
          | zero => exact absurd HA.out (by simp [sashref05_Find.l0])
          | succ k2 =>
            have H := HA.out
            clear HA
            simp only [sashref05_Find.l0] at H
            by_cases c12 : x22_2 < (l0_6.length : Int)
            · rw [if_pos c12] at H
              have c12b0 : decide (x22_2 < (l0_6.length : Int)) = true := decide_eq_true c12
              clear c12
              by_cases c13 : 0 ≤ x22_2
              · rw [if_pos c13] at H
                have c13b0 : decide (0 ≤ x22_2) = true := decide_eq_true c13
                clear c13
                by_cases c14 : x22_2 < (l0_6.length : Int)
                · rw [if_pos c14] at H
                  have c14b0 : decide (x22_2 < (l0_6.length : Int)) = true := decide_eq_true c14
                  clear c14
                  replace H := Option.bind_eq_some_iff.mp H
                  obtain ⟨⟨t989, t992⟩, A150, H⟩ := H
                  replace H : (if t992 = true then ((some (([x22_2] : List Int) : List Int)).bind fun y993 => (if y993.length + t989.length < 17592186044416 then (some ((y993 ++ t989), true)) else (none))) else (sashref05_Find.l0 k2 a1 (l0_6.length : Int) (wrap64 (x22_2 + 1)) a0_0 a0_1 a0_2 a0_3 a0_4 a0_5 l0_6)) = some (r1, r2) := H
                  have A15 := Aside0.mk A150
                  clear A150
                  by_cases c16 : t992 = true
                  · subst c16
                    have H1 : ((some (([x22_2] : List Int) : List Int)).bind fun y993 => (if y993.length + t989.length < 17592186044416 then (some ((y993 ++ t989), true)) else (none))) = some (r1, r2) := by rw [if_pos rfl] at H; exact H
                    clear H
                    have H := H1
                    clear H1
                    obtain ⟨y993, hy993⟩ : ∃ y_ : List Int, y_ = (([x22_2] : List Int)) := ⟨_, rfl⟩
                    replace H : (if y993.length + t989.length < 17592186044416 then (some ((y993 ++ t989), true)) else (none)) = some (r1, r2) := by first | (rw [hy993]; with_reducible exact H) | (have H2_ := (Option.bind_some _ _).symm.trans H; rw [hy993]; with_reducible exact H2_) | (have H2_ := (Option.bind_some _ _).symm.trans H; with_reducible exact H2_) | with_reducible exact H | (rw [hy993]; exact H) | exact H
                    have Ny993 := Aside0.mk hy993
                    clear hy993
                    by_cases c17 : y993.length + t989.length < 17592186044416
                    · rw [if_pos c17] at H
                      have LMc17 := Aside0.mk c17
                      clear c17
                      obtain ⟨y996, hy996⟩ : ∃ y_ : List Int, y_ = (y993 ++ t989) := ⟨_, rfl⟩
                      replace H : (some (y996, true)) = some (r1, r2) := by first | (rw [hy996]; with_reducible exact H) | (have H2_ := (Option.bind_some _ _).symm.trans H; rw [hy996]; with_reducible exact H2_) | (have H2_ := (Option.bind_some _ _).symm.trans H; with_reducible exact H2_) | with_reducible exact H | (rw [hy996]; exact H) | exact H
                      have Ny996 := Aside0.mk hy996
                      clear hy996
                      simp only [Option.some.injEq, Prod.mk.injEq] at H
                      obtain ⟨rfl, rfl⟩ := H
                      have hcz18_0 : wr.cell? ⟨gb984, 0, none⟩ = some (.int .u8 a0_0) := (blk_cell BK984.out 0).trans rfl
                      have hcz18_1 : wr.cell? ⟨gb984, 1, none⟩ = some (.int .i64 a0_1) := (blk_cell BK984.out 1).trans rfl
                      have hcz18_2 : wr.cell? ⟨gb984, 2, none⟩ = some (.int .i64 a0_2) := (blk_cell BK984.out 2).trans rfl
                      have hcz18_3 : wr.cell? ⟨gb984, 3, none⟩ = some (.int .i64 a0_3) := (blk_cell BK984.out 3).trans rfl
                      have hcz18_4 : wr.cell? ⟨gb984, 4, none⟩ = some (.int .i64 a0_4) := (blk_cell BK984.out 4).trans rfl
                      have hcz18_5 : wr.cell? ⟨gb984, 5, none⟩ = some (.int .i64 a0_5) := (blk_cell BK984.out 5).trans rfl
                      have hcz18_6 : wr.cell? ⟨gb984, 6, none⟩ = some (.slice A0_6 l0_6.length c0_6) := (blk_cell BK984.out 6).trans rfl
                      have hfz18_0 := blk_frozen BK984.out 0
                      have hfz18_1 := blk_frozen BK984.out 1
                      have hfz18_2 := blk_frozen BK984.out 2
                      have hfz18_3 := blk_frozen BK984.out 3
                      have hfz18_4 := blk_frozen BK984.out 4
                      have hfz18_5 := blk_frozen BK984.out 5
                      have hfz18_6 := blk_frozen BK984.out 6
                      have p988 : 0 ≤ (x22_2 : Int) := of_decide_eq_true (by first | (with_reducible assumption) | assumption)
                      have q988 : x22_2 < (l0_6.length : Int) := of_decide_eq_true (by first | (with_reducible assumption) | assumption)
                      obtain ⟨ad988, A988_6, c988_6, e988, hx988_0, hx988_1, hx988_2, hx988_3, hx988_4, hx988_5, hx988_6, hl988_6, hi988_6⟩ := at_T26 HR0_6.out x22_2 p988 q988
                      cases e988
                      replace hx988_0 := (HB.out.cell (World.block_lt_of_cell? w _ hx988_0)).trans hx988_0
                      replace hx988_1 := (HB.out.cell (World.block_lt_of_cell? w _ hx988_1)).trans hx988_1
                      replace hx988_2 := (HB.out.cell (World.block_lt_of_cell? w _ hx988_2)).trans hx988_2
                      replace hx988_3 := (HB.out.cell (World.block_lt_of_cell? w _ hx988_3)).trans hx988_3
                      replace hx988_4 := (HB.out.cell (World.block_lt_of_cell? w _ hx988_4)).trans hx988_4
                      replace hx988_5 := (HB.out.cell (World.block_lt_of_cell? w _ hx988_5)).trans hx988_5
                      replace hx988_6 := (HB.out.cell (World.block_lt_of_cell? w _ hx988_6)).trans hx988_6
                      have HR988_6 := Aside0.mk hi988_6
                      have HC988_6 := Aside0.mk hl988_6
                      clear hi988_6 hl988_6
                      replace p988 := eq_true p988
                      replace q988 := eq_true q988
                      go_wp2_with (first | ((with_reducible refine gate_callee (f := 90) rfl ?_); refine goesL_ (some 32) rfl rfl Try.func90 (by kernel_rfl) rfl #[.agg #[.int .u8 ((rd_T26 l0_6 x22_2).f0), .int .i64 ((rd_T26 l0_6 x22_2).f1.f0), .int .i64 ((rd_T26 l0_6 x22_2).f1.f1), .int .i64 ((rd_T26 l0_6 x22_2).f1.f2), .int .i64 ((rd_T26 l0_6 x22_2).f1.f3), .int .i64 ((rd_T26 l0_6 x22_2).f2), .slice A988_6 ((rd_T26 l0_6 x22_2).f3).length c988_6], .int .i64 a1] rfl (by (try simp only [List.map_toArray, List.map_cons, List.map_nil]); first | done | rfl | (simp only [List.length_drop, List.length_take]; rfl)) ?_; (with_reducible refine (ih k2 (by have := HJ2.out; have := HK2.out; omega) ((rd_T26 l0_6 x22_2).f0) ((rd_T26 l0_6 x22_2).f1.f0) ((rd_T26 l0_6 x22_2).f1.f1) ((rd_T26 l0_6 x22_2).f1.f2) ((rd_T26 l0_6 x22_2).f1.f3) ((rd_T26 l0_6 x22_2).f2) _ _ ((rd_T26 l0_6 x22_2).f3) a1 t989 true _ ?side1 ?side2 A15.out).mono ?_); (case side1 => repeat (first | exact (Kd.C_below HR988_6.out HB.out) | (with_reducible refine Kd.C_alloc ?_ _) | (with_reducible refine Kd.C_drewN ?_ _) | (with_reducible refine Kd.C_drew ?_))); (case side2 => exact HC988_6.out); rintro e w19 ⟨v990, rfl, ho0, hb⟩; refine ⟨_, rfl, ?_⟩; have n0_ := Aside0.mk (Kd.R_lower ho0 (below_size (by repeat (first | (with_reducible first | exact HB.out | apply below_alloc | apply pw_below_drewN | apply below_drew1 | refine below_set ?_ GE984.out) | exact HB.out)))); have n1_ := Aside0.mk (blk_below (g := gb984) (o := .cells #[.int .u8 a0_0, .int .i64 a0_1, .int .i64 a0_2, .int .i64 a0_3, .int .i64 a0_4, .int .i64 a0_5, .slice (some ad988) l0_6.length c0_6] 26 (0, 0)) (by (with_reducible repeat (first | refine blk_drewN ?_ _ | refine blk_drew ?_ | refine blk_alloc ?_ _)); exact BK984.out) hb); have n2_ := Aside0.mk (below_step (by repeat (first | (with_reducible first | exact HB.out | apply below_alloc | apply pw_below_drewN | apply below_drew1 | refine below_set ?_ GE984.out) | exact HB.out)) hb); clear BK984; clear HB; have HO991 := n0_; have BK984 := n1_; have HB := n2_; clear n0_ n1_ n2_; (try clear hb); (try clear hb2); (try clear hk); (try clear hi); (try clear ho0)) | ((with_reducible refine gate_dst (N := 37) rfl ?_); refine Kd.R_lit (Kd.int .i64) _ 3 ?hg (N := 37) ?hd (xs := ([x22_2] : List Int)) (inner := [.int .i64 x22_2]) (ok := fun _ => True) (okp := fun _ => True) ?hr ?hp (fun _ hk => hk) trivial (Below.refl _ _) (Nat.le_refl _) (by simp) ?_; (case hd => rfl); (case hg => rfl); (case hr => first | (go_simp; done) | (go_simp; rfl)); (case hp => exact (Reps.one (show Kd.M (Kd.int .i64) _ _ _ x22_2 [.int .i64 x22_2] from rfl) (Reps.none _ _))); intro v994 w20 ho21 hb hg_ hnew_; clear hg_ hnew_; (first | rw [← Ny993.out] at ho21 | (simp only [Int.reduceToNat] at ho21; rw [← Ny993.out] at ho21)); have n0_ := Aside0.mk (Kd.R_elder' (by (with_reducible repeat (first | apply Kd.R_alloc | apply Kd.R_drewN | apply Kd.R_drew)); exact HO991.out) (Kd.R_base ho21) hb); have n1_ := Aside0.mk (Kd.R_lower (Kd.R_new' ho21 (Kd.R_lt (by (with_reducible repeat (first | apply Kd.R_alloc | apply Kd.R_drewN | apply Kd.R_drew)); exact HO991.out))) (below_size (by repeat (first | (with_reducible first | exact HB.out | apply below_alloc | apply pw_below_drewN | apply below_drew1 | refine below_set ?_ GE984.out) | exact HB.out)))); have n2_ := Aside0.mk (blk_below (g := gb984) (o := .cells #[.int .u8 a0_0, .int .i64 a0_1, .int .i64 a0_2, .int .i64 a0_3, .int .i64 a0_4, .int .i64 a0_5, .slice (some ad988) l0_6.length c0_6] 26 (0, 0)) (by (with_reducible repeat (first | refine blk_drewN ?_ _ | refine blk_drew ?_ | refine blk_alloc ?_ _)); exact BK984.out) hb); have n3_ := Aside0.mk (below_step (by repeat (first | (with_reducible first | exact HB.out | apply below_alloc | apply pw_below_drewN | apply below_drew1 | refine below_set ?_ GE984.out) | exact HB.out)) hb); clear HO991; clear BK984; clear HB; have HO991 := n0_; have HO995 := n1_; have BK984 := n2_; have HB := n3_; clear n0_ n1_ n2_ n3_; clear hb ho21; obtain ⟨Ao23, co23, eo23⟩ := Kd.R_slice HO991.out; subst eo23) | ((with_reducible refine gate_builtin (b := .append) (xs := #[.tmp 37, .tmp 38]) rfl ?_); at_builtin; refine Kd.R_append_rows (Kd.int .i64) (w0 := w) w.heap.size rfl (.tmp 37) (.tmp 38) 41 3 (.int .i64 0) 8 rfl Try.underlying41 info3 rfl (by decide) (by omega) v994 y993 t989 _ _ _ (fun k_ => some k_ ≠ (.slice Ao23 t989.length co23 : Value).ownBlock) (fun _ => False) rfl rfl ?aO ?aR (fun _ _ h => h) (fun _ h => h.elim) ?aF ?aB ?aS ?aL ?_; (case aR => repeat (first | exact (Kd.R_reads' HO991.out).2.2 | (with_reducible refine Kd.C_alloc ?_ _) | (with_reducible refine Kd.C_drewN ?_ _) | (with_reducible refine Kd.C_drew ?_))); (case aB => exact (by repeat (first | (with_reducible first | exact HB.out | apply below_alloc | apply pw_below_drewN | apply below_drew1 | refine below_set ?_ GE984.out) | exact HB.out))); (case aF => exact (fun k_ hk => Kd.fresh' (Kd.R_lt (by (with_reducible repeat (first | apply Kd.R_alloc | apply Kd.R_drewN | apply Kd.R_drew)); exact HO991.out)) k_ hk)); (case aO => exact (by (with_reducible repeat (first | apply Kd.R_alloc | apply Kd.R_drewN | apply Kd.R_drew)); exact Kd.R_mono HO995.out (fun _ hk => hk.2))); (case aS => exact (below_size (by repeat (first | (with_reducible first | exact HB.out | apply below_alloc | apply pw_below_drewN | apply below_drew1 | refine below_set ?_ GE984.out) | exact HB.out)))); (case aL => have := LMc17.out; omega); intro v997 w22 ho hb hg hat; rw [← Ny996.out] at ho; have n0_ := Aside0.mk (blk_grown (g := gb984) (o := .cells #[.int .u8 a0_0, .int .i64 a0_1, .int .i64 a0_2, .int .i64 a0_3, .int .i64 a0_4, .int .i64 a0_5, .slice (some ad988) l0_6.length c0_6] 26 (0, 0)) (by (with_reducible repeat (first | refine blk_drewN ?_ _ | refine blk_drew ?_ | refine blk_alloc ?_ _)); exact BK984.out) hg (Kd.R_ne HO995.out BK984.out (by decide))); have n1_ := Aside0.mk (Kd.R_after (ok := (fun _ => True)) (by (with_reducible repeat (first | apply Kd.R_alloc | apply Kd.R_drewN | apply Kd.R_drew)); exact HO991.out) hg hat); have n2_ := Aside0.mk (hb); have n3_ := Aside0.mk (ho); clear BK984; clear HO991; clear HB; clear HO995; have BK984 := n0_; have HO991 := n1_; have HB := n2_; have HO998 := n3_; clear n0_ n1_ n2_ n3_; clear ho hb hg hat))
                      go_ret2
                      exact ⟨_, by first | rfl | (simp [errW_none, errW_some] <;> rfl) | (simp [*, errW_none, errW_some] <;> rfl), by (with_reducible repeat (first | apply Kd.R_alloc | apply Kd.R_drewN | apply Kd.R_drew)); exact Kd.R_mono HO998.out (fun _ hk => trivial), by repeat (first | (with_reducible first | exact HB.out | apply below_alloc | apply pw_below_drewN | apply below_drew1 | refine below_set ?_ GE984.out) | exact HB.out)⟩
                    · rw [if_neg c17] at H
                      exact absurd H (by simp)
                  · replace c16 := Bool.eq_false_iff.mpr c16
                    subst c16
                    have H1 : (sashref05_Find.l0 k2 a1 (l0_6.length : Int) (wrap64 (x22_2 + 1)) a0_0 a0_1 a0_2 a0_3 a0_4 a0_5 l0_6) = some (r1, r2) := by rw [if_neg (show ¬ (false = true) by decide)] at H; exact H
                    clear H
                    have H := H1
                    clear H1
                    have H' := Aside0.mk H
                    clear H
                    have hcz24_0 : wr.cell? ⟨gb984, 0, none⟩ = some (.int .u8 a0_0) := (blk_cell BK984.out 0).trans rfl
                    have hcz24_1 : wr.cell? ⟨gb984, 1, none⟩ = some (.int .i64 a0_1) := (blk_cell BK984.out 1).trans rfl
                    have hcz24_2 : wr.cell? ⟨gb984, 2, none⟩ = some (.int .i64 a0_2) := (blk_cell BK984.out 2).trans rfl
                    have hcz24_3 : wr.cell? ⟨gb984, 3, none⟩ = some (.int .i64 a0_3) := (blk_cell BK984.out 3).trans rfl
                    have hcz24_4 : wr.cell? ⟨gb984, 4, none⟩ = some (.int .i64 a0_4) := (blk_cell BK984.out 4).trans rfl
                    have hcz24_5 : wr.cell? ⟨gb984, 5, none⟩ = some (.int .i64 a0_5) := (blk_cell BK984.out 5).trans rfl
                    have hcz24_6 : wr.cell? ⟨gb984, 6, none⟩ = some (.slice A0_6 l0_6.length c0_6) := (blk_cell BK984.out 6).trans rfl
                    have hfz24_0 := blk_frozen BK984.out 0
                    have hfz24_1 := blk_frozen BK984.out 1
                    have hfz24_2 := blk_frozen BK984.out 2
                    have hfz24_3 := blk_frozen BK984.out 3
                    have hfz24_4 := blk_frozen BK984.out 4
                    have hfz24_5 := blk_frozen BK984.out 5
                    have hfz24_6 := blk_frozen BK984.out 6
                    have p988 : 0 ≤ (x22_2 : Int) := of_decide_eq_true (by first | (with_reducible assumption) | assumption)
                    have q988 : x22_2 < (l0_6.length : Int) := of_decide_eq_true (by first | (with_reducible assumption) | assumption)
                    obtain ⟨ad988, A988_6, c988_6, e988, hx988_0, hx988_1, hx988_2, hx988_3, hx988_4, hx988_5, hx988_6, hl988_6, hi988_6⟩ := at_T26 HR0_6.out x22_2 p988 q988
                    cases e988
                    replace hx988_0 := (HB.out.cell (World.block_lt_of_cell? w _ hx988_0)).trans hx988_0
                    replace hx988_1 := (HB.out.cell (World.block_lt_of_cell? w _ hx988_1)).trans hx988_1
                    replace hx988_2 := (HB.out.cell (World.block_lt_of_cell? w _ hx988_2)).trans hx988_2
                    replace hx988_3 := (HB.out.cell (World.block_lt_of_cell? w _ hx988_3)).trans hx988_3
                    replace hx988_4 := (HB.out.cell (World.block_lt_of_cell? w _ hx988_4)).trans hx988_4
                    replace hx988_5 := (HB.out.cell (World.block_lt_of_cell? w _ hx988_5)).trans hx988_5
                    replace hx988_6 := (HB.out.cell (World.block_lt_of_cell? w _ hx988_6)).trans hx988_6
                    have HR988_6 := Aside0.mk hi988_6
                    have HC988_6 := Aside0.mk hl988_6
                    clear hi988_6 hl988_6
                    replace p988 := eq_true p988
                    replace q988 := eq_true q988
                    go_wp2_with (first | ((with_reducible refine gate_callee (f := 90) rfl ?_); refine goesL_ (some 32) rfl rfl Try.func90 (by kernel_rfl) rfl #[.agg #[.int .u8 ((rd_T26 l0_6 x22_2).f0), .int .i64 ((rd_T26 l0_6 x22_2).f1.f0), .int .i64 ((rd_T26 l0_6 x22_2).f1.f1), .int .i64 ((rd_T26 l0_6 x22_2).f1.f2), .int .i64 ((rd_T26 l0_6 x22_2).f1.f3), .int .i64 ((rd_T26 l0_6 x22_2).f2), .slice A988_6 ((rd_T26 l0_6 x22_2).f3).length c988_6], .int .i64 a1] rfl (by (try simp only [List.map_toArray, List.map_cons, List.map_nil]); first | done | rfl | (simp only [List.length_drop, List.length_take]; rfl)) ?_; (with_reducible refine (ih k2 (by have := HJ2.out; have := HK2.out; omega) ((rd_T26 l0_6 x22_2).f0) ((rd_T26 l0_6 x22_2).f1.f0) ((rd_T26 l0_6 x22_2).f1.f1) ((rd_T26 l0_6 x22_2).f1.f2) ((rd_T26 l0_6 x22_2).f1.f3) ((rd_T26 l0_6 x22_2).f2) _ _ ((rd_T26 l0_6 x22_2).f3) a1 t989 false _ ?side1 ?side2 A15.out).mono ?_); (case side1 => repeat (first | exact (Kd.C_below HR988_6.out HB.out) | (with_reducible refine Kd.C_alloc ?_ _) | (with_reducible refine Kd.C_drewN ?_ _) | (with_reducible refine Kd.C_drew ?_))); (case side2 => exact HC988_6.out); rintro e w25 ⟨v990, rfl, ho0, hb⟩; refine ⟨_, rfl, ?_⟩; have n0_ := Aside0.mk (Kd.R_lower ho0 (below_size (by repeat (first | (with_reducible first | exact HB.out | apply below_alloc | apply pw_below_drewN | apply below_drew1 | refine below_set ?_ GE984.out) | exact HB.out)))); have n1_ := Aside0.mk (blk_below (g := gb984) (o := .cells #[.int .u8 a0_0, .int .i64 a0_1, .int .i64 a0_2, .int .i64 a0_3, .int .i64 a0_4, .int .i64 a0_5, .slice (some ad988) l0_6.length c0_6] 26 (0, 0)) (by (with_reducible repeat (first | refine blk_drewN ?_ _ | refine blk_drew ?_ | refine blk_alloc ?_ _)); exact BK984.out) hb); have n2_ := Aside0.mk (below_step (by repeat (first | (with_reducible first | exact HB.out | apply below_alloc | apply pw_below_drewN | apply below_drew1 | refine below_set ?_ GE984.out) | exact HB.out)) hb); clear BK984; clear HB; have HO991 := n0_; have BK984 := n1_; have HB := n2_; clear n0_ n1_ n2_; (try clear hb); (try clear hb2); (try clear hk); (try clear hi); (try clear ho0)))
                    go_roundg k2
                    case measure => have := HJ2.out; have := HK2.out; omega
                    case rel => exact ⟨(wrap64 (x22_2 + 1)), (by first | rfl | (simp; done) | (simp [*]; done)), H', ⟨by have := HJ2.out; have := HK2.out; omega⟩, ⟨by (with_reducible repeat (first | refine blk_drewN ?_ _ | refine blk_drew ?_ | refine blk_alloc ?_ _)); exact BK984.out⟩, ⟨by repeat (first | (with_reducible first | exact HB.out | apply below_alloc | apply pw_below_drewN | apply below_drew1 | refine below_set ?_ GE984.out) | exact HB.out)⟩⟩
                · rw [if_neg c14] at H
                  exact absurd H (by simp)
              · rw [if_neg c13] at H
                exact absurd H (by simp)
            · rw [if_neg c12] at H
              have c12b0 : decide (x22_2 < (l0_6.length : Int)) = false := decide_eq_false c12
              clear c12
              obtain ⟨y999, hy999⟩ : ∃ y_ : List Int, y_ = (([] : List Int)) := ⟨_, rfl⟩
              replace H : (some (y999, false)) = some (r1, r2) := by first | (rw [hy999]; with_reducible exact H) | (have H2_ := (Option.bind_some _ _).symm.trans H; rw [hy999]; with_reducible exact H2_) | (have H2_ := (Option.bind_some _ _).symm.trans H; with_reducible exact H2_) | with_reducible exact H | (rw [hy999]; exact H) | exact H
              have Ny999 := Aside0.mk hy999
              clear hy999
              simp only [Option.some.injEq, Prod.mk.injEq] at H
              obtain ⟨rfl, rfl⟩ := H
              go_wp2_with (first | ((with_reducible refine gate_dst (N := 41) rfl ?_); refine Kd.R_lit (Kd.int .i64) _ 3 ?hg (N := 41) ?hd (xs := ([] : List Int)) (inner := []) (ok := fun _ => True) (okp := fun _ => True) ?hr ?hp (fun _ hk => hk) trivial (Below.refl _ _) (Nat.le_refl _) (by simp) ?_; (case hd => rfl); (case hg => rfl); (case hr => first | (go_simp; done) | (go_simp; rfl)); (case hp => exact (Reps.none _ _)); intro v1000 w26 ho27 hb hg_ hnew_; clear hg_ hnew_; (first | rw [← Ny999.out] at ho27 | (simp only [Int.reduceToNat] at ho27; rw [← Ny999.out] at ho27)); have n0_ := Aside0.mk (Kd.R_lower ho27 (below_size (by repeat (first | (with_reducible first | exact HB.out | apply below_alloc | apply pw_below_drewN | apply below_drew1 | refine below_set ?_ GE984.out) | exact HB.out)))); have n1_ := Aside0.mk (blk_below (g := gb984) (o := .cells #[.int .u8 a0_0, .int .i64 a0_1, .int .i64 a0_2, .int .i64 a0_3, .int .i64 a0_4, .int .i64 a0_5, .slice A0_6 l0_6.length c0_6] 26 (0, 0)) (by (with_reducible repeat (first | refine blk_drewN ?_ _ | refine blk_drew ?_ | refine blk_alloc ?_ _)); exact BK984.out) hb); have n2_ := Aside0.mk (below_step (by repeat (first | (with_reducible first | exact HB.out | apply below_alloc | apply pw_below_drewN | apply below_drew1 | refine below_set ?_ GE984.out) | exact HB.out)) hb); clear BK984; clear HB; have HO1001 := n0_; have BK984 := n1_; have HB := n2_; clear n0_ n1_ n2_; clear hb ho27))
              go_ret2
              exact ⟨_, by first | rfl | (simp [errW_none, errW_some] <;> rfl) | (simp [*, errW_none, errW_some] <;> rfl), by (with_reducible repeat (first | apply Kd.R_alloc | apply Kd.R_drewN | apply Kd.R_drew)); exact HO1001.out, by repeat (first | (with_reducible first | exact HB.out | apply below_alloc | apply pw_below_drewN | apply below_drew1 | refine below_set ?_ GE984.out) | exact HB.out)⟩

end Go.Proofs.Ytfdmfgaiblfbhaa.P
/- A store into a block of one's own, as an event: the world behind it is a letter. -/
namespace Go.Proofs.Ytfdmfgaiblfbhaa.P
open Go.RowKit Go.Proofs.YtfdmfgaiblfbhaaW.PrintWords Go.Proofs.YtfdmfgaiblfbhaaW.PrintLast Go.Proofs.YtfdmfgaiblfbhaaW.PrintMore
section
variable {P : Program} {ops : Array Oper} {rest : List Oper} {o : Oper} {a : Act} {Q : Exit → Act → World → Prop}
theorem grown_below {w0 W w1 : World} {g base : Nat} (HB : Below base w0 W) (hg : W.grownBy w1 (some g)) (hbg : base ≤ g) (hs : base ≤ W.heap.size) : Below base w0 w1 := HB.trans ⟨hg.os, hg.tape, hg.output, hg.size, fun k hk => hg.block k (by omega) (fun he => by injection he with he; omega)⟩
/-- What a store into block g leaves. -/
theorem box_cells {W : World} {g j : Nat} {cs cs' : Array Value} {t0 : TypeId} {seg : List Value} (hb : W.heap[g]? = some (.cells cs t0 (0, 0))) (hj : j + seg.length ≤ cs.size) (he : cs.toList.take j ++ seg ++ cs.toList.drop (j + seg.length) = cs'.toList) :
    (W.setCells g j seg).heap[g]? = some (.cells cs' t0 (0, 0)) ∧ W.grownBy (W.setCells g j seg) (some g) := by
  obtain ⟨cur', h3, h4, h5⟩ := setCells_row seg j W cs hb hj
  obtain ⟨s1, s2, s3, s4⟩ := setCells_same g seg j W
  have hc : cur' = cs' := Array.toList_inj.1 (h5.trans he)
  subst hc
  exact ⟨h3, ⟨s1, s2, s3, by rw [s4]; exact Nat.le_refl _, fun k _ hk => setCells_far seg _ k (fun e => hk (by rw [e]))⟩⟩
theorem box_store {W w0 : World} (hN : o.dst = none) (hgd : o.guard = none) (t : TypeId) (p x : Operand) (ho : o.op = .store t p x) {g j base : Nat} {cs : Array Value} (cs' : Array Value) {t0 : TypeId} {u : Value} {seg : List Value}
    (haddr : a.eval p = .pointer (some ⟨g, j, none⟩)) (hx : a.eval x = u) (hu : u.cells.toList = seg) (ht : (P.info? t).map (·.size) = some seg.length) (h1 : ∀ q ∈ seg, q.oneCell' = true)
    (hb : W.heap[g]? = some (.cells cs t0 (0, 0))) (hj : j + seg.length ≤ cs.size) (he : cs.toList.take j ++ seg ++ cs.toList.drop (j + seg.length) = cs'.toList) (HB : Below base w0 W) (hbs : base ≤ W.heap.size) (hbg : base ≤ g)
    (h : ∀ w1, w1.heap[g]? = some (.cells cs' t0 (0, 0)) → Below base w0 w1 → W.grownBy w1 (some g) → wpList P ops Q rest a w1) : wpList P ops Q (o :: rest) a W := by
  obtain ⟨h2, h3⟩ := box_cells hb hj he
  refine wpList_plain hgd fun K hK => ?_
  have hrun := run_store_run (P := P) t u seg hb hu ht hj h1
  unfold Oper.wp execOp
  simp only [ho, haddr, hx, Sem.run_bind, Sem.run_pure, Result.andThen_ok, hrun]
  show K (a.put o.dst undef) _
  rw [hN]
  exact hK a _ (h _ h2 (grown_below HB h3 hbg hbs) h3)
theorem store_exec {W : World} (t : TypeId) (p x : Operand) (ho : o.op = .store t p x) {g j : Nat} {cs : Array Value} {t0 : TypeId} {u : Value} {seg : List Value}
    (haddr : a.eval p = .pointer (some ⟨g, j, none⟩)) (hx : a.eval x = u) (hu : u.cells.toList = seg) (ht : (P.info? t).map (·.size) = some seg.length) (h1 : ∀ q ∈ seg, q.oneCell' = true)
    (hb : W.heap[g]? = some (.cells cs t0 (0, 0))) (hj : j + seg.length ≤ cs.size) : (execOp a.eval o).run P W = .ok .skip (W.setCells g j seg) := by
  have hrun := run_store_run (P := P) t u seg hb hu ht hj h1
  unfold execOp
  simp only [ho, haddr, hx, Sem.run_bind, Sem.run_pure, Result.andThen_ok, hrun]
end
/-- A row of the call's own, told of two blocks that stood. -/
theorem N_fresh2 {α : Type} {d : Kd α} {e base b c : Nat} {P : Nat → Prop} {W w1 : World} {v : Value} {xs : List α} (h : Kd.N d e w1 W.heap.size (fun k => ((P k ∧ k ≠ b) ∧ k ≠ c) ∨ W.heap.size ≤ k) v xs) (hb : b < W.heap.size) (hc : c < W.heap.size) (hs : base ≤ W.heap.size) :
    Kd.N d e w1 base (fun k => ((P k ∨ base ≤ k) ∧ k ≠ b) ∧ k ≠ c) v xs :=
  Kd.N_lower (Kd.N_mono h (fun k hk => hk.elim (fun q => ⟨⟨.inl q.1.1, q.1.2⟩, q.2⟩) (fun q => ⟨⟨.inr (by omega), by omega⟩, by omega⟩))) hs
end Go.Proofs.Ytfdmfgaiblfbhaa.P
/- A tree's cells and their number: plain data. -/
namespace Go.Proofs.Ytfdmfgaiblfbhaa.P
open Go.RowKit Go.Proofs.YtfdmfgaiblfbhaaW.PrintWords Go.Proofs.YtfdmfgaiblfbhaaW.PrintLast Go.Proofs.YtfdmfgaiblfbhaaW.PrintMore

mutual
def allC : S26 → List S26
  | ⟨a, b, d, l⟩ => ⟨a, b, d, l⟩ :: allL l
def allL : List S26 → List S26
  | [] => []
  | c :: cs => allC c ++ allL cs
end
theorem allC_eq (c : S26) : allC c = c :: allL c.f3 := by cases c; simp [allC]
theorem allL_nil : allL [] = [] := by simp [allL]
theorem allL_cons (c : S26) (cs : List S26) : allL (c :: cs) = allC c ++ allL cs := by simp [allL]
theorem allL_app (a b : List S26) : allL (a ++ b) = allL a ++ allL b := by
  induction a with
  | nil => simp [allL_nil]
  | cons x xs ih => rw [List.cons_append, allL_cons, allL_cons, ih, List.append_assoc]
def sz (c : S26) : Nat := (allC c).length
def szL (l : List S26) : Nat := (allL l).length
theorem sz_eq (c : S26) : sz c = 1 + szL c.f3 := by unfold sz szL; rw [allC_eq, List.length_cons]; omega
theorem szL_nil : szL [] = 0 := by unfold szL; rw [allL_nil]; rfl
theorem szL_cons (c : S26) (cs : List S26) : szL (c :: cs) = sz c + szL cs := by unfold szL sz; rw [allL_cons, List.length_append]
theorem szL_app (a b : List S26) : szL (a ++ b) = szL a + szL b := by unfold szL; rw [allL_app, List.length_append]
theorem szL_len (l : List S26) : l.length ≤ szL l := by
  induction l with
  | nil => simp
  | cons x xs ih => rw [szL_cons, List.length_cons, sz_eq]; omega
theorem eta26 (c : S26) : (⟨c.f0, ⟨c.f1.f0, c.f1.f1, c.f1.f2, c.f1.f3⟩, c.f2, c.f3⟩ : S26) = c := by cases c; rfl
theorem szL_sum (l : List S26) : szL l = (l.map sz).sum := by
  induction l with
  | nil => rw [szL_nil]; rfl
  | cons x xs ih => rw [szL_cons, List.map_cons, List.sum_cons, ih]
end Go.Proofs.Ytfdmfgaiblfbhaa.P
/- The contract of slices.Clone at api.Cell: the same cells, in a row of the call's own; what they lead to is shared. -/
namespace Go.Proofs.Ytfdmfgaiblfbhaa.P
open Go.RowKit Go.Proofs.YtfdmfgaiblfbhaaW.PrintWords Go.Proofs.YtfdmfgaiblfbhaaW.PrintLast Go.Proofs.YtfdmfgaiblfbhaaW.PrintMore

def api_Cell_137.f (l0 : List (S26)) : Option (List S26) := if l0.length ≤ 1000000 then some l0 else none
set_option maxHeartbeats 2000000 in
set_option maxRecDepth 100000 in
theorem api_Cell_137.calls (P0_ : Nat → Prop) (A0 : Option Addr) (c0 : Nat) (l0 : List (S26)) (r : List S26) (w : World) (hs0 : Kd.V k26 26 w w.heap.size (fun k_ => P0_ k_) (.slice A0 l0.length c0) l0) (h : api_Cell_137.f l0 = some r) :
    Calls Try.prog 137 #[.slice A0 l0.length c0] w fun e w' => ∃ v0_ : Value, e = .returned (v0_) ∧ Kd.N k26 26 w' w.heap.size (fun k_ => (P0_ k_ ∨ w.heap.size ≤ k_)) v0_ r ∧ Below w.heap.size w w' := by
  unfold api_Cell_137.f at h
  split at h
  · rename_i hl
    injection h with h
    subst h
    have HR := Aside0.mk (Kd.V_F hs0)
    have HL := Aside0.mk hl
    clear hl
    cases A0 with
    | none =>
      have heq : ∀ W : World, (binOp .eql 24 (.slice none l0.length c0) (.slice none 0 0)).run Try.prog W = .ok (.bool true) W := fun W => Lib.run_eql_slice_nil W 24 26 none l0.length c0 0 0 Try.underlying24
      have e0 : l0 = [] := by
        cases l0 with
        | nil => rfl
        | cons x xs =>
          obtain ⟨ad, h1, _⟩ := (Kd.F_now HR.out).2.2 (by simp)
          cases h1
      have E0 := Aside0.mk e0
      clear hs0 e0
      go_enter Try.func137, Try.ntmps137
      go_wp2
      go_ret
      exact ⟨_, rfl, by rw [E0.out]; exact Kd.N_nil _ _ _ _ _, Below.refl _ _⟩
    | some ad =>
      have heq : ∀ W : World, (binOp .eql 24 (.slice (some ad) l0.length c0) (.slice none 0 0)).run Try.prog W = .ok (.bool false) W := fun W => Lib.run_eql_slice_nil W 24 26 (some ad) l0.length c0 0 0 Try.underlying24
      clear hs0
      go_enter Try.func137, Try.ntmps137
      go_wp2_with (first | ((with_reducible refine gate_dst (N := 5) rfl ?_); refine Kd.N_lit k26 w.heap.size 26 ?hg (N' := 5) ?hd (xs := ([] : List S26)) (inner := []) (ok := fun k_ => (P0_ k_ ∨ w.heap.size ≤ k_)) (okp := fun _ => False) ?hr ?hp (fun _ hk => hk.elim) (.inr (Nat.le_refl _)) (Below.refl _ _) (Nat.le_refl _) (by simp) ?_; (case hd => rfl); (case hg => rfl); (case hr => first | (go_simp; done) | (go_simp; rfl)); (case hp => exact Reps.none _ _); intro v5 w5 ho hb hg_ hnew_; clear hg_; have HO := Aside0.mk ho; have HB := Aside0.mk hb; have HF := Aside0.mk (Kd.F_mono (Kd.F_elder' (v := v5) HR.out (fun k hk => by obtain ⟨b, h1, h2⟩ := hnew_; rw [h1] at hk; cases hk; exact h2) hb) (fun k hk => hk)); clear ho hb hnew_; obtain ⟨Ao, co, eo⟩ := Kd.N_slice HO.out; subst eo) | ((with_reducible refine gate_builtin (b := .append) (xs := #[.tmp 5, .tmp 6]) rfl ?_); at_builtin; refine Kd.N_append_rows k26 (w0 := w) w.heap.size rfl (.tmp 5) (.tmp 6) 24 26 (.agg #[(.int .u8 0), (.int .i64 0), (.int .i64 0), (.int .i64 0), (.int .i64 0), (.int .i64 0), (.slice none 0 0)]) 72 rfl Try.underlying24 info26 rfl (by decide) (by omega) (.slice Ao ([] : List S26).length co) [] l0 _ _ _ (fun k_ => (P0_ k_ ∨ w.heap.size ≤ k_)) (fun k_ => P0_ k_ ∧ some k_ ≠ (Value.slice Ao ([] : List S26).length co).ownBlock) rfl rfl ?aO ?aR (fun _ h => ⟨.inl h.1, h.2⟩) (fun k hk => .inr (Nat.le_trans (below_size HB.out) hk)) ?aB ?aS ?aL ?_; (case aO => exact HO.out); (case aR => exact HF.out); (case aB => exact HB.out); (case aS => exact below_size HB.out); (case aL => (have := HL.out; simp only [List.length_nil]; omega)); intro v7 w7 h1 h2 h3_ h4_; clear h3_ h4_; have HO7 := Aside0.mk h1; have HB7 := Aside0.mk h2; clear h1 h2 HO HB HF))
      go_wp2
      go_ret
      exact ⟨_, rfl, HO7.out, HB7.out⟩
  · exact absurd h (by simp)
end Go.Proofs.Ytfdmfgaiblfbhaa.P
/- The contract of cell.clone: the same tree, in rows of the call's own. Condition: at most 1000000 cells. -/
namespace Go.Proofs.Ytfdmfgaiblfbhaa.P
open Go.RowKit Go.Proofs.YtfdmfgaiblfbhaaW.PrintWords Go.Proofs.YtfdmfgaiblfbhaaW.PrintLast Go.Proofs.YtfdmfgaiblfbhaaW.PrintMore
set_option linter.unusedVariables false
set_option linter.unusedSimpArgs false
def cell_clone.T5 : Bool × List (List Nat × List Nat) := (true, [([], []), ([0], [0]), ([], []), ([], []), ([3], [3]), ([1, 2, 0, 1, 2, 3, 4], [1, 2]), ([5, 4, 4, 0, 1, 2, 3, 4], [4, 5])])
def cell_clone.B5 : List Nat := [0, 1, 0, 0, 8, 31, 63]
theorem cell_clone.tab5 : rtab .any (opsOf Try.f151 5) = cell_clone.T5 := by kernel_rfl
theorem cell_clone.bits5 : waitsOk cell_clone.T5.2 cell_clone.B5 = true := by kernel_rfl
set_option maxHeartbeats 4000000 in
set_option maxRecDepth 100000 in
theorem clone151 : ∀ (N : Nat) (c : S26), sz c ≤ N → N ≤ 1000000 → ∀ (P : Nat → Prop) (A : Option Addr) (cc : Nat) (w : World), Kd.V k26 26 w w.heap.size P (.slice A c.f3.length cc) c.f3 →
    Calls Try.prog 151 #[.agg #[.int .u8 c.f0, .int .i64 c.f1.f0, .int .i64 c.f1.f1, .int .i64 c.f1.f2, .int .i64 c.f1.f3, .int .i64 c.f2, .slice A c.f3.length cc]] w
      fun e w' => ∃ v : Value, e = .returned (.agg #[.int .u8 c.f0, .int .i64 c.f1.f0, .int .i64 c.f1.f1, .int .i64 c.f1.f2, .int .i64 c.f1.f3, .int .i64 c.f2, v]) ∧ Kd.N k26 26 w' w.heap.size (fun k => P k ∨ w.heap.size ≤ k) v c.f3 ∧ Below w.heap.size w w' := by
  intro N
  induction N with
  | zero => intro c h; rw [sz_eq] at h; omega
  | succ N ih =>
    intro c hc hN P A cc w hs
    have hsz := sz_eq c
    have hlen := szL_len c.f3
    have IH := Aside0.mk fun (k : S26) (hk : k ∈ c.f3) => ih k (by
      have : sz k ≤ szL c.f3 := by
        obtain ⟨p, q, e⟩ := List.append_of_mem hk
        rw [e, szL_app, szL_cons]; omega
      omega) (by omega)
    have H137 := Aside0.mk fun (W : World) (P' : Nat → Prop) (hV : Kd.V k26 26 W w.heap.size P' (.slice A c.f3.length cc) c.f3) => api_Cell_137.calls P' A cc c.f3 c.f3 W hV (if_pos (by omega))
    have HO := Aside0.mk hs
    have HL := Aside0.mk (show c.f3.length ≤ 1000000 by omega)
    have HB := Aside0.mk (Below.refl w.heap.size w)
    clear ih hs hc hN hsz hlen
    obtain ⟨ck, ⟨cx, cy, cw, ch⟩, cid, l⟩ := c
    simp only [] at HO HL IH H137 ⊢
    go_enter Try.func151, Try.ntmps151
    go_upto_region 1 with (first
      | ((with_reducible refine gate_dst (N := 1) rfl ?_); refine box_event ?hg (N := 1) ?hd (cs := #[.int .u8 ck, .int .i64 cx, .int .i64 cy, .int .i64 cw, .int .i64 ch, .int .i64 cid, .slice A l.length cc]) (t := 26) ?hr ?_; (case hd => rfl); (case hg => rfl); (case hr => first | (go_simp; done) | (go_simp; rfl)); intro b3 hg wb3 hbox hb; have Gb3 := Aside0.mk (show w.heap.size ≤ b3 by rw [hg]; exact HB.out.size); have qHB_ := Aside0.mk (below_step HB.out hb); have qHO_ := Aside0.mk (Kd.V_below (Kd.V_elderB HO.out b3 (by rw [hg]; exact Nat.le_refl _)) hb); clear HB HO; have HB := qHB_; have HO := qHO_; clear qHB_ qHO_; have Kb3 := Aside0.mk hbox; clear hb hbox hg)
      | ((with_reducible refine gate_dst (N := 2) rfl ?_); refine box_event ?hg (N := 2) ?hd (cs := #[.int .u8 0, .int .i64 0, .int .i64 0, .int .i64 0, .int .i64 0, .int .i64 0, .slice none 0 0]) (t := 26) ?hr ?_; (case hd => rfl); (case hg => rfl); (case hr => first | (go_simp; done) | (go_simp; rfl)); intro b6 hg wb6 hbox hb; have Gb6 := Aside0.mk (show w.heap.size ≤ b6 by rw [hg]; exact HB.out.size); have NE_b3_b6 := Aside0.mk (show b3 ≠ b6 by rw [hg]; exact Nat.ne_of_lt (blk_lt Kb3.out)); have qHB_ := Aside0.mk (below_step HB.out hb); have qHO_ := Aside0.mk (Kd.V_below (Kd.V_elderB HO.out b6 (by rw [hg]; exact Nat.le_refl _)) hb); have qKb3_ := Aside0.mk (blk_below Kb3.out hb); clear HB HO Kb3; have HB := qHB_; have HO := qHO_; have Kb3 := qKb3_; clear qHB_ qHO_ qKb3_; have Kb6 := Aside0.mk hbox; clear hb hbox hg)
      | fail)
    have c36 : _ = some (Value.slice A l.length cc) := (blk_cell Kb3.out 6).trans rfl
    go_upto_region 2 with (first
      | ((with_reducible refine gate_callee (f := 137) rfl ?_); refine goesL_ (some 7) rfl rfl Try.func137 (by kernel_rfl) rfl #[.slice A l.length cc] rfl (by (try simp only [List.map_toArray, List.map_cons, List.map_nil]); first | done | rfl) ?_; refine (H137.out _ _ HO.out).mono ?_; rintro e wc1 ⟨v1, rfl, ho, hb⟩; refine ⟨_, rfl, ?_⟩; have HN := Aside0.mk (N_fresh2 ho (blk_lt Kb3.out) (blk_lt Kb6.out) HB.out.size); clear ho HO; obtain ⟨A1, c1, e1⟩ := Kd.N_slice HN.out; subst e1; have qHB_ := Aside0.mk (below_step HB.out hb); have qKb3_ := Aside0.mk (blk_below Kb3.out hb); have qKb6_ := Aside0.mk (blk_below Kb6.out hb); clear HB Kb3 Kb6; have HB := qHB_; have Kb3 := qKb3_; have Kb6 := qKb6_; clear qHB_ qKb3_ qKb6_; clear hb)
      | ((with_reducible refine gate_ (.store 24 (.tmp 8) (.tmp 7)) rfl ?_); go_loud (refine box_store (w0 := w) rfl rfl 24 (.tmp 8) (.tmp 7) rfl (g := b3) (j := 6) (base := w.heap.size) #[.int .u8 ck, .int .i64 cx, .int .i64 cy, .int .i64 cw, .int .i64 ch, .int .i64 cid, .slice A1 l.length c1] (u := .slice A1 l.length c1) (seg := [.slice A1 l.length c1]) ?sA ?sX rfl ?sT ?s1 Kb3.out ?sJ rfl HB.out HB.out.size Gb3.out ?_; (case sA => rfl); (case sX => rfl); (case sT => rfl); (case s1 => (simp [Value.oneCell'])); (case sJ => (first | decide | simp)); intro ws1 hbk hbb hgg; have qKb6_ := Aside0.mk (blk_grown Kb6.out hgg (fun e_ => absurd (Option.some.inj e_) (by first | exact NE_b6_b3.out | exact (fun e2_ => NE_b3_b6.out e2_.symm)))); have qHN_ := Aside0.mk (Kd.N_grown HN.out hgg (fun k_ hk e_ => absurd (Option.some.inj e_) (by first | exact hk.2 | exact hk.1.2 | exact hk.1.1.2 | exact hk.1.1.1.2 | exact hk.2.2 | exact hk.2.1 | exact hk.2.2.1 | exact hk.2.2.2))); clear Kb6 HN; have Kb6 := qKb6_; have HN := qHN_; clear qKb6_ qHN_; clear Kb3 HB; have Kb3 := Aside0.mk hbk; have HB := Aside0.mk hbb; clear hbk hbb hgg))
      | fail)
    clear c36
    have c36 : _ = some (Value.slice A1 l.length c1) := (blk_cell Kb3.out 6).trans rfl
    go_wp2
    clear c36
    go_loopg [12] l.length (fun gg v22 wr => ∃ (pre rest : List S26), v22 = .int .i64 (pre.length : Int) ∧ Aside0 (pre ++ rest = l) ∧ rest.length ≤ gg ∧ Aside0 (Kd.N k26 26 wr w.heap.size (fun q => ((P q ∨ w.heap.size ≤ q) ∧ q ≠ b3) ∧ q ≠ b6) (.slice A1 l.length c1) l) ∧ Aside0 (wr.heap[b3]? = some (.cells #[.int .u8 ck, .int .i64 cx, .int .i64 cy, .int .i64 cw, .int .i64 ch, .int .i64 cid, .slice A1 l.length c1] 26 (0, 0))) ∧ Aside0 (wr.heap[b6]? = some (.cells #[.int .u8 0, .int .i64 0, .int .i64 0, .int .i64 0, .int .i64 0, .int .i64 0, .slice none 0 0] 26 (0, 0))) ∧ Aside0 (Below w.heap.size w wr))
    case atStart => exact ⟨[], l, rfl, ⟨rfl⟩, Nat.le_refl _, HN, Kb3, Kb6, HB⟩
    case round =>
      clear HN Kb3 Kb6 HB
      obtain ⟨pre, rest, rfl, HE, hgg, HN, Kb3, Kb6, HB⟩ := hrel
      cases rest with
      | nil =>
        have hpl : pre = l := by have := HE.out; rwa [List.append_nil] at this
        have hlt : ¬ ((pre.length : Int) < (l.length : Int)) := by rw [hpl]; omega
        clear hpl hgg
        have c30 := (blk_cell Kb3.out 0).trans rfl
        have c31 := (blk_cell Kb3.out 1).trans rfl
        have c32 := (blk_cell Kb3.out 2).trans rfl
        have c33 := (blk_cell Kb3.out 3).trans rfl
        have c34 := (blk_cell Kb3.out 4).trans rfl
        have c35 := (blk_cell Kb3.out 5).trans rfl
        have c36 := (blk_cell Kb3.out 6).trans rfl
        go_wp2_with (first
      | ((with_reducible refine gate_ (.store 26 (.tmp 2) (.tmp 24)) rfl ?_); go_loud (refine box_store (w0 := w) rfl rfl 26 (.tmp 2) (.tmp 24) rfl (g := b6) (j := 0) (base := w.heap.size) #[.int .u8 ck, .int .i64 cx, .int .i64 cy, .int .i64 cw, .int .i64 ch, .int .i64 cid, .slice A1 l.length c1] (u := .agg #[.int .u8 ck, .int .i64 cx, .int .i64 cy, .int .i64 cw, .int .i64 ch, .int .i64 cid, .slice A1 l.length c1]) (seg := [.int .u8 ck, .int .i64 cx, .int .i64 cy, .int .i64 cw, .int .i64 ch, .int .i64 cid, .slice A1 l.length c1]) ?sA ?sX rfl ?sT ?s1 Kb6.out ?sJ rfl HB.out HB.out.size Gb6.out ?_; (case sA => rfl); (case sX => rfl); (case sT => rfl); (case s1 => (simp [Value.oneCell'])); (case sJ => (first | decide | simp)); intro ws21 hbk hbb hgg; have qHN_ := Aside0.mk (Kd.N_grown HN.out hgg (fun k_ hk e_ => absurd (Option.some.inj e_) (by first | exact hk.2 | exact hk.1.2 | exact hk.1.1.2 | exact hk.1.1.1.2 | exact hk.2.2 | exact hk.2.1 | exact hk.2.2.1 | exact hk.2.2.2))); have qKb3_ := Aside0.mk (blk_grown Kb3.out hgg (fun e_ => absurd (Option.some.inj e_) (by first | exact NE_b3_b6.out | exact (fun e2_ => NE_b6_b3.out e2_.symm)))); clear HN Kb3; have HN := qHN_; have Kb3 := qKb3_; clear qHN_ qKb3_; clear Kb6 HB; have Kb6 := Aside0.mk hbk; have HB := Aside0.mk hbb; clear hbk hbb hgg))
      | fail)
        refine bodyPost_ret (results_cell_row rfl _ _ b6 26 #[.int .u8 ck, .int .i64 cx, .int .i64 cy, .int .i64 cw, .int .i64 ch, .int .i64 cid, .slice A1 l.length c1] (0, 0) _ rfl Kb6.out Try.underlying26 rfl (by kernel_rfl)) rfl ?_
        exact ⟨_, rfl, Kd.N_mono HN.out (fun q hq => hq.1.1), HB.out⟩
      | cons k rest =>
        have hk : k ∈ l := by rw [← HE.out]; simp
        have hlt : (pre.length : Int) < (l.length : Int) := by rw [← HE.out, List.length_append, List.length_cons]; omega
        have hw : wrap64 ((pre.length : Int) + 1) = ((pre ++ [k]).length : Int) := by rw [List.length_append, List.length_singleton]; unfold wrap64; have := HL.out; omega
        obtain ⟨g, cap, he, hgb, hglt, _⟩ := Kd.N_form HN.out (by omega)
        injection he with ea en ec
        subst ea
        subst ec
        clear en
        have HGB := Aside0.mk hgb
        obtain ⟨ce, hcl, hM, hcc, hfr⟩ := Kd.N_elem HN.out z26 (pre.length : Int) (Int.natCast_nonneg _) hlt
        have hrd : l.getD (pre.length : Int).toNat z26 = k := by rw [← HE.out, Int.toNat_natCast]; simp [List.getD_eq_getElem?_getD]
        rw [hrd] at hM
        obtain ⟨ua, uc, rfl, ul, ge⟩ := k26_openF hM
        have HV := Aside0.mk (show Kd.V k26 26 wr w.heap.size _ (.slice ua k.f3.length uc) k.f3 from Kd.V_mk ul ge)
        have HRD := Aside0.mk hrd
        have x0 : wr.cell? ⟨g, pre.length * 7, none⟩ = some (.int .u8 k.f0) := hcc 0 _ rfl
        have x1 : wr.cell? ⟨g, pre.length * 7 + 1, none⟩ = some (.int .i64 k.f1.f0) := hcc 1 _ rfl
        have x2 : wr.cell? ⟨g, pre.length * 7 + 2, none⟩ = some (.int .i64 k.f1.f1) := hcc 2 _ rfl
        have x3 : wr.cell? ⟨g, pre.length * 7 + 3, none⟩ = some (.int .i64 k.f1.f2) := hcc 3 _ rfl
        have x4 : wr.cell? ⟨g, pre.length * 7 + 4, none⟩ = some (.int .i64 k.f1.f3) := hcc 4 _ rfl
        have x5 : wr.cell? ⟨g, pre.length * 7 + 5, none⟩ = some (.int .i64 k.f2) := hcc 5 _ rfl
        have x6 : wr.cell? ⟨g, pre.length * 7 + 6, none⟩ = some (.slice ua k.f3.length uc) := hcc 6 _ rfl
        have HW1 := Aside0.mk hw
        have HK := Aside0.mk hk
        have HGG := Aside0.mk hgg
        clear hcl hM hcc hfr hrd ul ge hgb hglt hw hk hgg
        go_upto_region 5 with (first
      | ((with_reducible refine gate_dst (N := 4) rfl ?_); refine box_event ?hg (N := 4) ?hd (cs := #[.int .u8 0, .int .i64 0, .int .i64 0, .int .i64 0, .int .i64 0, .int .i64 0, .slice none 0 0]) (t := 26) ?hr ?_; (case hd => rfl); (case hg => rfl); (case hr => first | (go_simp; done) | (go_simp; rfl)); intro b8 hg wb8 hbox hb; have Gb8 := Aside0.mk (show w.heap.size ≤ b8 by rw [hg]; exact HB.out.size); have NE_b3_b8 := Aside0.mk (show b3 ≠ b8 by rw [hg]; exact Nat.ne_of_lt (blk_lt Kb3.out)); have NE_b6_b8 := Aside0.mk (show b6 ≠ b8 by rw [hg]; exact Nat.ne_of_lt (blk_lt Kb6.out)); have qHB_ := Aside0.mk (below_step HB.out hb); have qHN_ := Aside0.mk (Kd.N_below (Kd.N_elderB HN.out b8 (by rw [hg]; exact Nat.le_refl _)) hb); have qHV_ := Aside0.mk (Kd.V_below (Kd.V_elderB HV.out b8 (by rw [hg]; exact Nat.le_refl _)) hb); have qKb3_ := Aside0.mk (blk_below Kb3.out hb); have qKb6_ := Aside0.mk (blk_below Kb6.out hb); clear HB HN HV Kb3 Kb6; have HB := qHB_; have HN := qHN_; have HV := qHV_; have Kb3 := qKb3_; have Kb6 := qKb6_; clear qHB_ qHN_ qHV_ qKb3_ qKb6_; have Kb8 := Aside0.mk hbox; clear hb hbox hg)
      | ((with_reducible refine gate_ (.store 26 (.tmp 4) (.tmp 16)) rfl ?_); go_loud (refine box_store (w0 := w) rfl rfl 26 (.tmp 4) (.tmp 16) rfl (g := b8) (j := 0) (base := w.heap.size) #[.int .u8 k.f0, .int .i64 k.f1.f0, .int .i64 k.f1.f1, .int .i64 k.f1.f2, .int .i64 k.f1.f3, .int .i64 k.f2, .slice ua k.f3.length uc] (u := .agg #[.int .u8 k.f0, .int .i64 k.f1.f0, .int .i64 k.f1.f1, .int .i64 k.f1.f2, .int .i64 k.f1.f3, .int .i64 k.f2, .slice ua k.f3.length uc]) (seg := [.int .u8 k.f0, .int .i64 k.f1.f0, .int .i64 k.f1.f1, .int .i64 k.f1.f2, .int .i64 k.f1.f3, .int .i64 k.f2, .slice ua k.f3.length uc]) ?sA ?sX rfl ?sT ?s1 Kb8.out ?sJ rfl HB.out HB.out.size Gb8.out ?_; (case sA => rfl); (case sX => rfl); (case sT => rfl); (case s1 => (simp [Value.oneCell'])); (case sJ => (first | decide | simp)); intro ws31 hbk hbb hgg; have qHN_ := Aside0.mk (Kd.N_grown HN.out hgg (fun k_ hk e_ => absurd (Option.some.inj e_) (by first | exact hk.2 | exact hk.1.2 | exact hk.1.1.2 | exact hk.1.1.1.2 | exact hk.2.2 | exact hk.2.1 | exact hk.2.2.1 | exact hk.2.2.2))); have qHV_ := Aside0.mk (Kd.V_grown HV.out hgg (fun k_ hk e_ => absurd (Option.some.inj e_) (by first | exact hk.2 | exact hk.1.2 | exact hk.1.1.2 | exact hk.1.1.1.2 | exact hk.2.2 | exact hk.2.1 | exact hk.2.2.1 | exact hk.2.2.2))); have qKb3_ := Aside0.mk (blk_grown Kb3.out hgg (fun e_ => absurd (Option.some.inj e_) (by first | exact NE_b3_b8.out | exact (fun e2_ => NE_b8_b3.out e2_.symm)))); have qKb6_ := Aside0.mk (blk_grown Kb6.out hgg (fun e_ => absurd (Option.some.inj e_) (by first | exact NE_b6_b8.out | exact (fun e2_ => NE_b8_b6.out e2_.symm)))); clear HN HV Kb3 Kb6; have HN := qHN_; have HV := qHV_; have Kb3 := qKb3_; have Kb6 := qKb6_; clear qHN_ qHV_ qKb3_ qKb6_; clear Kb8 HB; have Kb8 := Aside0.mk hbk; have HB := Aside0.mk hbb; clear hbk hbb hgg))
      | fail)
        clear x0 x1 x2 x3 x4 x5 x6
        have q_ := Aside0.mk (below_drew1 HB.out)
        clear HB
        have HB := q_
        clear q_
        have q_ := Aside0.mk (Kd.N_drew HN.out)
        clear HN
        have HN := q_
        clear q_
        have q_ := Aside0.mk (Kd.V_drew HV.out)
        clear HV
        have HV := q_
        clear q_
        have q_ := Aside0.mk (blk_drew Kb3.out)
        clear Kb3
        have Kb3 := q_
        clear q_
        have q_ := Aside0.mk (blk_drew Kb6.out)
        clear Kb6
        have Kb6 := q_
        clear q_
        have q_ := Aside0.mk (blk_drew Kb8.out)
        clear Kb8
        have Kb8 := q_
        clear q_
        refine start_ (n := 7) (S := fun w' => w'.heap[b3]? = some (.cells #[.int .u8 ck, .int .i64 cx, .int .i64 cy, .int .i64 cw, .int .i64 ch, .int .i64 cid, .slice (some ⟨g, 0, none⟩) l.length c1] 26 (0, 0)) ∧ w'.heap[b8]? = some (.cells #[.int .u8 k.f0, .int .i64 k.f1.f0, .int .i64 k.f1.f1, .int .i64 k.f1.f2, .int .i64 k.f1.f3, .int .i64 k.f2, .slice ua k.f3.length uc] 26 (0, 0))) (ds := [6]) #[false, false, false, false, false, false, false] (by kernel_rfl) rfl rfl ⟨Kb3.out, Kb8.out⟩ (fun hHeld => ?_); refine with_tabW cell_clone.tab5 cell_clone.bits5 (fun HT_ HW_ => ?_)
        generalize ws31.drew = wd at HB HN HV Kb3 Kb6 Kb8 hHeld ⊢
        refine pure_ (i := 0) (N := some 17) (v := ?_) (a' := ?_) #[true, false, false, false, false, false, false] rfl rfl (any_of HT_.out (by kernel_rfl)) (fun _ _ _ h => h) (Or.inl ⟨by rfl, ?_⟩) ?_ ?_
        rotate_left
        · intro w'; go_simp; with_reducible rfl
        rotate_left
        · simp only [Act.put, List.setIfInBounds_toArray, List.set_cons_zero, List.set_cons_succ, i64_w, i32_w]
          rfl
        refine take_ (i := 1) (N := some 18) (v := ?_) (a' := ?_) #[true, true, false, false, false, false, false] rfl rfl (take_ofW HT_.out HW_.out (by kernel_rfl)) (fun _ _ _ h => h) (Or.inl ⟨by rfl, ?_⟩) hHeld ?_ ?_
        rotate_left
        · intro w' hs_
          have c := (blk_cell hs_.1 6).trans rfl
          go_simp; with_reducible rfl
        rotate_left
        · simp only [Act.put, List.setIfInBounds_toArray, List.set_cons_zero, List.set_cons_succ, i64_w, i32_w]
          rfl
        refine pure_ (i := 2) (N := some 19) (v := ?_) (a' := ?_) #[true, true, true, false, false, false, false] rfl rfl (any_of HT_.out (by kernel_rfl)) (fun _ _ _ h => h) (Or.inl ⟨by rfl, ?_⟩) ?_ ?_
        rotate_left
        · intro w'; go_simp; with_reducible rfl
        rotate_left
        · simp only [Act.put, List.setIfInBounds_toArray, List.set_cons_zero, List.set_cons_succ, i64_w, i32_w]
          rfl
        refine take_ (i := 3) (N := some 20) (v := ?_) (a' := ?_) #[true, true, true, true, false, false, false] rfl rfl (take_ofW HT_.out HW_.out (by kernel_rfl)) (fun _ _ _ h => h) (Or.inl ⟨by rfl, ?_⟩) hHeld ?_ ?_
        rotate_left
        · intro w' hs_
          have c0 := (blk_cell hs_.2 0).trans rfl
          have c1 := (blk_cell hs_.2 1).trans rfl
          have c2 := (blk_cell hs_.2 2).trans rfl
          have c3 := (blk_cell hs_.2 3).trans rfl
          have c4 := (blk_cell hs_.2 4).trans rfl
          have c5 := (blk_cell hs_.2 5).trans rfl
          have c6 := (blk_cell hs_.2 6).trans rfl
          go_simp; with_reducible rfl
        rotate_left
        · simp only [Act.put, List.setIfInBounds_toArray, List.set_cons_zero, List.set_cons_succ, i64_w, i32_w]
          rfl
        refine one_ (i := 4) (N := some 21) #[true, true, true, true, true, false, false] rfl rfl (one_of HT_.out (by kernel_rfl)) (by decide) (fun K hK => ?_)
        refine goes_ Try.func151 (by kernel_rfl) rfl #[.agg #[.int .u8 k.f0, .int .i64 k.f1.f0, .int .i64 k.f1.f1, .int .i64 k.f1.f2, .int .i64 k.f1.f3, .int .i64 k.f2, .slice ua k.f3.length uc]] (by rfl) rfl rfl (by (try simp only [List.map_toArray, List.map_cons, List.map_nil]); first | done | rfl) ?_
        refine (IH.out k HK.out _ ua uc wd HV.out).mono ?_
        rintro e wk ⟨v, rfl, ho, hb⟩
        refine ⟨_, rfl, ?_⟩
        have HE3 := Aside0.mk (blk_lt Kb3.out)
        have HE6 := Aside0.mk (blk_lt Kb6.out)
        have HE8 := Aside0.mk (blk_lt Kb8.out)
        have HEG := Aside0.mk (Kd.N_lt HN.out g rfl)
        have HS := Aside0.mk HB.out.size
        have qHB_ := Aside0.mk (below_step HB.out hb); have qHN_ := Aside0.mk (Kd.N_below HN.out hb); have qHV_ := Aside0.mk (Kd.V_below HV.out hb); have qKb3_ := Aside0.mk (blk_below Kb3.out hb); have qKb6_ := Aside0.mk (blk_below Kb6.out hb); have qKb8_ := Aside0.mk (blk_below Kb8.out hb); clear HB HN HV Kb3 Kb6 Kb8; have HB := qHB_; have HN := qHN_; have HV := qHV_; have Kb3 := qKb3_; have Kb6 := qKb6_; have Kb8 := qKb8_; clear qHB_ qHN_ qHV_ qKb3_ qKb6_ qKb8_
        clear HV hb
        obtain ⟨Av, cv, ev⟩ := Kd.N_slice ho
        subst ev
        have HO2 := Aside0.mk ho
        clear ho
        refine hK.out _ _ ⟨Kb3.out, Kb8.out⟩ (fun hHeld => ?_)
        clear hK K
        refine norm_ (a' := ?_) ?_ ?_
        rotate_left
        · show Act.put _ (some 21) _ = _
          simp only [Act.put, List.setIfInBounds_toArray, List.set_cons_zero, List.set_cons_succ, i64_w, i32_w]
          rfl
        refine pure_ (i := 5) (N := some 22) (v := ?_) (a' := ?_) #[true, true, true, true, true, true, false] rfl rfl (any_of HT_.out (by kernel_rfl)) (fun _ _ _ h => h) (Or.inl ⟨by rfl, ?_⟩) ?_ ?_
        rotate_left
        · intro w'; go_simp; with_reducible rfl
        rotate_left
        · simp only [Act.put, List.setIfInBounds_toArray, List.set_cons_zero, List.set_cons_succ, i64_w, i32_w]
          rfl
        refine last_ (i := 6) (N := none) #[true, true, true, true, true, true, true] rfl rfl (one_of HT_.out (by kernel_rfl)) (by decide) (fun K hK => ?_)
        obtain ⟨ce, hcl, hM, hcc, hfr⟩ := Kd.N_elem HN.out z26 (pre.length : Int) (Int.natCast_nonneg _) hlt
        rw [HRD.out] at hM
        obtain ⟨ub, ud, rfl, _, _⟩ := k26_openF hM
        have x0 : wk.cell? ⟨g, pre.length * 7, none⟩ = some (.int .u8 k.f0) := hcc 0 _ rfl
        have f0 : wk.frozen? ⟨g, pre.length * 7, none⟩ = false := hfr 0
        have x1 : wk.cell? ⟨g, pre.length * 7 + 1, none⟩ = some (.int .i64 k.f1.f0) := hcc 1 _ rfl
        have f1 : wk.frozen? ⟨g, pre.length * 7 + 1, none⟩ = false := hfr 1
        have x2 : wk.cell? ⟨g, pre.length * 7 + 2, none⟩ = some (.int .i64 k.f1.f1) := hcc 2 _ rfl
        have f2 : wk.frozen? ⟨g, pre.length * 7 + 2, none⟩ = false := hfr 2
        have x3 : wk.cell? ⟨g, pre.length * 7 + 3, none⟩ = some (.int .i64 k.f1.f2) := hcc 3 _ rfl
        have f3 : wk.frozen? ⟨g, pre.length * 7 + 3, none⟩ = false := hfr 3
        have x4 : wk.cell? ⟨g, pre.length * 7 + 4, none⟩ = some (.int .i64 k.f1.f3) := hcc 4 _ rfl
        have f4 : wk.frozen? ⟨g, pre.length * 7 + 4, none⟩ = false := hfr 4
        have x5 : wk.cell? ⟨g, pre.length * 7 + 5, none⟩ = some (.int .i64 k.f2) := hcc 5 _ rfl
        have f5 : wk.frozen? ⟨g, pre.length * 7 + 5, none⟩ = false := hfr 5
        have x6 : wk.cell? ⟨g, pre.length * 7 + 6, none⟩ = some (.slice ub k.f3.length ud) := hcc 6 _ rfl
        have f6 : wk.frozen? ⟨g, pre.length * 7 + 6, none⟩ = false := hfr 6
        have hokp : ∀ q, (((fun q => ((P q ∨ w.heap.size ≤ q) ∧ q ≠ b3) ∧ q ≠ b6) q ∧ q ≠ g) ∧ q ≠ b8) ∨ wd.heap.size ≤ q → ((fun q => ((P q ∨ w.heap.size ≤ q) ∧ q ≠ b3) ∧ q ≠ b6) q ∧ q ≠ b8) ∧ q ≠ g := fun q hq => hq.elim (fun h => ⟨⟨h.1.1, h.2⟩, h.1.2⟩) (fun hn => ⟨⟨⟨⟨.inr (Nat.le_trans HS.out hn), Nat.ne_of_gt (Nat.lt_of_lt_of_le HE3.out hn)⟩, Nat.ne_of_gt (Nat.lt_of_lt_of_le HE6.out hn)⟩, Nat.ne_of_gt (Nat.lt_of_lt_of_le HE8.out hn)⟩, Nat.ne_of_gt (Nat.lt_of_lt_of_le HEG.out hn)⟩)
        have hMk := k26_mkF wk _ k (A6 := Av) (c6 := cv) (Kd.N_reads' HO2.out).2.1 (Kd.N_F HO2.out)
        have hseg := Kd.N_seg HN.out (pre.length : Int) (Int.natCast_nonneg _) hlt (seg := [.int .u8 k.f0, .int .i64 k.f1.f0, .int .i64 k.f1.f1, .int .i64 k.f1.f2, .int .i64 k.f1.f3, .int .i64 k.f2, .slice Av k.f3.length cv]) (j := 0) hcl hcc (show 0 + 7 ≤ 7 from by decide) (x' := k) hMk hokp
        rw [show l.set (pre.length : Int).toNat k = l from by rw [← HE.out, Int.toNat_natCast]; simp] at hseg
        obtain ⟨w9, hw9⟩ : ∃ w9, w9 = wk.setCells g ((pre.length : Int).toNat * 7 + 0) [.int .u8 k.f0, .int .i64 k.f1.f0, .int .i64 k.f1.f1, .int .i64 k.f1.f2, .int .i64 k.f1.f3, .int .i64 k.f2, .slice Av k.f3.length cv] := ⟨_, rfl⟩
        replace hseg : Kd.N k26 26 w9 w.heap.size (fun q => (fun q => ((P q ∨ w.heap.size ≤ q) ∧ q ≠ b3) ∧ q ≠ b6) q ∧ q ≠ b8) (.slice (some ⟨g, 0, none⟩) l.length c1) l ∧ wk.grownBy w9 (some g) := by rw [hw9]; exact hseg
        have HN9 := Aside0.mk (Kd.N_drop hseg.1)
        have HB9 := Aside0.mk (grown_below HB.out hseg.2 HGB.out HB.out.size)
        have Kb39 := Aside0.mk (blk_grown Kb3.out hseg.2 (fun e_ => (HN.out.1 g rfl).1.1.2 (Option.some.inj e_).symm))
        have Kb69 := Aside0.mk (blk_grown Kb6.out hseg.2 (fun e_ => (HN.out.1 g rfl).1.2 (Option.some.inj e_).symm))
        clear hseg hMk hokp hcl hcc hfr hM HN HB Kb3 Kb6 Kb8 hHeld HO2
        refine skip_ (w1 := w9) (by rfl) rfl ?_ ?_
        · rw [hw9]; go_simp; rfl
        refine hK.out _ _ ?_
        clear hK K x0 x1 x2 x3 x4 x5 x6 f0 f1 f2 f3 f4 f5 f6 hw9
        refine done_ (done_of HT_.out (by kernel_rfl)) ?_
        have hw := HW1.out
        go_wp2
        go_roundg rest.length
        case measure => exact Nat.lt_of_lt_of_le (Nat.lt_succ_self _) HGG.out
        case rel => exact ⟨pre ++ [k], rest, (by rw [hw]), ⟨by rw [List.append_assoc]; exact HE.out⟩, Nat.le_refl _, HN9, Kb39, Kb69, HB9⟩
def cell_clone.f (a0 a1 a2 a3 a4 a5 : Int) (l : List S26) : Option (Int × Int × Int × Int × Int × Int × List S26) := if sz ⟨a0, ⟨a1, a2, a3, a4⟩, a5, l⟩ ≤ 1000000 then some (a0, a1, a2, a3, a4, a5, l) else none
theorem cell_clone.calls (a0_0 a0_1 a0_2 a0_3 a0_4 a0_5 : Int) (P0_6_ : Nat → Prop) (A0_6 : Option Addr) (c0_6 : Nat) (l0_6 : List S26) (r1 r2 r3 r4 r5 r6 : Int) (r7 : List S26) (w : World) (hs0_6 : Kd.V k26 26 w w.heap.size (fun k_ => P0_6_ k_) (.slice A0_6 l0_6.length c0_6) l0_6) (h : cell_clone.f a0_0 a0_1 a0_2 a0_3 a0_4 a0_5 l0_6 = some (r1, r2, r3, r4, r5, r6, r7)) :
    Calls Try.prog 151 #[.agg #[.int .u8 a0_0, .int .i64 a0_1, .int .i64 a0_2, .int .i64 a0_3, .int .i64 a0_4, .int .i64 a0_5, .slice A0_6 l0_6.length c0_6]] w fun e w' => ∃ v6_ : Value, e = .returned (.agg #[.int .u8 r1, .int .i64 r2, .int .i64 r3, .int .i64 r4, .int .i64 r5, .int .i64 r6, v6_]) ∧ Kd.N k26 26 w' w.heap.size (fun k_ => (P0_6_ k_ ∨ w.heap.size ≤ k_)) v6_ r7 ∧ Below w.heap.size w w' := by
  unfold cell_clone.f at h
  split at h
  · rename_i hz
    simp only [Option.some.injEq, Prod.mk.injEq] at h
    obtain ⟨rfl, rfl, rfl, rfl, rfl, rfl, rfl⟩ := h
    exact clone151 1000000 ⟨a0_0, ⟨a0_1, a0_2, a0_3, a0_4⟩, a0_5, l0_6⟩ hz (Nat.le_refl _) P0_6_ A0_6 c0_6 w hs0_6
  · exact absurd h (by simp)
end Go.Proofs.Ytfdmfgaiblfbhaa.P
namespace Go.Proofs.Ytfdmfgaiblfbhaa.P
open Go.RowKit Go.Proofs.YtfdmfgaiblfbhaaW.PrintWords Go.Proofs.YtfdmfgaiblfbhaaW.PrintLast Go.Proofs.YtfdmfgaiblfbhaaW.PrintMore
attribute [local go_sem] max2_int min2_int max_two min_two max_three min_three max_four min_four   -- for this text's walks alone
set_option linter.unusedVariables false
set_option linter.unusedSimpArgs false

/-! ### cell_At: function 91 -/
def cell_At.l0 : Nat → List Int → Int → Int → Int → Int → Int → Int → Int → Int → List (S26) → Option (Int × Int × Int × Int × Int × Int × (List (S26)) × Bool)
  | 0, _, _, _, _, _, _, _, _, _, _ => none
  | k + 1, x8, x9, x10, x1003000, x1003001, x1003002, x1003003, x1003004, x1003005, x1003006 => if x10 < x9 then (if 0 ≤ x10 then (if x10 < (x8.length : Int) then (if (rd x8 x10) < 0 then (some (0, 0, 0, 0, 0, 0, ([] : List (S26)), false)) else (if (rd x8 x10) ≥ (x1003006.length : Int) then (some (0, 0, 0, 0, 0, 0, ([] : List (S26)), false)) else (if 0 ≤ (rd x8 x10) then (if (rd x8 x10) < (x1003006.length : Int) then (cell_At.l0 k x8 x9 (wrap64 (x10 + 1)) ((rd_T26 x1003006 (rd x8 x10)).f0) ((rd_T26 x1003006 (rd x8 x10)).f1.f0) ((rd_T26 x1003006 (rd x8 x10)).f1.f1) ((rd_T26 x1003006 (rd x8 x10)).f1.f2) ((rd_T26 x1003006 (rd x8 x10)).f1.f3) ((rd_T26 x1003006 (rd x8 x10)).f2) ((rd_T26 x1003006 (rd x8 x10)).f3)) else (none)) else (none)))) else (none)) else (none)) else ((cell_clone.f x1003000 x1003001 x1003002 x1003003 x1003004 x1003005 x1003006).bind fun bt1006 => (some (bt1006.1, bt1006.2.1, bt1006.2.2.1, bt1006.2.2.2.1, bt1006.2.2.2.2.1, bt1006.2.2.2.2.2.1, bt1006.2.2.2.2.2.2, true)))
def cell_At.f (k : Nat) (a0_0 : Int) (a0_1 : Int) (a0_2 : Int) (a0_3 : Int) (a0_4 : Int) (a0_5 : Int) (l0_6 : List (S26)) (l1 : List Int) : Option (Int × Int × Int × Int × Int × Int × (List (S26)) × Bool) := cell_At.l0 k l1 (l1.length : Int) 0 a0_0 a0_1 a0_2 a0_3 a0_4 a0_5 l0_6
theorem cell_At.mono_l : ∀ k, (∀ y0 y1 y2 y3 y4 y5 y6 y7 y8 y9, LeO (cell_At.l0 k y0 y1 y2 y3 y4 y5 y6 y7 y8 y9) (cell_At.l0 (k + 1) y0 y1 y2 y3 y4 y5 y6 y7 y8 y9))
  | 0 => fun _ _ _ _ _ _ _ _ _ _ r h => by simp [cell_At.l0] at h
  | k + 1 => by
    have ih0 := cell_At.mono_l k
    · intro y0 y1 y2 y3 y4 y5 y6 y7 y8 y9
      unfold cell_At.l0
      repeat' first
      | (with_reducible exact ih0 _ _ _ _ _ _ _ _ _ _)
      | (with_reducible exact LeO.refl _)
      | (with_reducible exact LeO.none _)
      | (with_reducible refine LeO.ite ?_ ?_)
      | (with_reducible refine LeO.bind ?_ (fun _ => ?_))
      | exact ih0 _ _ _ _ _ _ _ _ _ _
      | exact LeO.none _
      | refine LeO.ite ?_ ?_
      | refine LeO.bind ?_ (fun _ => ?_)
theorem cell_At.mono : ∀ a0 a1 a2 a3 a4 a5 a6 a7 k, LeO (cell_At.f k a0 a1 a2 a3 a4 a5 a6 a7) (cell_At.f (k + 1) a0 a1 a2 a3 a4 a5 a6 a7) := by
  intro a0 a1 a2 a3 a4 a5 a6 a7 k
  have ih0 := cell_At.mono_l k
  unfold cell_At.f
  repeat' first
      | (with_reducible exact ih0 _ _ _ _ _ _ _ _ _ _)
      | (with_reducible exact LeO.refl _)
      | (with_reducible exact LeO.none _)
      | (with_reducible refine LeO.ite ?_ ?_)
      | (with_reducible refine LeO.bind ?_ (fun _ => ?_))
      | exact ih0 _ _ _ _ _ _ _ _ _ _
      | exact LeO.none _
      | refine LeO.ite ?_ ?_
      | refine LeO.bind ?_ (fun _ => ?_)
set_option maxHeartbeats 8000000 in
set_option maxRecDepth 100000 in
theorem cell_At.calls (k : Nat) (a0_0 : Int) (a0_1 : Int) (a0_2 : Int) (a0_3 : Int) (a0_4 : Int) (a0_5 : Int) (P0_6_ : Nat → Prop) (A0_6 : Option Addr) (c0_6 : Nat) (l0_6 : List (S26)) (A1 : Option Addr) (c1 : Nat) (l1 : List Int) (r1 : Int) (r2 : Int) (r3 : Int) (r4 : Int) (r5 : Int) (r6 : Int) (r7 : List (S26)) (r8 : Bool) (w : World) (hs0_6 : Kd.V k26 26 w w.heap.size (fun k_ => P0_6_ k_) (.slice A0_6 l0_6.length c0_6) l0_6) (hr1 : Kd.C (Kd.int .i64) w A1 l1.length l1) (hc1 : l1.length ≤ c1) (h : cell_At.f k a0_0 a0_1 a0_2 a0_3 a0_4 a0_5 l0_6 l1 = some (r1, r2, r3, r4, r5, r6, r7, r8)) :
    Calls Try.prog 91 #[.agg #[.int .u8 a0_0, .int .i64 a0_1, .int .i64 a0_2, .int .i64 a0_3, .int .i64 a0_4, .int .i64 a0_5, .slice A0_6 l0_6.length c0_6], .slice A1 l1.length c1] w fun e w' => ∃ v6_ : Value, e = .returned (.tuple #[.agg #[.int .u8 r1, .int .i64 r2, .int .i64 r3, .int .i64 r4, .int .i64 r5, .int .i64 r6, v6_], .bool r8]) ∧ Kd.N k26 26 w' w.heap.size (fun k_ => (P0_6_ k_ ∨ w.heap.size ≤ k_)) v6_ r7 ∧ Below w.heap.size w w' := by
  have hu26 := Try.underlying26
  have HO0_6 := Aside0.mk (show Kd.V k26 26 w w.heap.size (fun k_ => (P0_6_ k_ ∨ w.heap.size ≤ k_)) (.slice A0_6 l0_6.length c0_6) l0_6 from Kd.V_mono hs0_6 (fun k_ hk => .inl hk))
  have HR1 := Aside0.mk hr1
  have HC1 := Aside0.mk hc1
  clear hr1 hc1
  have HB := Aside0.mk (Below.refl w.heap.size w)
  have H : (cell_At.l0 k l1 (l1.length : Int) 0 a0_0 a0_1 a0_2 a0_3 a0_4 a0_5 l0_6) = some (r1, r2, r3, r4, r5, r6, r7, r8) := h
  clear h
  have H' := Aside0.mk H
  clear H
  go_enter Try.func91, Try.ntmps91
  go_wp2_with (first | ((with_reducible refine gate_dst (N := 2) rfl ?_); (try (refine gate_guard (by rfl) ?_; dsimp only)); refine box_event ?hg (N := 2) ?hd (cs := #[.int .u8 a0_0, .int .i64 a0_1, .int .i64 a0_2, .int .i64 a0_3, .int .i64 a0_4, .int .i64 a0_5, .slice A0_6 l0_6.length c0_6]) (t := 26) ?hr ?_; (case hd => rfl); (case hg => rfl); (case hr => first | (go_simp; done) | (go_simp; rfl)); intro gb1002 hg w3 hbox hb; have n0_ := Aside0.mk (Kd.V_below (Kd.V_elderB (by (with_reducible repeat (first | apply Kd.V_alloc | apply Kd.V_drewN | apply Kd.V_drew)); exact HO0_6.out) gb1002 (Nat.le_of_eq hg.symm)) hb); have n1_ := Aside0.mk (below_step (by repeat (first | (with_reducible first | exact HB.out | apply below_alloc | apply pw_below_drewN | apply below_drew1) | exact HB.out)) hb); have n2_ := Aside0.mk (hbox); have n3_ := Aside0.mk ((by rw [hg]; exact (below_size (by repeat (first | (with_reducible first | exact HB.out | apply below_alloc | apply pw_below_drewN | apply below_drew1) | exact HB.out))) : w.heap.size ≤ gb1002)); have n4_ := Aside0.mk ((by rw [hg]; exact (below_size (by repeat (first | (with_reducible first | exact HB.out | apply below_alloc | apply pw_below_drewN | apply below_drew1) | exact HB.out))) : w.heap.size ≤ gb1002)); clear HO0_6; clear HB; have HO0_6 := n0_; have HB := n1_; have BK1002 := n2_; have GW1002 := n3_; have GE1002 := n4_; clear n0_ n1_ n2_ n3_ n4_; clear hb hbox hg) | ((with_reducible refine gate_dst (N := 4) rfl ?_); (try (refine gate_guard (by rfl) ?_; dsimp only)); refine box_event ?hg (N := 4) ?hd (cs := #[.int .u8 0, .int .i64 0, .int .i64 0, .int .i64 0, .int .i64 0, .int .i64 0, .slice none 0 0]) (t := 26) ?hr ?_; (case hd => rfl); (case hg => rfl); (case hr => first | (go_simp; done) | (go_simp; rfl)); intro gb1003 hg w4 hbox hb; have n0_ := Aside0.mk (Kd.V_below (Kd.V_elderB (by (with_reducible repeat (first | apply Kd.V_alloc | apply Kd.V_drewN | apply Kd.V_drew)); exact HO0_6.out) gb1003 (Nat.le_of_eq hg.symm)) hb); have n1_ := Aside0.mk (blk_below (g := gb1002) (o := .cells #[.int .u8 a0_0, .int .i64 a0_1, .int .i64 a0_2, .int .i64 a0_3, .int .i64 a0_4, .int .i64 a0_5, .slice A0_6 l0_6.length c0_6] 26 (0, 0)) (by (with_reducible repeat (first | refine blk_drewN ?_ _ | refine blk_drew ?_ | refine blk_alloc ?_ _)); exact BK1002.out) hb); have n2_ := Aside0.mk (below_step (by repeat (first | (with_reducible first | exact HB.out | apply below_alloc | apply pw_below_drewN | apply below_drew1 | refine below_set ?_ GE1002.out) | exact HB.out)) hb); have n3_ := Aside0.mk (hbox); have n4_ := Aside0.mk ((by rw [hg]; exact (below_size (by repeat (first | (with_reducible first | exact HB.out | apply below_alloc | apply pw_below_drewN | apply below_drew1 | refine below_set ?_ GE1002.out) | exact HB.out))) : w.heap.size ≤ gb1003)); have n5_ := Aside0.mk ((by rw [hg]; exact (below_size (by repeat (first | (with_reducible first | exact HB.out | apply below_alloc | apply pw_below_drewN | apply below_drew1 | refine below_set ?_ GE1002.out) | exact HB.out))) : w.heap.size ≤ gb1003)); have n6_ := Aside0.mk ((by rw [hg]; exact Nat.ne_of_lt (blk_lt (g := gb1002) (o := .cells #[.int .u8 a0_0, .int .i64 a0_1, .int .i64 a0_2, .int .i64 a0_3, .int .i64 a0_4, .int .i64 a0_5, .slice A0_6 l0_6.length c0_6] 26 (0, 0)) (by (with_reducible repeat (first | refine blk_drewN ?_ _ | refine blk_drew ?_ | refine blk_alloc ?_ _)); exact BK1002.out)) : gb1002 ≠ gb1003)); have n7_ := Aside0.mk ((by rw [hg]; exact Nat.ne_of_gt (blk_lt (g := gb1002) (o := .cells #[.int .u8 a0_0, .int .i64 a0_1, .int .i64 a0_2, .int .i64 a0_3, .int .i64 a0_4, .int .i64 a0_5, .slice A0_6 l0_6.length c0_6] 26 (0, 0)) (by (with_reducible repeat (first | refine blk_drewN ?_ _ | refine blk_drew ?_ | refine blk_alloc ?_ _)); exact BK1002.out)) : gb1003 ≠ gb1002)); clear HO0_6; clear BK1002; clear HB; have HO0_6 := n0_; have BK1002 := n1_; have HB := n2_; have BK1003 := n3_; have GW1003 := n4_; have GE1003 := n5_; have NB1002_1003 := n6_; have NB1003_1002 := n7_; clear n0_ n1_ n2_ n3_ n4_ n5_ n6_ n7_; clear hb hbox hg))
  go_loopg [10] k (fun kq v10 w' => ∃ (x10_1 : Int) (x1003000_1 : Int) (x1003001_1 : Int) (x1003002_1 : Int) (x1003003_1 : Int) (x1003004_1 : Int) (x1003005_1 : Int) (x1003006_1 : List (S26)) (x1004000_1 : Int) (x1004001_1 : Int) (x1004002_1 : Int) (x1004003_1 : Int) (x1004004_1 : Int) (x1004005_1 : Int) (u1003006 : Value), v10 = .int .i64 x10_1 ∧ Aside0 (cell_At.l0 kq l1 (l1.length : Int) x10_1 x1003000_1 x1003001_1 x1003002_1 x1003003_1 x1003004_1 x1003005_1 x1003006_1 = some (r1, r2, r3, r4, r5, r6, r7, r8)) ∧ Aside0 (kq ≤ k) ∧ Aside0 (Kd.V k26 26 w' w.heap.size (fun k_ => (P0_6_ k_ ∨ w.heap.size ≤ k_) ∧ k_ ≠ gb1002 ∧ k_ ≠ gb1003) u1003006 x1003006_1) ∧ Aside0 (w'.heap[gb1002]? = some (.cells #[.int .u8 x1003000_1, .int .i64 x1003001_1, .int .i64 x1003002_1, .int .i64 x1003003_1, .int .i64 x1003004_1, .int .i64 x1003005_1, u1003006] 26 (0, 0))) ∧ Aside0 (w'.heap[gb1003]? = some (.cells #[.int .u8 x1004000_1, .int .i64 x1004001_1, .int .i64 x1004002_1, .int .i64 x1004003_1, .int .i64 x1004004_1, .int .i64 x1004005_1, (.slice none 0 0)] 26 (0, 0))) ∧ Aside0 (Below w.heap.size w w'))
  case atStart => exact ⟨(0), (a0_0), (a0_1), (a0_2), (a0_3), (a0_4), (a0_5), (l0_6), (0), (0), (0), (0), (0), (0), (.slice A0_6 l0_6.length c0_6), (by first | rfl | (simp; done) | (simp [*]; done)), H', ⟨Nat.le_refl _⟩, ⟨by (with_reducible repeat (first | apply Kd.V_alloc | apply Kd.V_drewN | apply Kd.V_drew)); exact Kd.V_mono HO0_6.out (fun _ hk => ⟨hk.1.1, ⟨hk.1.2, hk.2⟩⟩)⟩, ⟨by (with_reducible repeat (first | refine blk_drewN ?_ _ | refine blk_drew ?_ | refine blk_alloc ?_ _)); exact BK1002.out⟩, ⟨by (with_reducible repeat (first | refine blk_drewN ?_ _ | refine blk_drew ?_ | refine blk_alloc ?_ _)); exact BK1003.out⟩, ⟨by repeat (first | (with_reducible first | exact HB.out | apply below_alloc | apply pw_below_drewN | apply below_drew1 | refine below_set ?_ GE1002.out | refine below_set ?_ GE1003.out) | exact HB.out)⟩⟩
  case round =>
    clear H'
    try clear c1
    try clear p2
    obtain ⟨x10_1, x1003000_1, x1003001_1, x1003002_1, x1003003_1, x1003004_1, x1003005_1, x1003006_1, x1004000_1, x1004001_1, x1004002_1, x1004003_1, x1004004_1, x1004005_1, u1003006, rfl, HA, HK1, HO_1003006, BK1002, BK1003, HB⟩ := hrel
    cases gk with
    | zero => exact absurd HA.out (by simp [cell_At.l0])
    | succ k1 =>
      have H := HA.out
      clear HA
      simp only [cell_At.l0] at H
      by_cases c5 : x10_1 < (l1.length : Int)
      · rw [if_pos c5] at H
        have c5b0 : decide (x10_1 < (l1.length : Int)) = true := decide_eq_true c5
        clear c5
        by_cases c6 : 0 ≤ x10_1
        · rw [if_pos c6] at H
          have c6b0 : decide (0 ≤ x10_1) = true := decide_eq_true c6
          clear c6
          by_cases c7 : x10_1 < (l1.length : Int)
          · rw [if_pos c7] at H
            have c7b0 : decide (x10_1 < (l1.length : Int)) = true := decide_eq_true c7
            clear c7
            by_cases c8 : (rd l1 x10_1) < 0
            · rw [if_pos c8] at H
              have c8b0 : decide ((rd l1 x10_1) < 0) = true := decide_eq_true c8
              clear c8
              simp only [Option.some.injEq, Prod.mk.injEq] at H
              obtain ⟨rfl, rfl, rfl, rfl, rfl, rfl, rfl, rfl⟩ := H
              have p1004 : 0 ≤ (x10_1 : Int) := of_decide_eq_true (by first | (with_reducible assumption) | assumption)
              have q1004 : x10_1 < (l1.length : Int) := of_decide_eq_true (by first | (with_reducible assumption) | assumption)
              obtain ⟨ad1004, e1004, hx1004_0⟩ := Kd.at_int HR1.out x10_1 p1004 q1004
              cases e1004
              replace hx1004_0 := (HB.out.cell (World.block_lt_of_cell? w _ hx1004_0)).trans hx1004_0
              replace p1004 := eq_true p1004
              replace q1004 := eq_true q1004
              have hnb9 := NB1003_1002.out
              have hnc9 := NB1002_1003.out
              have hcz10_0 : wr.cell? ⟨gb1003, 0, none⟩ = some (.int .u8 x1004000_1) := (blk_cell BK1003.out 0).trans rfl
              have hcz10_1 : wr.cell? ⟨gb1003, 1, none⟩ = some (.int .i64 x1004001_1) := (blk_cell BK1003.out 1).trans rfl
              have hcz10_2 : wr.cell? ⟨gb1003, 2, none⟩ = some (.int .i64 x1004002_1) := (blk_cell BK1003.out 2).trans rfl
              have hcz10_3 : wr.cell? ⟨gb1003, 3, none⟩ = some (.int .i64 x1004003_1) := (blk_cell BK1003.out 3).trans rfl
              have hcz10_4 : wr.cell? ⟨gb1003, 4, none⟩ = some (.int .i64 x1004004_1) := (blk_cell BK1003.out 4).trans rfl
              have hcz10_5 : wr.cell? ⟨gb1003, 5, none⟩ = some (.int .i64 x1004005_1) := (blk_cell BK1003.out 5).trans rfl
              have hcz10_6 : wr.cell? ⟨gb1003, 6, none⟩ = some (.slice none 0 0) := (blk_cell BK1003.out 6).trans rfl
              have hfz10_0 := blk_frozen BK1003.out 0
              have hfz10_1 := blk_frozen BK1003.out 1
              have hfz10_2 := blk_frozen BK1003.out 2
              have hfz10_3 := blk_frozen BK1003.out 3
              have hfz10_4 := blk_frozen BK1003.out 4
              have hfz10_5 := blk_frozen BK1003.out 5
              have hfz10_6 := blk_frozen BK1003.out 6
              go_wp2
              refine bodyPost_ret (results_ct rfl _ _ gb1003 26 #[.int .u8 0, .int .i64 0, .int .i64 0, .int .i64 0, .int .i64 0, .int .i64 0, .slice none 0 0] (0, 0) _ rfl (by (with_reducible repeat (first | refine blk_drewN ?_ _ | refine blk_drew ?_ | refine blk_alloc ?_ _)); refine blk_put (cs := #[.int .u8 0, .int .i64 0, .int .i64 0, .int .i64 0, .int .i64 0, .int .i64 0, .slice none 0 0]) ?_ 6 _ rfl; (with_reducible repeat (first | refine blk_drewN ?_ _ | refine blk_drew ?_ | refine blk_alloc ?_ _)); refine blk_put (cs := #[.int .u8 0, .int .i64 0, .int .i64 0, .int .i64 0, .int .i64 0, .int .i64 x1004005_1, .slice none 0 0]) ?_ 5 _ rfl; (with_reducible repeat (first | refine blk_drewN ?_ _ | refine blk_drew ?_ | refine blk_alloc ?_ _)); refine blk_put (cs := #[.int .u8 0, .int .i64 0, .int .i64 0, .int .i64 0, .int .i64 x1004004_1, .int .i64 x1004005_1, .slice none 0 0]) ?_ 4 _ rfl; (with_reducible repeat (first | refine blk_drewN ?_ _ | refine blk_drew ?_ | refine blk_alloc ?_ _)); refine blk_put (cs := #[.int .u8 0, .int .i64 0, .int .i64 0, .int .i64 x1004003_1, .int .i64 x1004004_1, .int .i64 x1004005_1, .slice none 0 0]) ?_ 3 _ rfl; (with_reducible repeat (first | refine blk_drewN ?_ _ | refine blk_drew ?_ | refine blk_alloc ?_ _)); refine blk_put (cs := #[.int .u8 0, .int .i64 0, .int .i64 x1004002_1, .int .i64 x1004003_1, .int .i64 x1004004_1, .int .i64 x1004005_1, .slice none 0 0]) ?_ 2 _ rfl; (with_reducible repeat (first | refine blk_drewN ?_ _ | refine blk_drew ?_ | refine blk_alloc ?_ _)); refine blk_put (cs := #[.int .u8 0, .int .i64 x1004001_1, .int .i64 x1004002_1, .int .i64 x1004003_1, .int .i64 x1004004_1, .int .i64 x1004005_1, .slice none 0 0]) ?_ 1 _ rfl; (with_reducible repeat (first | refine blk_drewN ?_ _ | refine blk_drew ?_ | refine blk_alloc ?_ _)); refine blk_put (cs := #[.int .u8 x1004000_1, .int .i64 x1004001_1, .int .i64 x1004002_1, .int .i64 x1004003_1, .int .i64 x1004004_1, .int .i64 x1004005_1, .slice none 0 0]) ?_ 0 _ rfl; (with_reducible repeat (first | refine blk_drewN ?_ _ | refine blk_drew ?_ | refine blk_alloc ?_ _)); exact BK1003.out) Try.underlying26 rfl (by kernel_rfl)) rfl ?_
              exact ⟨_, by first | rfl | (simp [errW_none, errW_some] <;> rfl) | (simp [*, errW_none, errW_some] <;> rfl), by first | exact Kd.R_nil _ _ _ _ _ | exact Kd.N_nil _ _ _ _ _ | exact Kd.V_nil _ _ _ _ _ | exact Kd.Q_nil _ _ _ _ _ | exact Kd.S_nil _ _ _ _ _, by repeat (first | (with_reducible first | exact HB.out | apply below_alloc | apply pw_below_drewN | apply below_drew1 | refine below_set ?_ GE1002.out | refine below_set ?_ GE1003.out) | exact HB.out)⟩
            · rw [if_neg c8] at H
              have c8b0 : decide ((rd l1 x10_1) < 0) = false := decide_eq_false c8
              clear c8
              by_cases c11 : (rd l1 x10_1) ≥ (x1003006_1.length : Int)
              · rw [if_pos c11] at H
                have c11b0 : decide ((x1003006_1.length : Int) ≤ (rd l1 x10_1)) = true := decide_eq_true c11
                clear c11
                simp only [Option.some.injEq, Prod.mk.injEq] at H
                obtain ⟨rfl, rfl, rfl, rfl, rfl, rfl, rfl, rfl⟩ := H
                have p1004 : 0 ≤ (x10_1 : Int) := of_decide_eq_true (by first | (with_reducible assumption) | assumption)
                have q1004 : x10_1 < (l1.length : Int) := of_decide_eq_true (by first | (with_reducible assumption) | assumption)
                obtain ⟨ad1004, e1004, hx1004_0⟩ := Kd.at_int HR1.out x10_1 p1004 q1004
                cases e1004
                replace hx1004_0 := (HB.out.cell (World.block_lt_of_cell? w _ hx1004_0)).trans hx1004_0
                replace p1004 := eq_true p1004
                replace q1004 := eq_true q1004
                have hnb12 := NB1002_1003.out
                have hnc12 := NB1003_1002.out
                have hcz13_0 : wr.cell? ⟨gb1002, 0, none⟩ = some (.int .u8 x1003000_1) := (blk_cell BK1002.out 0).trans rfl
                have hcz13_1 : wr.cell? ⟨gb1002, 1, none⟩ = some (.int .i64 x1003001_1) := (blk_cell BK1002.out 1).trans rfl
                have hcz13_2 : wr.cell? ⟨gb1002, 2, none⟩ = some (.int .i64 x1003002_1) := (blk_cell BK1002.out 2).trans rfl
                have hcz13_3 : wr.cell? ⟨gb1002, 3, none⟩ = some (.int .i64 x1003003_1) := (blk_cell BK1002.out 3).trans rfl
                have hcz13_4 : wr.cell? ⟨gb1002, 4, none⟩ = some (.int .i64 x1003004_1) := (blk_cell BK1002.out 4).trans rfl
                have hcz13_5 : wr.cell? ⟨gb1002, 5, none⟩ = some (.int .i64 x1003005_1) := (blk_cell BK1002.out 5).trans rfl
                have hcz13_6 : wr.cell? ⟨gb1002, 6, none⟩ = some (u1003006) := (blk_cell BK1002.out 6).trans rfl
                have hfz13_0 := blk_frozen BK1002.out 0
                have hfz13_1 := blk_frozen BK1002.out 1
                have hfz13_2 := blk_frozen BK1002.out 2
                have hfz13_3 := blk_frozen BK1002.out 3
                have hfz13_4 := blk_frozen BK1002.out 4
                have hfz13_5 := blk_frozen BK1002.out 5
                have hfz13_6 := blk_frozen BK1002.out 6
                obtain ⟨Ao14, co14, eo14⟩ := Kd.V_slice HO_1003006.out
                subst eo14
                have hcz15_0 : wr.cell? ⟨gb1003, 0, none⟩ = some (.int .u8 x1004000_1) := (blk_cell BK1003.out 0).trans rfl
                have hcz15_1 : wr.cell? ⟨gb1003, 1, none⟩ = some (.int .i64 x1004001_1) := (blk_cell BK1003.out 1).trans rfl
                have hcz15_2 : wr.cell? ⟨gb1003, 2, none⟩ = some (.int .i64 x1004002_1) := (blk_cell BK1003.out 2).trans rfl
                have hcz15_3 : wr.cell? ⟨gb1003, 3, none⟩ = some (.int .i64 x1004003_1) := (blk_cell BK1003.out 3).trans rfl
                have hcz15_4 : wr.cell? ⟨gb1003, 4, none⟩ = some (.int .i64 x1004004_1) := (blk_cell BK1003.out 4).trans rfl
                have hcz15_5 : wr.cell? ⟨gb1003, 5, none⟩ = some (.int .i64 x1004005_1) := (blk_cell BK1003.out 5).trans rfl
                have hcz15_6 : wr.cell? ⟨gb1003, 6, none⟩ = some (.slice none 0 0) := (blk_cell BK1003.out 6).trans rfl
                have hfz15_0 := blk_frozen BK1003.out 0
                have hfz15_1 := blk_frozen BK1003.out 1
                have hfz15_2 := blk_frozen BK1003.out 2
                have hfz15_3 := blk_frozen BK1003.out 3
                have hfz15_4 := blk_frozen BK1003.out 4
                have hfz15_5 := blk_frozen BK1003.out 5
                have hfz15_6 := blk_frozen BK1003.out 6
                go_wp2
                refine bodyPost_ret (results_ct rfl _ _ gb1003 26 #[.int .u8 0, .int .i64 0, .int .i64 0, .int .i64 0, .int .i64 0, .int .i64 0, .slice none 0 0] (0, 0) _ rfl (by (with_reducible repeat (first | refine blk_drewN ?_ _ | refine blk_drew ?_ | refine blk_alloc ?_ _)); refine blk_put (cs := #[.int .u8 0, .int .i64 0, .int .i64 0, .int .i64 0, .int .i64 0, .int .i64 0, .slice none 0 0]) ?_ 6 _ rfl; (with_reducible repeat (first | refine blk_drewN ?_ _ | refine blk_drew ?_ | refine blk_alloc ?_ _)); refine blk_put (cs := #[.int .u8 0, .int .i64 0, .int .i64 0, .int .i64 0, .int .i64 0, .int .i64 x1004005_1, .slice none 0 0]) ?_ 5 _ rfl; (with_reducible repeat (first | refine blk_drewN ?_ _ | refine blk_drew ?_ | refine blk_alloc ?_ _)); refine blk_put (cs := #[.int .u8 0, .int .i64 0, .int .i64 0, .int .i64 0, .int .i64 x1004004_1, .int .i64 x1004005_1, .slice none 0 0]) ?_ 4 _ rfl; (with_reducible repeat (first | refine blk_drewN ?_ _ | refine blk_drew ?_ | refine blk_alloc ?_ _)); refine blk_put (cs := #[.int .u8 0, .int .i64 0, .int .i64 0, .int .i64 x1004003_1, .int .i64 x1004004_1, .int .i64 x1004005_1, .slice none 0 0]) ?_ 3 _ rfl; (with_reducible repeat (first | refine blk_drewN ?_ _ | refine blk_drew ?_ | refine blk_alloc ?_ _)); refine blk_put (cs := #[.int .u8 0, .int .i64 0, .int .i64 x1004002_1, .int .i64 x1004003_1, .int .i64 x1004004_1, .int .i64 x1004005_1, .slice none 0 0]) ?_ 2 _ rfl; (with_reducible repeat (first | refine blk_drewN ?_ _ | refine blk_drew ?_ | refine blk_alloc ?_ _)); refine blk_put (cs := #[.int .u8 0, .int .i64 x1004001_1, .int .i64 x1004002_1, .int .i64 x1004003_1, .int .i64 x1004004_1, .int .i64 x1004005_1, .slice none 0 0]) ?_ 1 _ rfl; (with_reducible repeat (first | refine blk_drewN ?_ _ | refine blk_drew ?_ | refine blk_alloc ?_ _)); refine blk_put (cs := #[.int .u8 x1004000_1, .int .i64 x1004001_1, .int .i64 x1004002_1, .int .i64 x1004003_1, .int .i64 x1004004_1, .int .i64 x1004005_1, .slice none 0 0]) ?_ 0 _ rfl; (with_reducible repeat (first | refine blk_drewN ?_ _ | refine blk_drew ?_ | refine blk_alloc ?_ _)); exact BK1003.out) Try.underlying26 rfl (by kernel_rfl)) rfl ?_
                exact ⟨_, by first | rfl | (simp [errW_none, errW_some] <;> rfl) | (simp [*, errW_none, errW_some] <;> rfl), by first | exact Kd.R_nil _ _ _ _ _ | exact Kd.N_nil _ _ _ _ _ | exact Kd.V_nil _ _ _ _ _ | exact Kd.Q_nil _ _ _ _ _ | exact Kd.S_nil _ _ _ _ _, by repeat (first | (with_reducible first | exact HB.out | apply below_alloc | apply pw_below_drewN | apply below_drew1 | refine below_set ?_ GE1002.out | refine below_set ?_ GE1003.out) | exact HB.out)⟩
              · rw [if_neg c11] at H
                have c11b0 : decide ((x1003006_1.length : Int) ≤ (rd l1 x10_1)) = false := decide_eq_false c11
                clear c11
                by_cases c16 : 0 ≤ (rd l1 x10_1)
                · rw [if_pos c16] at H
                  have c16b0 : decide (0 ≤ (rd l1 x10_1)) = true := decide_eq_true c16
                  clear c16
                  by_cases c17 : (rd l1 x10_1) < (x1003006_1.length : Int)
                  · rw [if_pos c17] at H
                    have c17b0 : decide ((rd l1 x10_1) < (x1003006_1.length : Int)) = true := decide_eq_true c17
                    clear c17
                    have H' := Aside0.mk H
                    clear H
                    have p1004 : 0 ≤ (x10_1 : Int) := of_decide_eq_true (by first | (with_reducible assumption) | assumption)
                    have q1004 : x10_1 < (l1.length : Int) := of_decide_eq_true (by first | (with_reducible assumption) | assumption)
                    obtain ⟨ad1004, e1004, hx1004_0⟩ := Kd.at_int HR1.out x10_1 p1004 q1004
                    cases e1004
                    replace hx1004_0 := (HB.out.cell (World.block_lt_of_cell? w _ hx1004_0)).trans hx1004_0
                    replace p1004 := eq_true p1004
                    replace q1004 := eq_true q1004
                    have hnb18 := NB1002_1003.out
                    have hnc18 := NB1003_1002.out
                    have hcz19_0 : wr.cell? ⟨gb1002, 0, none⟩ = some (.int .u8 x1003000_1) := (blk_cell BK1002.out 0).trans rfl
                    have hcz19_1 : wr.cell? ⟨gb1002, 1, none⟩ = some (.int .i64 x1003001_1) := (blk_cell BK1002.out 1).trans rfl
                    have hcz19_2 : wr.cell? ⟨gb1002, 2, none⟩ = some (.int .i64 x1003002_1) := (blk_cell BK1002.out 2).trans rfl
                    have hcz19_3 : wr.cell? ⟨gb1002, 3, none⟩ = some (.int .i64 x1003003_1) := (blk_cell BK1002.out 3).trans rfl
                    have hcz19_4 : wr.cell? ⟨gb1002, 4, none⟩ = some (.int .i64 x1003004_1) := (blk_cell BK1002.out 4).trans rfl
                    have hcz19_5 : wr.cell? ⟨gb1002, 5, none⟩ = some (.int .i64 x1003005_1) := (blk_cell BK1002.out 5).trans rfl
                    have hcz19_6 : wr.cell? ⟨gb1002, 6, none⟩ = some (u1003006) := (blk_cell BK1002.out 6).trans rfl
                    have hfz19_0 := blk_frozen BK1002.out 0
                    have hfz19_1 := blk_frozen BK1002.out 1
                    have hfz19_2 := blk_frozen BK1002.out 2
                    have hfz19_3 := blk_frozen BK1002.out 3
                    have hfz19_4 := blk_frozen BK1002.out 4
                    have hfz19_5 := blk_frozen BK1002.out 5
                    have hfz19_6 := blk_frozen BK1002.out 6
                    obtain ⟨Ao20, co20, eo20⟩ := Kd.V_slice HO_1003006.out
                    subst eo20
                    have p1005 : 0 ≤ ((rd l1 x10_1) : Int) := of_decide_eq_true (by first | (with_reducible assumption) | assumption)
                    have q1005 : (rd l1 x10_1) < (x1003006_1.length : Int) := of_decide_eq_true (by first | (with_reducible assumption) | assumption)
                    obtain ⟨ad1005, A1005_6, c1005_6, e1005, hx1005_0, hx1005_1, hx1005_2, hx1005_3, hx1005_4, hx1005_5, hx1005_6, hl1005_6, hi1005_6⟩ := at_T26 (Kd.V_reads' HO_1003006.out).2.2 (rd l1 x10_1) p1005 q1005
                    cases e1005
                    obtain ⟨ce1005, hce1005, hMe1005, hcc1005⟩ := Kd.V_get HO_1003006.out z26 (rd l1 x10_1) p1005 (by first | exact q1005 | exact of_decide_eq_true (by first | (with_reducible assumption) | assumption) | (have e_ := (Kd.V_reads' HO_1003006.out).1; omega))
                    obtain ⟨ua1005_6, uc1005_6, rfl, ul1005_6, ge1005_6⟩ := k26_openF hMe1005
                    have hv1005_6 := hcc1005 6 _ rfl
                    rw [add_field _ _ 6 (by omega)] at hv1005_6
                    replace hv1005_6 := Option.some.inj (hv1005_6.symm.trans hx1005_6)
                    injection hv1005_6 with hva_ hvn_ hvc_
                    rw [hva_] at ge1005_6
                    rw [hvc_] at ul1005_6
                    have HL1005_6 := Aside0.mk (show Kd.V k26 26 _ w.heap.size _ _ ((rd_T26 x1003006_1 (rd l1 x10_1)).f3) from Kd.V_mk ul1005_6 ge1005_6)
                    clear hva_ hvn_ hvc_ ge1005_6 ul1005_6
                    clear hcc1005 hce1005
                    have HR1005_6 := Aside0.mk hi1005_6
                    have HC1005_6 := Aside0.mk hl1005_6
                    clear hi1005_6 hl1005_6
                    replace p1005 := eq_true p1005
                    replace q1005 := eq_true q1005
                    go_wp2
                    go_roundg k1
                    case measure => have := HK1.out; omega
                    case rel => exact ⟨(wrap64 (x10_1 + 1)), ((rd_T26 x1003006_1 (rd l1 x10_1)).f0), ((rd_T26 x1003006_1 (rd l1 x10_1)).f1.f0), ((rd_T26 x1003006_1 (rd l1 x10_1)).f1.f1), ((rd_T26 x1003006_1 (rd l1 x10_1)).f1.f2), ((rd_T26 x1003006_1 (rd l1 x10_1)).f1.f3), ((rd_T26 x1003006_1 (rd l1 x10_1)).f2), ((rd_T26 x1003006_1 (rd l1 x10_1)).f3), (x1004000_1), (x1004001_1), (x1004002_1), (x1004003_1), (x1004004_1), (x1004005_1), (.slice A1005_6 ((rd_T26 x1003006_1 (rd l1 x10_1)).f3).length c1005_6), (by first | rfl | (simp; done) | (simp [*]; done)), H', ⟨by have := HK1.out; omega⟩, ⟨by (with_reducible repeat (first | apply Kd.V_alloc | apply Kd.V_drewN | apply Kd.V_drew)); exact Kd.V_mono (Kd.V_far (p := ⟨gb1002, 6, none⟩) (Kd.V_far (p := ⟨gb1002, 5, none⟩) (Kd.V_far (p := ⟨gb1002, 4, none⟩) (Kd.V_far (p := ⟨gb1002, 3, none⟩) (Kd.V_far (p := ⟨gb1002, 2, none⟩) (Kd.V_far (p := ⟨gb1002, 1, none⟩) (Kd.V_far (p := ⟨gb1002, 0, none⟩) (Kd.V_mono HL1005_6.out (fun k_ hk => (⟨hk, hk.2.1⟩ : _ ∧ k_ ≠ gb1002))) (fun _ hk => hk.2) (.int .u8 ((rd_T26 x1003006_1 (rd l1 x10_1)).f0))) (fun _ hk => hk.2) (.int .i64 ((rd_T26 x1003006_1 (rd l1 x10_1)).f1.f0))) (fun _ hk => hk.2) (.int .i64 ((rd_T26 x1003006_1 (rd l1 x10_1)).f1.f1))) (fun _ hk => hk.2) (.int .i64 ((rd_T26 x1003006_1 (rd l1 x10_1)).f1.f2))) (fun _ hk => hk.2) (.int .i64 ((rd_T26 x1003006_1 (rd l1 x10_1)).f1.f3))) (fun _ hk => hk.2) (.int .i64 ((rd_T26 x1003006_1 (rd l1 x10_1)).f2))) (fun _ hk => hk.2) (.slice A1005_6 ((rd_T26 x1003006_1 (rd l1 x10_1)).f3).length c1005_6)) (fun _ hk => ⟨hk.1.1, ⟨hk.1.2.1, hk.1.2.2⟩⟩)⟩, ⟨by (with_reducible repeat (first | refine blk_drewN ?_ _ | refine blk_drew ?_ | refine blk_alloc ?_ _)); refine blk_put (cs := #[.int .u8 ((rd_T26 x1003006_1 (rd l1 x10_1)).f0), .int .i64 ((rd_T26 x1003006_1 (rd l1 x10_1)).f1.f0), .int .i64 ((rd_T26 x1003006_1 (rd l1 x10_1)).f1.f1), .int .i64 ((rd_T26 x1003006_1 (rd l1 x10_1)).f1.f2), .int .i64 ((rd_T26 x1003006_1 (rd l1 x10_1)).f1.f3), .int .i64 ((rd_T26 x1003006_1 (rd l1 x10_1)).f2), .slice (some ad1005) x1003006_1.length co20]) ?_ 6 _ rfl; (with_reducible repeat (first | refine blk_drewN ?_ _ | refine blk_drew ?_ | refine blk_alloc ?_ _)); refine blk_put (cs := #[.int .u8 ((rd_T26 x1003006_1 (rd l1 x10_1)).f0), .int .i64 ((rd_T26 x1003006_1 (rd l1 x10_1)).f1.f0), .int .i64 ((rd_T26 x1003006_1 (rd l1 x10_1)).f1.f1), .int .i64 ((rd_T26 x1003006_1 (rd l1 x10_1)).f1.f2), .int .i64 ((rd_T26 x1003006_1 (rd l1 x10_1)).f1.f3), .int .i64 x1003005_1, .slice (some ad1005) x1003006_1.length co20]) ?_ 5 _ rfl; (with_reducible repeat (first | refine blk_drewN ?_ _ | refine blk_drew ?_ | refine blk_alloc ?_ _)); refine blk_put (cs := #[.int .u8 ((rd_T26 x1003006_1 (rd l1 x10_1)).f0), .int .i64 ((rd_T26 x1003006_1 (rd l1 x10_1)).f1.f0), .int .i64 ((rd_T26 x1003006_1 (rd l1 x10_1)).f1.f1), .int .i64 ((rd_T26 x1003006_1 (rd l1 x10_1)).f1.f2), .int .i64 x1003004_1, .int .i64 x1003005_1, .slice (some ad1005) x1003006_1.length co20]) ?_ 4 _ rfl; (with_reducible repeat (first | refine blk_drewN ?_ _ | refine blk_drew ?_ | refine blk_alloc ?_ _)); refine blk_put (cs := #[.int .u8 ((rd_T26 x1003006_1 (rd l1 x10_1)).f0), .int .i64 ((rd_T26 x1003006_1 (rd l1 x10_1)).f1.f0), .int .i64 ((rd_T26 x1003006_1 (rd l1 x10_1)).f1.f1), .int .i64 x1003003_1, .int .i64 x1003004_1, .int .i64 x1003005_1, .slice (some ad1005) x1003006_1.length co20]) ?_ 3 _ rfl; (with_reducible repeat (first | refine blk_drewN ?_ _ | refine blk_drew ?_ | refine blk_alloc ?_ _)); refine blk_put (cs := #[.int .u8 ((rd_T26 x1003006_1 (rd l1 x10_1)).f0), .int .i64 ((rd_T26 x1003006_1 (rd l1 x10_1)).f1.f0), .int .i64 x1003002_1, .int .i64 x1003003_1, .int .i64 x1003004_1, .int .i64 x1003005_1, .slice (some ad1005) x1003006_1.length co20]) ?_ 2 _ rfl; (with_reducible repeat (first | refine blk_drewN ?_ _ | refine blk_drew ?_ | refine blk_alloc ?_ _)); refine blk_put (cs := #[.int .u8 ((rd_T26 x1003006_1 (rd l1 x10_1)).f0), .int .i64 x1003001_1, .int .i64 x1003002_1, .int .i64 x1003003_1, .int .i64 x1003004_1, .int .i64 x1003005_1, .slice (some ad1005) x1003006_1.length co20]) ?_ 1 _ rfl; (with_reducible repeat (first | refine blk_drewN ?_ _ | refine blk_drew ?_ | refine blk_alloc ?_ _)); refine blk_put (cs := #[.int .u8 x1003000_1, .int .i64 x1003001_1, .int .i64 x1003002_1, .int .i64 x1003003_1, .int .i64 x1003004_1, .int .i64 x1003005_1, .slice (some ad1005) x1003006_1.length co20]) ?_ 0 _ rfl; (with_reducible repeat (first | refine blk_drewN ?_ _ | refine blk_drew ?_ | refine blk_alloc ?_ _)); exact BK1002.out⟩, ⟨by (with_reducible repeat (first | refine blk_drewN ?_ _ | refine blk_drew ?_ | refine blk_alloc ?_ _)); refine blk_far ?_ NB1003_1002.out _; (with_reducible repeat (first | refine blk_drewN ?_ _ | refine blk_drew ?_ | refine blk_alloc ?_ _)); refine blk_far ?_ NB1003_1002.out _; (with_reducible repeat (first | refine blk_drewN ?_ _ | refine blk_drew ?_ | refine blk_alloc ?_ _)); refine blk_far ?_ NB1003_1002.out _; (with_reducible repeat (first | refine blk_drewN ?_ _ | refine blk_drew ?_ | refine blk_alloc ?_ _)); refine blk_far ?_ NB1003_1002.out _; (with_reducible repeat (first | refine blk_drewN ?_ _ | refine blk_drew ?_ | refine blk_alloc ?_ _)); refine blk_far ?_ NB1003_1002.out _; (with_reducible repeat (first | refine blk_drewN ?_ _ | refine blk_drew ?_ | refine blk_alloc ?_ _)); refine blk_far ?_ NB1003_1002.out _; (with_reducible repeat (first | refine blk_drewN ?_ _ | refine blk_drew ?_ | refine blk_alloc ?_ _)); refine blk_far ?_ NB1003_1002.out _; (with_reducible repeat (first | refine blk_drewN ?_ _ | refine blk_drew ?_ | refine blk_alloc ?_ _)); exact BK1003.out⟩, ⟨by repeat (first | (with_reducible first | exact HB.out | apply below_alloc | apply pw_below_drewN | apply below_drew1 | refine below_set ?_ GE1002.out | refine below_set ?_ GE1003.out) | exact HB.out)⟩⟩
                  · rw [if_neg c17] at H
                    exact absurd H (by simp)
                · rw [if_neg c16] at H
                  exact absurd H (by simp)
          · rw [if_neg c7] at H
            exact absurd H (by simp)
        · rw [if_neg c6] at H
          exact absurd H (by simp)
      · rw [if_neg c5] at H
        have c5b0 : decide (x10_1 < (l1.length : Int)) = false := decide_eq_false c5
        clear c5
        replace H := Option.bind_eq_some_iff.mp H
        obtain ⟨⟨t1006, t1007, t1008, t1009, t1010, t1011, t1012⟩, A210, H⟩ := H
        replace H : (some (t1006, t1007, t1008, t1009, t1010, t1011, t1012, true)) = some (r1, r2, r3, r4, r5, r6, r7, r8) := H
        have A21 := Aside0.mk A210
        clear A210
        simp only [Option.some.injEq, Prod.mk.injEq] at H
        obtain ⟨rfl, rfl, rfl, rfl, rfl, rfl, rfl, rfl⟩ := H
        have hnb22 := NB1002_1003.out
        have hnc22 := NB1003_1002.out
        have hcz23_0 : wr.cell? ⟨gb1002, 0, none⟩ = some (.int .u8 x1003000_1) := (blk_cell BK1002.out 0).trans rfl
        have hcz23_1 : wr.cell? ⟨gb1002, 1, none⟩ = some (.int .i64 x1003001_1) := (blk_cell BK1002.out 1).trans rfl
        have hcz23_2 : wr.cell? ⟨gb1002, 2, none⟩ = some (.int .i64 x1003002_1) := (blk_cell BK1002.out 2).trans rfl
        have hcz23_3 : wr.cell? ⟨gb1002, 3, none⟩ = some (.int .i64 x1003003_1) := (blk_cell BK1002.out 3).trans rfl
        have hcz23_4 : wr.cell? ⟨gb1002, 4, none⟩ = some (.int .i64 x1003004_1) := (blk_cell BK1002.out 4).trans rfl
        have hcz23_5 : wr.cell? ⟨gb1002, 5, none⟩ = some (.int .i64 x1003005_1) := (blk_cell BK1002.out 5).trans rfl
        have hcz23_6 : wr.cell? ⟨gb1002, 6, none⟩ = some (u1003006) := (blk_cell BK1002.out 6).trans rfl
        have hfz23_0 := blk_frozen BK1002.out 0
        have hfz23_1 := blk_frozen BK1002.out 1
        have hfz23_2 := blk_frozen BK1002.out 2
        have hfz23_3 := blk_frozen BK1002.out 3
        have hfz23_4 := blk_frozen BK1002.out 4
        have hfz23_5 := blk_frozen BK1002.out 5
        have hfz23_6 := blk_frozen BK1002.out 6
        obtain ⟨Ao24, co24, eo24⟩ := Kd.V_slice HO_1003006.out
        subst eo24
        go_wp2_with (first | ((with_reducible refine gate_callee (f := 151) rfl ?_); refine goesL_ (some 31) rfl rfl Try.func151 (by kernel_rfl) rfl #[.agg #[.int .u8 x1003000_1, .int .i64 x1003001_1, .int .i64 x1003002_1, .int .i64 x1003003_1, .int .i64 x1003004_1, .int .i64 x1003005_1, .slice Ao24 x1003006_1.length co24]] rfl (by (try simp only [List.map_toArray, List.map_cons, List.map_nil]); first | done | rfl | (simp only [List.length_drop, List.length_take]; rfl)) ?_; (with_reducible refine (cell_clone.calls x1003000_1 x1003001_1 x1003002_1 x1003003_1 x1003004_1 x1003005_1 (fun k_ => ((P0_6_ k_ ∨ w.heap.size ≤ k_) ∧ (k_ ≠ gb1002 ∧ k_ ≠ gb1003))) _ _ x1003006_1 t1006 t1007 t1008 t1009 t1010 t1011 t1012 _ ?side1 A21.out).mono ?_); (case side1 => exact HO_1003006.out); rintro e w25 ⟨v1013, rfl, ho0, hb⟩; refine ⟨_, rfl, ?_⟩; have n0_ := Aside0.mk (Kd.V_elder' (by (with_reducible repeat (first | apply Kd.V_alloc | apply Kd.V_drewN | apply Kd.V_drew)); exact HO_1003006.out) (Kd.N_base ho0) hb); have n1_ := Aside0.mk (Kd.N_lower (Kd.N_mono (ok' := fun k_ => (P0_6_ k_ ∨ w.heap.size ≤ k_) ∧ k_ ≠ gb1002 ∧ k_ ≠ gb1003) ho0 (fun k_ hk_ => ⟨Or.elim hk_ (fun hs_ => hs_.1) (fun hn_ => (.inr (Nat.le_trans (below_size (by repeat (first | (with_reducible first | exact HB.out | apply below_alloc | apply pw_below_drewN | apply below_drew1 | refine below_set ?_ GE1002.out | refine below_set ?_ GE1003.out) | exact HB.out))) hn_))), Or.elim hk_ (fun hs_ => hs_.2.1) (fun hn_ => (Kd.freshB (g := gb1002) (o := .cells #[.int .u8 x1003000_1, .int .i64 x1003001_1, .int .i64 x1003002_1, .int .i64 x1003003_1, .int .i64 x1003004_1, .int .i64 x1003005_1, .slice Ao24 x1003006_1.length co24] 26 (0, 0)) (by (with_reducible repeat (first | refine blk_drewN ?_ _ | refine blk_drew ?_ | refine blk_alloc ?_ _)); exact BK1002.out) k_ hn_)), Or.elim hk_ (fun hs_ => hs_.2.2) (fun hn_ => (Kd.freshB (g := gb1003) (o := .cells #[.int .u8 x1004000_1, .int .i64 x1004001_1, .int .i64 x1004002_1, .int .i64 x1004003_1, .int .i64 x1004004_1, .int .i64 x1004005_1, .slice none 0 0] 26 (0, 0)) (by (with_reducible repeat (first | refine blk_drewN ?_ _ | refine blk_drew ?_ | refine blk_alloc ?_ _)); exact BK1003.out) k_ hn_))⟩)) (below_size (by repeat (first | (with_reducible first | exact HB.out | apply below_alloc | apply pw_below_drewN | apply below_drew1 | refine below_set ?_ GE1002.out | refine below_set ?_ GE1003.out) | exact HB.out)))); have n2_ := Aside0.mk (blk_below (g := gb1002) (o := .cells #[.int .u8 x1003000_1, .int .i64 x1003001_1, .int .i64 x1003002_1, .int .i64 x1003003_1, .int .i64 x1003004_1, .int .i64 x1003005_1, .slice Ao24 x1003006_1.length co24] 26 (0, 0)) (by (with_reducible repeat (first | refine blk_drewN ?_ _ | refine blk_drew ?_ | refine blk_alloc ?_ _)); exact BK1002.out) hb); have n3_ := Aside0.mk (blk_below (g := gb1003) (o := .cells #[.int .u8 x1004000_1, .int .i64 x1004001_1, .int .i64 x1004002_1, .int .i64 x1004003_1, .int .i64 x1004004_1, .int .i64 x1004005_1, .slice none 0 0] 26 (0, 0)) (by (with_reducible repeat (first | refine blk_drewN ?_ _ | refine blk_drew ?_ | refine blk_alloc ?_ _)); exact BK1003.out) hb); have n4_ := Aside0.mk (below_step (by repeat (first | (with_reducible first | exact HB.out | apply below_alloc | apply pw_below_drewN | apply below_drew1 | refine below_set ?_ GE1002.out | refine below_set ?_ GE1003.out) | exact HB.out)) hb); clear HO_1003006; clear BK1002; clear BK1003; clear HB; have HO_1003006 := n0_; have HO1014 := n1_; have BK1002 := n2_; have BK1003 := n3_; have HB := n4_; clear n0_ n1_ n2_ n3_ n4_; (try clear hb); (try clear hb2); (try clear hk); (try clear hi); (try clear ho0); have hcz26_0 : w25.cell? ⟨gb1003, 0, none⟩ = some (.int .u8 x1004000_1) := (blk_cell BK1003.out 0).trans rfl; have hcz26_1 : w25.cell? ⟨gb1003, 1, none⟩ = some (.int .i64 x1004001_1) := (blk_cell BK1003.out 1).trans rfl; have hcz26_2 : w25.cell? ⟨gb1003, 2, none⟩ = some (.int .i64 x1004002_1) := (blk_cell BK1003.out 2).trans rfl; have hcz26_3 : w25.cell? ⟨gb1003, 3, none⟩ = some (.int .i64 x1004003_1) := (blk_cell BK1003.out 3).trans rfl; have hcz26_4 : w25.cell? ⟨gb1003, 4, none⟩ = some (.int .i64 x1004004_1) := (blk_cell BK1003.out 4).trans rfl; have hcz26_5 : w25.cell? ⟨gb1003, 5, none⟩ = some (.int .i64 x1004005_1) := (blk_cell BK1003.out 5).trans rfl; have hcz26_6 : w25.cell? ⟨gb1003, 6, none⟩ = some (.slice none 0 0) := (blk_cell BK1003.out 6).trans rfl; have hfz26_0 := blk_frozen BK1003.out 0; have hfz26_1 := blk_frozen BK1003.out 1; have hfz26_2 := blk_frozen BK1003.out 2; have hfz26_3 := blk_frozen BK1003.out 3; have hfz26_4 := blk_frozen BK1003.out 4; have hfz26_5 := blk_frozen BK1003.out 5; have hfz26_6 := blk_frozen BK1003.out 6; obtain ⟨Ao27, co27, eo27⟩ := Kd.N_slice HO1014.out; subst eo27))
        refine bodyPost_ret (results_ct rfl _ _ gb1003 26 #[.int .u8 t1006, .int .i64 t1007, .int .i64 t1008, .int .i64 t1009, .int .i64 t1010, .int .i64 t1011, .slice Ao27 t1012.length co27] (0, 0) _ rfl (by (with_reducible repeat (first | refine blk_drewN ?_ _ | refine blk_drew ?_ | refine blk_alloc ?_ _)); refine blk_put (cs := #[.int .u8 t1006, .int .i64 t1007, .int .i64 t1008, .int .i64 t1009, .int .i64 t1010, .int .i64 t1011, .slice none 0 0]) ?_ 6 _ rfl; (with_reducible repeat (first | refine blk_drewN ?_ _ | refine blk_drew ?_ | refine blk_alloc ?_ _)); refine blk_put (cs := #[.int .u8 t1006, .int .i64 t1007, .int .i64 t1008, .int .i64 t1009, .int .i64 t1010, .int .i64 x1004005_1, .slice none 0 0]) ?_ 5 _ rfl; (with_reducible repeat (first | refine blk_drewN ?_ _ | refine blk_drew ?_ | refine blk_alloc ?_ _)); refine blk_put (cs := #[.int .u8 t1006, .int .i64 t1007, .int .i64 t1008, .int .i64 t1009, .int .i64 x1004004_1, .int .i64 x1004005_1, .slice none 0 0]) ?_ 4 _ rfl; (with_reducible repeat (first | refine blk_drewN ?_ _ | refine blk_drew ?_ | refine blk_alloc ?_ _)); refine blk_put (cs := #[.int .u8 t1006, .int .i64 t1007, .int .i64 t1008, .int .i64 x1004003_1, .int .i64 x1004004_1, .int .i64 x1004005_1, .slice none 0 0]) ?_ 3 _ rfl; (with_reducible repeat (first | refine blk_drewN ?_ _ | refine blk_drew ?_ | refine blk_alloc ?_ _)); refine blk_put (cs := #[.int .u8 t1006, .int .i64 t1007, .int .i64 x1004002_1, .int .i64 x1004003_1, .int .i64 x1004004_1, .int .i64 x1004005_1, .slice none 0 0]) ?_ 2 _ rfl; (with_reducible repeat (first | refine blk_drewN ?_ _ | refine blk_drew ?_ | refine blk_alloc ?_ _)); refine blk_put (cs := #[.int .u8 t1006, .int .i64 x1004001_1, .int .i64 x1004002_1, .int .i64 x1004003_1, .int .i64 x1004004_1, .int .i64 x1004005_1, .slice none 0 0]) ?_ 1 _ rfl; (with_reducible repeat (first | refine blk_drewN ?_ _ | refine blk_drew ?_ | refine blk_alloc ?_ _)); refine blk_put (cs := #[.int .u8 x1004000_1, .int .i64 x1004001_1, .int .i64 x1004002_1, .int .i64 x1004003_1, .int .i64 x1004004_1, .int .i64 x1004005_1, .slice none 0 0]) ?_ 0 _ rfl; (with_reducible repeat (first | refine blk_drewN ?_ _ | refine blk_drew ?_ | refine blk_alloc ?_ _)); exact BK1003.out) Try.underlying26 rfl (by kernel_rfl)) rfl ?_
        exact ⟨_, by first | rfl | (simp [errW_none, errW_some] <;> rfl) | (simp [*, errW_none, errW_some] <;> rfl), by (with_reducible repeat (first | apply Kd.N_alloc | apply Kd.N_drewN | apply Kd.N_drew)); exact Kd.N_mono (Kd.N_far (p := ⟨gb1003, 6, none⟩) (Kd.N_far (p := ⟨gb1003, 5, none⟩) (Kd.N_far (p := ⟨gb1003, 4, none⟩) (Kd.N_far (p := ⟨gb1003, 3, none⟩) (Kd.N_far (p := ⟨gb1003, 2, none⟩) (Kd.N_far (p := ⟨gb1003, 1, none⟩) (Kd.N_far (p := ⟨gb1003, 0, none⟩) (Kd.N_mono HO1014.out (fun k_ hk => (⟨hk, hk.2.2⟩ : _ ∧ k_ ≠ gb1003))) (fun _ hk => hk.2) (.int .u8 t1006)) (fun _ hk => hk.2) (.int .i64 t1007)) (fun _ hk => hk.2) (.int .i64 t1008)) (fun _ hk => hk.2) (.int .i64 t1009)) (fun _ hk => hk.2) (.int .i64 t1010)) (fun _ hk => hk.2) (.int .i64 t1011)) (fun _ hk => hk.2) (.slice Ao27 t1012.length co27)) (fun _ hk => hk.1.1), by repeat (first | (with_reducible first | exact HB.out | apply below_alloc | apply pw_below_drewN | apply below_drew1 | refine below_set ?_ GE1002.out | refine below_set ?_ GE1003.out) | exact HB.out)⟩

end Go.Proofs.Ytfdmfgaiblfbhaa.P
/- The layout of slices.Insert at []int in this program, for the library's contract. -/
namespace Go.Proofs.Ytfdmfgaiblfbhaa.P
open Go.Shelf
def ren21 : Ren := ⟨fun f => match f with | 21 => 150 | 27 => 181 | 28 => 182 | 35 => 198 | 39 => 208 | n => n, fun t => match t with | 22 => 41 | n => n, fun g => g⟩
theorem lay21 : Lays2.n21 Try.prog ren21 where
  mixed := by kernel_rfl
  f21 := Try.func150
  f27 := Try.func181
  f28 := Try.func182
  f35 := Try.func198
  f39 := Try.func208
  t0 := Try.underlying0
  a0 := fun w => by kernel_rfl
  z0 := fun w => by kernel_rfl
  v0 := fun w => by kernel_rfl
  t3 := Try.underlying3
  a3 := fun w => by kernel_rfl
  z3 := fun w => by kernel_rfl
  v3 := fun w => by kernel_rfl
  t4 := Try.underlying4
  a4 := fun w => by kernel_rfl
  z4 := fun w => by kernel_rfl
  v4 := fun w => by kernel_rfl
  t22 := Try.underlying41
  a22 := fun w => by kernel_rfl
  z22 := fun w => by kernel_rfl
  v22 := fun w => by kernel_rfl
  i3 := by kernel_rfl
end Go.Proofs.Ytfdmfgaiblfbhaa.P
/- The contract of slices.Insert at []int, of one number ahead of a row of the call's own, by the library's own contract. Condition: at most 1000000 numbers. -/
namespace Go.Proofs.Ytfdmfgaiblfbhaa.P
open Go.RowKit Go.Shelf Go.Proofs.YtfdmfgaiblfbhaaW.PrintWords Go.Proofs.YtfdmfgaiblfbhaaW.PrintLast Go.Proofs.YtfdmfgaiblfbhaaW.PrintMore

theorem zc_size (n : Nat) : (Builtin.zeroCells (Value.int .i64 0).cells n).size = n := by simp [Builtin.zeroCells, Value.cells]
theorem drew_below {w w1 : World} {B : Nat} (h : Below B w.drew w1) : Below B w w1 := ⟨h.os, h.tape.trans rfl, h.output, h.size, h.block⟩
set_option maxHeartbeats 1000000 in
theorem ins150 (w : World) (base : Nat) (hbase : base ≤ w.heap.size) (v : Value) (xs : List Int) (x : Int) (vb vc : Nat) (hs : w.ownsRow base 3 1 v xs.length (encs (Value.int .i64) xs)) (hv : w.heap[vb]? = some (.cells #[.int .i64 x] 3 (0, 0))) (hne : v.ownBlock ≠ some vb) (hlen : xs.length ≤ 1000000) :
    Calls Try.prog 150 #[v, .int .i64 0, .slice (some ⟨vb, 0, none⟩) 1 vc] w fun e w' => ∃ v', e = .returned v' ∧ w'.ownsRow base 3 1 v' (x :: xs).length (encs (Value.int .i64) (x :: xs)) ∧ Below base w w' := by
  have hvs : ∀ j u, [Value.int .i64 x][j]? = some u → w.cell? ⟨vb, 0 + j, none⟩ = some u := by
    intro j u hj
    cases j with
    | zero => rw [blk_cell hv 0]; exact hj
    | succ j => simp at hj
  have h1v : ∀ u ∈ [Value.int .i64 x], u.oneCell' = true := by simp [Value.oneCell']
  have h1c : ∀ u ∈ encs (Value.int .i64) xs, u.oneCell' = true := by
    intro u hu
    obtain ⟨i, _, rfl⟩ := List.mem_map.1 hu
    rfl
  obtain ⟨hl, hcase⟩ := hs
  rcases hcase with ⟨rfl, h0⟩ | ⟨g, cap, cur, rfl, hbg, hh, hnc, hcm, hcs, htk⟩
  · obtain rfl : xs = [] := List.eq_nil_of_length_eq_zero h0
    refine (Any2.slices_Insert_int_end_grow lay21 none 0 0 vb 0 1 vc [] [.int .i64 x] w (by omega) (by omega) (by omega) (by omega) rfl rfl (fun _ => rfl) (fun a h => by cases h) hvs h1v).mono ?_
    rintro e w' ⟨rfl, rfl⟩
    have hg := grownCap_ge w (0 + 1) 0 3
    have hg2 := grownCap_le_maxLen w (0 + 1) 0 3 (by unfold maxLen; omega)
    refine ⟨_, rfl, ⟨rfl, .inr ⟨w.heap.size, _, _, rfl, hbase, heap_alloc_new w.drew _, hg, hg2, ?_, ?_⟩⟩, drew_below ((Below.refl base w.drew).alloc hbase _)⟩
    · rw [Array.size_append, zc_size]
      show 1 + (grownCap w (0 + 1) 0 3 - (0 + 1)) = grownCap w (0 + 1) 0 3 * 1
      omega
    · simp [encs]
  · have hcl : (encs (Value.int .i64) xs).length = xs.length := encs_length xs
    have hlt := blk_lt hh
    have hgv : vb ≠ g := fun e => hne (by rw [e]; rfl)
    have hcells : ∀ j u, (encs (Value.int .i64) xs)[j]? = some u → w.cell? ⟨g, 0 + j, none⟩ = some u := by
      intro j u hj
      rw [blk_cell hh, Nat.zero_add, ← Array.getElem?_toList]
      rw [← htk, Nat.mul_one, List.getElem?_take] at hj
      split at hj
      · exact hj
      · cases hj
    have hsp : ∀ j, j < cap → (w.cell? ⟨g, 0 + j, none⟩).isSome = true := by
      intro j hj
      rw [blk_cell hh, Nat.zero_add, Array.getElem?_eq_getElem (by omega)]
      rfl
    have hfz : ∀ j, w.frozen? ⟨g, 0 + j, none⟩ = false := fun j => blk_frozen hh _
    by_cases h0 : xs.length = 0
    · obtain rfl : xs = [] := List.eq_nil_of_length_eq_zero h0
      by_cases hr : 0 + 1 ≤ cap
      · refine (Any2.slices_Insert_int_end_room lay21 g 0 0 cap vb 0 1 vc [.int .i64 x] w (by omega) hr (by unfold maxLen at hcm; omega) rfl (fun j hj => by rw [Nat.add_assoc]; exact hsp (0 + j) (by omega)) (fun j _ => by rw [Nat.add_assoc]; exact hfz (0 + j)) hvs h1v).mono ?_
        rintro e w' ⟨rfl, rfl⟩
        obtain ⟨cur', h3, h4, h5⟩ := setCells_row [Value.int .i64 x] (0 + 0) w cur hh (by simp; omega)
        obtain ⟨_, hgr⟩ := box_cells hh (show (0 + 0) + [Value.int .i64 x].length ≤ cur.size by simp; omega) (cs' := cur') h5.symm
        refine ⟨_, rfl, ⟨rfl, .inr ⟨g, cap, cur', rfl, hbg, h3, hr, hcm, by rw [h4, hcs], ?_⟩⟩, grown_below (Below.refl base w) hgr hbg hbase⟩
        rw [h5]
        simp [encs]
      · refine (Any2.slices_Insert_int_end_grow lay21 (some ⟨g, 0, none⟩) 0 cap vb 0 1 vc [] [.int .i64 x] w (by omega) (by omega) (by omega) (by omega) rfl rfl (fun h => by cases h) (fun a h j u hj => by simp at hj) hvs h1v).mono ?_
        rintro e w' ⟨rfl, rfl⟩
        have hg := grownCap_ge w (0 + 1) cap 3
        have hg2 := grownCap_le_maxLen w (0 + 1) cap 3 (by unfold maxLen; omega)
        refine ⟨_, rfl, ⟨rfl, .inr ⟨w.heap.size, _, _, rfl, hbase, heap_alloc_new w.drew _, hg, hg2, ?_, ?_⟩⟩, drew_below ((Below.refl base w.drew).alloc hbase _)⟩
        · rw [Array.size_append, zc_size]
          show 1 + (grownCap w (0 + 1) cap 3 - (0 + 1)) = grownCap w (0 + 1) cap 3 * 1
          omega
        · simp [encs]
    · by_cases hr : xs.length + 1 ≤ cap
      · refine (Any2.slices_Insert_int_shift lay21 g 0 xs.length cap 0 vb 0 1 vc (encs (Value.int .i64) xs) [.int .i64 x] w (by omega) (by omega) hr (by unfold maxLen at hcm; omega) hgv hcl rfl hcells (fun j hj => hsp j (by omega)) (fun j _ => hfz j) hvs h1c h1v
          3 3 1 cap (by simp [World.shape?, hv]) (by simp [World.shape?, hh, hcs]) (by omega) (blk_frozen hv 0) (blk_frozen hv 1)).mono ?_
        rintro e w' ⟨rfl, rfl⟩
        have hh' : w.drew.heap[g]? = some (.cells cur 3 (0, 0)) := hh
        have e1 : 0 + (0 + 1) + ((encs (Value.int .i64) xs).drop 0).length ≤ cur.size := by rw [List.drop_zero, hcl]; omega
        obtain ⟨c1, h3, h4, h5⟩ := setCells_row ((encs (Value.int .i64) xs).drop 0) (0 + (0 + 1)) w.drew cur hh' e1
        obtain ⟨_, hgr1⟩ := box_cells hh' e1 (cs' := c1) h5.symm
        have e2 : (0 + 0) + [Value.int .i64 x].length ≤ c1.size := by simp; omega
        obtain ⟨c2, h6, h7, h8⟩ := setCells_row [Value.int .i64 x] (0 + 0) _ c1 h3 e2
        obtain ⟨_, hgr2⟩ := box_cells h3 e2 (cs' := c2) h8.symm
        refine ⟨_, rfl, ⟨by rw [encs_length, Nat.mul_one], .inr ⟨g, cap, c2, rfl, hbg, h6, hr, hcm, by rw [h7, h4, hcs], ?_⟩⟩, drew_below (grown_below (grown_below (Below.refl base w.drew) hgr1 hbg hbase) hgr2 hbg (Nat.le_trans hbase hgr1.size))⟩
        rw [h8, h5]
        have hc1 : cur.toList.length = cap := by rw [Array.length_toList]; omega
        simp only [List.drop_zero, Nat.zero_add, List.take_zero, List.nil_append, List.length_singleton, List.length_cons, List.length_nil]
        have ht : (cur.toList.take 1).length = 1 := by rw [List.length_take]; omega
        rw [List.append_assoc, List.drop_left' ht, Nat.mul_one]
        show (Value.int .i64 x :: (encs (Value.int .i64) xs ++ cur.toList.drop (1 + (encs (Value.int .i64) xs).length))).take (xs.length + 1) = encs (Value.int .i64) (x :: xs)
        rw [List.take_succ_cons, List.take_append_of_le_length (by omega), List.take_of_length_le (by omega)]
        rfl
      · refine (Any2.slices_Insert_int_grow lay21 g 0 xs.length cap 0 vb 0 1 vc (encs (Value.int .i64) xs) [.int .i64 x] w (by omega) (by omega) hnc (by omega) (by omega) hcl rfl hcells hvs h1c h1v).mono ?_
        rintro e w' ⟨rfl, rfl⟩
        have hg := grownCap_ge w (xs.length + 1) cap 3
        have hg2 := grownCap_le_maxLen w (xs.length + 1) cap 3 (by unfold maxLen; omega)
        have hh0 := heap_alloc_new w (.cells (((encs (Value.int .i64) xs).take 0).toArray ++ Builtin.zeroCells (Value.int .i64 0).cells (xs.length + 1 - 0) ++ Builtin.zeroCells (Value.int .i64 0).cells (grownCap w (xs.length + 1) cap (ren21.t 3) - (xs.length + 1))) (ren21.t 3))
        generalize hcur : ((((encs (Value.int .i64) xs).take 0).toArray ++ Builtin.zeroCells (Value.int .i64 0).cells (xs.length + 1 - 0) ++ Builtin.zeroCells (Value.int .i64 0).cells (grownCap w (xs.length + 1) cap (ren21.t 3) - (xs.length + 1)))) = cur0 at hh0 ⊢
        have hsz0 : cur0.size = grownCap w (xs.length + 1) cap 3 := by
          rw [← hcur, Array.size_append, Array.size_append, zc_size, zc_size]
          show 0 + (xs.length + 1 - 0) + (grownCap w (xs.length + 1) cap 3 - (xs.length + 1)) = _
          omega
        have hal : Below base w (w.alloc (.cells cur0 (ren21.t 3))) := (Below.refl base w).alloc hbase _
        generalize w.alloc (.cells cur0 (ren21.t 3)) = wa at hh0 hal ⊢
        have hh1 : wa.drew.heap[w.heap.size]? = some (.cells cur0 3 (0, 0)) := hh0
        have e1 : 0 + [Value.int .i64 x].length ≤ cur0.size := by rw [hsz0]; simp; omega
        obtain ⟨c1, h3, h4, h5⟩ := setCells_row [Value.int .i64 x] 0 wa.drew cur0 hh1 e1
        obtain ⟨_, hgr1⟩ := box_cells hh1 e1 (cs' := c1) h5.symm
        generalize wa.drew.setCells w.heap.size 0 [Value.int .i64 x] = wb at h3 hgr1 ⊢
        have hh2 : wb.drew.heap[w.heap.size]? = some (.cells c1 3 (0, 0)) := h3
        have e2 : (0 + 1) + ((encs (Value.int .i64) xs).drop 0).length ≤ c1.size := by rw [List.drop_zero, hcl, h4, hsz0]; omega
        obtain ⟨c2, h6, h7, h8⟩ := setCells_row ((encs (Value.int .i64) xs).drop 0) (0 + 1) wb.drew c1 hh2 e2
        obtain ⟨_, hgr2⟩ := box_cells hh2 e2 (cs' := c2) h8.symm
        have hB1 : Below base w wa.drew := below_drew1 hal
        have hB2 : Below base w wb := grown_below hB1 hgr1 hbase (Nat.le_trans hbase hB1.size)
        refine ⟨_, rfl, ⟨by rw [encs_length, Nat.mul_one], .inr ⟨w.heap.size, _, c2, rfl, hbase, h6, hg, hg2, by rw [h7, h4, hsz0]; exact (Nat.mul_one _).symm, ?_⟩⟩, grown_below (below_drew1 hB2) hgr2 hbase (Nat.le_trans hbase hB2.size)⟩
        rw [h8, h5]
        simp only [List.drop_zero, Nat.zero_add, List.take_zero, List.nil_append, List.length_singleton, List.length_cons]
        rw [List.singleton_append, List.take_succ_cons, List.take_zero, Nat.mul_one, List.append_assoc]
        show (Value.int .i64 x :: (encs (Value.int .i64) xs ++ _)).take (xs.length + 1) = encs (Value.int .i64) (x :: xs)
        rw [List.take_succ_cons, List.take_append_of_le_length (by omega), List.take_of_length_le (by omega)]
        rfl
end Go.Proofs.Ytfdmfgaiblfbhaa.P
/- The contract of cell.Find: the path to the first leaf with a number. Condition: at most 1000000 cells. -/
namespace Go.Proofs.Ytfdmfgaiblfbhaa.P
open Go.RowKit Go.Proofs.YtfdmfgaiblfbhaaW.PrintWords Go.Proofs.YtfdmfgaiblfbhaaW.PrintLast Go.Proofs.YtfdmfgaiblfbhaaW.PrintMore
set_option linter.unusedVariables false
set_option linter.unusedSimpArgs false
section
variable {P : Program} {ops : Array Oper} {rest : List Oper} {o : Oper} {a : Act} {Q : Exit → Act → World → Prop}
theorem row_event {W : World} (hgd : o.guard = none) {N : Tmp} (_hd : o.dst = some N) {cs : Array Value} {t : TypeId} {n c : Nat}
    (hrun : (execOp a.eval o).run P W = .ok (.value (.slice (some ⟨W.heap.size, 0, none⟩) n c)) (W.alloc (.cells cs t (0, 0))))
    (h : ∀ g, g = W.heap.size → ∀ w1, w1.heap[g]? = some (.cells cs t (0, 0)) → Below W.heap.size W w1 → wpList P ops Q rest (a.put o.dst (.slice (some ⟨g, 0, none⟩) n c)) w1) : wpList P ops Q (o :: rest) a W :=
  Kd.event_run hgd hrun (h _ rfl _ (blk_new W _) (below_alloc (Below.refl _ _) _))
end
mutual
def findC (id : Int) : S26 → Option (List Int)
  | ⟨a, _, d, l⟩ => if a = 1 ∧ d = id then some [] else findL id 0 l
def findL (id : Int) : Nat → List S26 → Option (List Int)
  | _, [] => none
  | i, k :: ks => match findC id k with
    | some p => some ((i : Int) :: p)
    | none => findL id (i + 1) ks
end
theorem findC_eq (id : Int) (c : S26) : findC id c = if c.f0 = 1 ∧ c.f2 = id then some [] else findL id 0 c.f3 := by cases c; simp [findC]
theorem findL_nil (id : Int) (i : Nat) : findL id i [] = none := by simp [findL]
theorem findL_cons (id : Int) (i : Nat) (k : S26) (ks : List S26) : findL id i (k :: ks) = match findC id k with | some p => some ((i : Int) :: p) | none => findL id (i + 1) ks := by simp [findL]
theorem find_len (id : Int) : ∀ (N : Nat), (∀ c : S26, sz c ≤ N → ∀ p, findC id c = some p → p.length ≤ sz c) ∧ (∀ l : List S26, szL l ≤ N → ∀ i p, findL id i l = some p → p.length ≤ 1 + szL l) := by
  intro N
  induction N with
  | zero =>
    refine ⟨fun c h => ?_, fun l h => ?_⟩
    · rw [sz_eq] at h; omega
    · cases l with
      | nil => intro i p hp; rw [findL_nil] at hp; cases hp
      | cons z zs => rw [szL_cons, sz_eq] at h; omega
  | succ N ih =>
    have hC : ∀ c : S26, sz c ≤ N + 1 → ∀ p, findC id c = some p → p.length ≤ sz c := by
      intro c h p hp
      have hs := sz_eq c
      rw [findC_eq] at hp
      split at hp
      · injection hp with hp; subst hp; simp
      · have := ih.2 c.f3 (by omega) 0 p hp
        omega
    refine ⟨hC, fun l => ?_⟩
    induction l with
    | nil => intro _ i p hp; rw [findL_nil] at hp; cases hp
    | cons z zs ihl =>
      intro h i p hp
      rw [szL_cons] at h ⊢
      rw [findL_cons] at hp
      cases hz : findC id z with
      | some q =>
        rw [hz] at hp
        injection hp with hp
        have := hC z (by omega) q hz
        rw [← hp, List.length_cons]
        omega
      | none =>
        rw [hz] at hp
        have := ihl (by omega) (i + 1) p hp
        omega
/-- What it answers. -/
def FindP (w : World) (r : Option (List Int)) (e : Ending) (w' : World) : Prop := ∃ v : Value, e = .returned (.tuple #[v, .bool r.isSome]) ∧ (Kd.int .i64).R 3 w' w.heap.size (fun _ => True) v (r.getD []) ∧ Below w.heap.size w w'
set_option maxHeartbeats 4000000 in
set_option maxRecDepth 100000 in
theorem find89 (id : Int) : ∀ (N : Nat) (c : S26), sz c ≤ N → N ≤ 1000000 → ∀ (A : Option Addr) (cc : Nat) (w : World), Kd.C k26 w A c.f3.length c.f3 → c.f3.length ≤ cc →
    Calls Try.prog 89 #[.agg #[.int .u8 c.f0, .int .i64 c.f1.f0, .int .i64 c.f1.f1, .int .i64 c.f1.f2, .int .i64 c.f1.f3, .int .i64 c.f2, .slice A c.f3.length cc], .int .i64 id] w (FindP w (findC id c)) := by
  intro N
  induction N with
  | zero => intro c h; rw [sz_eq] at h; omega
  | succ N ih =>
    intro c hc hN A cc w hr hlc
    have hsz := sz_eq c
    have hlen := szL_len c.f3
    have hkz : ∀ k : S26, k ∈ c.f3 → sz k ≤ N := by
      intro k hk
      have : sz k ≤ szL c.f3 := by
        obtain ⟨p, q, e⟩ := List.append_of_mem hk
        rw [e, szL_app, szL_cons]; omega
      omega
    have IH := Aside0.mk fun (k : S26) (hk : k ∈ c.f3) => ih k (hkz k hk) (by omega)
    have HLP := Aside0.mk fun (k : S26) (hk : k ∈ c.f3) (p : List Int) (hp : findC id k = some p) => Nat.le_trans ((find_len id (sz k)).1 k (Nat.le_refl _) p hp) (Nat.le_trans (hkz k hk) (by omega : N ≤ 1000000))
    have HR := Aside0.mk hr
    have HLC := Aside0.mk hlc
    have HL := Aside0.mk (show c.f3.length ≤ 1000000 by omega)
    have HB := Aside0.mk (Below.refl w.heap.size w)
    rw [findC_eq]
    clear ih hkz hr hlc hc hN hsz hlen
    obtain ⟨ck, ⟨cx, cy, cw, ch⟩, cid, l⟩ := c
    simp only [] at HR HLC HL IH HLP ⊢
    by_cases h1 : ck = 1
    · have h1b : (ck == 1) = true := beq_iff_eq.mpr h1
      by_cases h2 : cid = id
      · have h2b : (cid == id) = true := beq_iff_eq.mpr h2
        rw [if_pos ⟨h1, h2⟩]
        clear h1 h2
        go_enter Try.func89, Try.ntmps89
        go_wp2_with (first | ((with_reducible refine gate_dst (N := 2) rfl ?_); refine box_event ?hg (N := 2) ?hd (cs := #[.int .u8 ck, .int .i64 cx, .int .i64 cy, .int .i64 cw, .int .i64 ch, .int .i64 cid, .slice A l.length cc]) (t := 26) ?hr ?_; (case hd => rfl); (case hg => rfl); (case hr => first | (go_simp; done) | (go_simp; rfl)); intro b2 hg w2 hbox hb; have K2 := Aside0.mk hbox; have q_ := Aside0.mk (below_step HB.out hb); clear HB; have HB := q_; clear q_; clear hb hbox hg; have c0 := (blk_cell K2.out 0).trans rfl; have c1 := (blk_cell K2.out 1).trans rfl; have c2 := (blk_cell K2.out 2).trans rfl; have c3 := (blk_cell K2.out 3).trans rfl; have c4 := (blk_cell K2.out 4).trans rfl; have c5 := (blk_cell K2.out 5).trans rfl; have c6 := (blk_cell K2.out 6).trans rfl) | fail)
        go_ret2
        exact ⟨_, rfl, Kd.R_nil _ _ _ _ _, HB.out⟩
      · have h2b : (cid == id) = false := beq_eq_false_iff_ne.mpr h2
        rw [if_neg (fun h => h2 h.2)]
        clear h1 h2
        go_enter Try.func89, Try.ntmps89
        go_wp2_with (first | ((with_reducible refine gate_dst (N := 2) rfl ?_); refine box_event ?hg (N := 2) ?hd (cs := #[.int .u8 ck, .int .i64 cx, .int .i64 cy, .int .i64 cw, .int .i64 ch, .int .i64 cid, .slice A l.length cc]) (t := 26) ?hr ?_; (case hd => rfl); (case hg => rfl); (case hr => first | (go_simp; done) | (go_simp; rfl)); intro b2 hg w2 hbox hb; have K2 := Aside0.mk hbox; have q_ := Aside0.mk (below_step HB.out hb); clear HB; have HB := q_; clear q_; clear hb hbox hg; have c0 := (blk_cell K2.out 0).trans rfl; have c1 := (blk_cell K2.out 1).trans rfl; have c2 := (blk_cell K2.out 2).trans rfl; have c3 := (blk_cell K2.out 3).trans rfl; have c4 := (blk_cell K2.out 4).trans rfl; have c5 := (blk_cell K2.out 5).trans rfl; have c6 := (blk_cell K2.out 6).trans rfl) | fail)
        clear c0 c1 c2 c3 c4 c5 c6
        go_loopg [22] l.length (fun gg v22 wr => ∃ (pre rest : List S26), v22 = .int .i64 (pre.length : Int) ∧ Aside0 (pre ++ rest = l) ∧ rest.length ≤ gg ∧ Aside0 (findL id 0 l = findL id pre.length rest) ∧ Aside0 (Below w.heap.size w wr))
        case atStart => exact ⟨[], l, rfl, ⟨rfl⟩, Nat.le_refl _, ⟨rfl⟩, HB⟩
        case round =>
          clear HB K2
          obtain ⟨pre, rest, rfl, HE, hgg, HF, HB⟩ := hrel
          cases rest with
          | nil =>
            have hlt : ¬ ((pre.length : Int) < (l.length : Int)) := by have := HE.out; rw [List.append_nil] at this; rw [this]; omega
            clear hgg
            go_wp2
            go_ret2
            rw [HF.out, findL_nil]
            exact ⟨_, rfl, Kd.R_nil _ _ _ _ _, HB.out⟩
          | cons k rest =>
            have hk : k ∈ l := by rw [← HE.out]; simp
            have hlt : (pre.length : Int) < (l.length : Int) := by rw [← HE.out, List.length_append, List.length_cons]; omega
            have hw : wrap64 ((pre.length : Int) + 1) = ((pre ++ [k]).length : Int) := by rw [List.length_append, List.length_singleton]; unfold wrap64; have := HL.out; omega
            have hrd : rd_T26 l (pre.length : Int) = k := by rw [← HE.out]; simp [rd_T26, List.getD_eq_getElem?_getD]
            obtain ⟨ad, ua, uc, rfl, h0, h1, h2, h3, h4, h5, h6, hlu, hgu⟩ := at_T26 HR.out (pre.length : Int) (Int.natCast_nonneg _) hlt
            rw [hrd] at h0 h1 h2 h3 h4 h5 h6 hlu hgu
            simp only [Int.toNat_natCast] at h0 h1 h2 h3 h4 h5 h6
            replace h0 := (HB.out.cell (World.block_lt_of_cell? w _ h0)).trans h0
            replace h1 := (HB.out.cell (World.block_lt_of_cell? w _ h1)).trans h1
            replace h2 := (HB.out.cell (World.block_lt_of_cell? w _ h2)).trans h2
            replace h3 := (HB.out.cell (World.block_lt_of_cell? w _ h3)).trans h3
            replace h4 := (HB.out.cell (World.block_lt_of_cell? w _ h4)).trans h4
            replace h5 := (HB.out.cell (World.block_lt_of_cell? w _ h5)).trans h5
            replace h6 := (HB.out.cell (World.block_lt_of_cell? w _ h6)).trans h6
            have HU := Aside0.mk hgu
            have LU := Aside0.mk hlu
            have HW := Aside0.mk hw
            have HK := Aside0.mk hk
            have HG := Aside0.mk hgg
            clear hgu hlu hw hk hgg hrd
            go_wp2_with (first
              | ((with_reducible refine gate_dst (N := 7) rfl ?_); refine box_event ?hg (N := 7) ?hd (cs := #[.int .u8 0, .int .i64 0, .int .i64 0, .int .i64 0, .int .i64 0, .int .i64 0, .slice none 0 0]) (t := 26) ?hr ?_; (case hd => rfl); (case hg => rfl); (case hr => first | (go_simp; done) | (go_simp; rfl)); intro b7 hg w7 hbox hb; have K7 := Aside0.mk hbox; have G7 := Aside0.mk (show w.heap.size ≤ b7 by rw [hg]; exact HB.out.size); have q_ := Aside0.mk (below_step HB.out hb); clear HB; have HB := q_; clear q_; clear hb hbox hg)
              | ((with_reducible refine gate_ (.store 26 (.tmp 7) (.tmp 26)) rfl ?_); go_loud (refine box_store (w0 := w) rfl rfl 26 (.tmp 7) (.tmp 26) rfl (g := b7) (j := 0) (base := w.heap.size) #[.int .u8 k.f0, .int .i64 k.f1.f0, .int .i64 k.f1.f1, .int .i64 k.f1.f2, .int .i64 k.f1.f3, .int .i64 k.f2, .slice ua k.f3.length uc] (u := .agg #[.int .u8 k.f0, .int .i64 k.f1.f0, .int .i64 k.f1.f1, .int .i64 k.f1.f2, .int .i64 k.f1.f3, .int .i64 k.f2, .slice ua k.f3.length uc]) (seg := [.int .u8 k.f0, .int .i64 k.f1.f0, .int .i64 k.f1.f1, .int .i64 k.f1.f2, .int .i64 k.f1.f3, .int .i64 k.f2, .slice ua k.f3.length uc]) ?sA ?sX rfl ?sT ?s1 K7.out ?sJ rfl HB.out HB.out.size G7.out ?_; (case sA => rfl); (case sX => rfl); (case sT => rfl); (case s1 => (simp [Value.oneCell'])); (case sJ => (first | decide | simp)); intro ws hbk hbb hgg; clear K7 HB; have K7 := Aside0.mk hbk; have HB := Aside0.mk hbb; clear hbk hbb hgg h0 h1 h2 h3 h4 h5 h6; have d0 := (blk_cell K7.out 0).trans rfl; have d1 := (blk_cell K7.out 1).trans rfl; have d2 := (blk_cell K7.out 2).trans rfl; have d3 := (blk_cell K7.out 3).trans rfl; have d4 := (blk_cell K7.out 4).trans rfl; have d5 := (blk_cell K7.out 5).trans rfl; have d6 := (blk_cell K7.out 6).trans rfl))
              | fail)
            clear d0 d1 d2 d3 d4 d5 d6 K7
            refine (IH.out k HK.out ua uc _ (Kd.C_below HU.out HB.out) LU.out).mono ?_
            rintro e wk ⟨v, rfl, ho, hb⟩
            have HO := Aside0.mk (Kd.R_lower ho HB.out.size)
            have q_ := Aside0.mk (below_step HB.out hb); clear HB; have HB := q_; clear q_
            clear ho hb
            cases hf : findC id k with
            | none =>
              rw [hf] at HO
              have HF2 := Aside0.mk hf
              simp only [hf, Option.isSome_none]
              clear hf
              go_wp2
              go_roundg rest.length
              case measure => exact Nat.lt_of_lt_of_le (Nat.lt_succ_self _) HG.out
              case rel => exact ⟨pre ++ [k], rest, (by rw [HW.out]), ⟨by rw [List.append_assoc]; exact HE.out⟩, Nat.le_refl _, ⟨by rw [HF.out, findL_cons, HF2.out, List.length_append]; rfl⟩, HB⟩
            | some p =>
              rw [hf] at HO
              have HF2 := Aside0.mk hf
              have HP := Aside0.mk (HLP.out k HK.out p hf)
              simp only [hf, Option.isSome_some]
              clear hf
              obtain ⟨Ap, cp, ep⟩ := Kd.R_slice HO.out
              subst ep
              go_wp2_with (first
                | ((with_reducible refine gate_dst (N := 36) rfl ?_); refine row_event ?hg (N := 36) ?hd (cs := #[.int .i64 (pre.length : Int)]) (t := 3) (n := 1) (c := 1) ?hr ?_; (case hd => rfl); (case hg => rfl); (case hr => first | (go_simp; done) | (go_simp; rfl)); intro b9 hg w9 hbox hb; have K9 := Aside0.mk hbox; have NE := Aside0.mk (fun e_ => Nat.lt_irrefl _ (hg ▸ Kd.R_lt HO.out b9 e_) : ¬ (Value.slice Ap ((some p).getD []).length cp).ownBlock = some b9); have q1_ := Aside0.mk (Kd.R_below HO.out hb); clear HO; have HO := q1_; clear q1_; have q_ := Aside0.mk (below_step HB.out hb); clear HB; have HB := q_; clear q_; clear hb hbox hg)
                | fail)
              refine (ins150 _ w.heap.size HB.out.size _ p (pre.length : Int) b9 1 (Kd.own_of_R HO.out) K9.out NE.out HP.out).mono ?_
              rintro e wi ⟨v', rfl, ho, hb⟩
              have HO2 := Aside0.mk ho
              have HB2 := Aside0.mk (HB.out.trans hb)
              clear ho hb
              go_wp2
              go_ret2
              rw [HF.out, findL_cons, HF2.out]
              exact ⟨_, rfl, Kd.R_of_own HO2.out (fun _ _ => trivial), HB2.out⟩
    · have h1b : (ck == 1) = false := beq_eq_false_iff_ne.mpr h1
      rw [if_neg (fun h => h1 h.1)]
      clear h1
      go_enter Try.func89, Try.ntmps89
      go_wp2_with (first | ((with_reducible refine gate_dst (N := 2) rfl ?_); refine box_event ?hg (N := 2) ?hd (cs := #[.int .u8 ck, .int .i64 cx, .int .i64 cy, .int .i64 cw, .int .i64 ch, .int .i64 cid, .slice A l.length cc]) (t := 26) ?hr ?_; (case hd => rfl); (case hg => rfl); (case hr => first | (go_simp; done) | (go_simp; rfl)); intro b2 hg w2 hbox hb; have K2 := Aside0.mk hbox; have q_ := Aside0.mk (below_step HB.out hb); clear HB; have HB := q_; clear q_; clear hb hbox hg; have c0 := (blk_cell K2.out 0).trans rfl; have c1 := (blk_cell K2.out 1).trans rfl; have c2 := (blk_cell K2.out 2).trans rfl; have c3 := (blk_cell K2.out 3).trans rfl; have c4 := (blk_cell K2.out 4).trans rfl; have c5 := (blk_cell K2.out 5).trans rfl; have c6 := (blk_cell K2.out 6).trans rfl) | fail)
      clear c0 c1 c2 c3 c4 c5 c6
      go_loopg [22] l.length (fun gg v22 wr => ∃ (pre rest : List S26), v22 = .int .i64 (pre.length : Int) ∧ Aside0 (pre ++ rest = l) ∧ rest.length ≤ gg ∧ Aside0 (findL id 0 l = findL id pre.length rest) ∧ Aside0 (Below w.heap.size w wr))
      case atStart => exact ⟨[], l, rfl, ⟨rfl⟩, Nat.le_refl _, ⟨rfl⟩, HB⟩
      case round =>
        clear HB K2
        obtain ⟨pre, rest, rfl, HE, hgg, HF, HB⟩ := hrel
        cases rest with
        | nil =>
          have hlt : ¬ ((pre.length : Int) < (l.length : Int)) := by have := HE.out; rw [List.append_nil] at this; rw [this]; omega
          clear hgg
          go_wp2
          go_ret2
          rw [HF.out, findL_nil]
          exact ⟨_, rfl, Kd.R_nil _ _ _ _ _, HB.out⟩
        | cons k rest =>
          have hk : k ∈ l := by rw [← HE.out]; simp
          have hlt : (pre.length : Int) < (l.length : Int) := by rw [← HE.out, List.length_append, List.length_cons]; omega
          have hw : wrap64 ((pre.length : Int) + 1) = ((pre ++ [k]).length : Int) := by rw [List.length_append, List.length_singleton]; unfold wrap64; have := HL.out; omega
          have hrd : rd_T26 l (pre.length : Int) = k := by rw [← HE.out]; simp [rd_T26, List.getD_eq_getElem?_getD]
          obtain ⟨ad, ua, uc, rfl, h0, h1, h2, h3, h4, h5, h6, hlu, hgu⟩ := at_T26 HR.out (pre.length : Int) (Int.natCast_nonneg _) hlt
          rw [hrd] at h0 h1 h2 h3 h4 h5 h6 hlu hgu
          simp only [Int.toNat_natCast] at h0 h1 h2 h3 h4 h5 h6
          replace h0 := (HB.out.cell (World.block_lt_of_cell? w _ h0)).trans h0
          replace h1 := (HB.out.cell (World.block_lt_of_cell? w _ h1)).trans h1
          replace h2 := (HB.out.cell (World.block_lt_of_cell? w _ h2)).trans h2
          replace h3 := (HB.out.cell (World.block_lt_of_cell? w _ h3)).trans h3
          replace h4 := (HB.out.cell (World.block_lt_of_cell? w _ h4)).trans h4
          replace h5 := (HB.out.cell (World.block_lt_of_cell? w _ h5)).trans h5
          replace h6 := (HB.out.cell (World.block_lt_of_cell? w _ h6)).trans h6
          have HU := Aside0.mk hgu
          have LU := Aside0.mk hlu
          have HW := Aside0.mk hw
          have HK := Aside0.mk hk
          have HG := Aside0.mk hgg
          clear hgu hlu hw hk hgg hrd
          go_wp2_with (first
            | ((with_reducible refine gate_dst (N := 7) rfl ?_); refine box_event ?hg (N := 7) ?hd (cs := #[.int .u8 0, .int .i64 0, .int .i64 0, .int .i64 0, .int .i64 0, .int .i64 0, .slice none 0 0]) (t := 26) ?hr ?_; (case hd => rfl); (case hg => rfl); (case hr => first | (go_simp; done) | (go_simp; rfl)); intro b7 hg w7 hbox hb; have K7 := Aside0.mk hbox; have G7 := Aside0.mk (show w.heap.size ≤ b7 by rw [hg]; exact HB.out.size); have q_ := Aside0.mk (below_step HB.out hb); clear HB; have HB := q_; clear q_; clear hb hbox hg)
            | ((with_reducible refine gate_ (.store 26 (.tmp 7) (.tmp 26)) rfl ?_); go_loud (refine box_store (w0 := w) rfl rfl 26 (.tmp 7) (.tmp 26) rfl (g := b7) (j := 0) (base := w.heap.size) #[.int .u8 k.f0, .int .i64 k.f1.f0, .int .i64 k.f1.f1, .int .i64 k.f1.f2, .int .i64 k.f1.f3, .int .i64 k.f2, .slice ua k.f3.length uc] (u := .agg #[.int .u8 k.f0, .int .i64 k.f1.f0, .int .i64 k.f1.f1, .int .i64 k.f1.f2, .int .i64 k.f1.f3, .int .i64 k.f2, .slice ua k.f3.length uc]) (seg := [.int .u8 k.f0, .int .i64 k.f1.f0, .int .i64 k.f1.f1, .int .i64 k.f1.f2, .int .i64 k.f1.f3, .int .i64 k.f2, .slice ua k.f3.length uc]) ?sA ?sX rfl ?sT ?s1 K7.out ?sJ rfl HB.out HB.out.size G7.out ?_; (case sA => rfl); (case sX => rfl); (case sT => rfl); (case s1 => (simp [Value.oneCell'])); (case sJ => (first | decide | simp)); intro ws hbk hbb hgg; clear K7 HB; have K7 := Aside0.mk hbk; have HB := Aside0.mk hbb; clear hbk hbb hgg h0 h1 h2 h3 h4 h5 h6; have d0 := (blk_cell K7.out 0).trans rfl; have d1 := (blk_cell K7.out 1).trans rfl; have d2 := (blk_cell K7.out 2).trans rfl; have d3 := (blk_cell K7.out 3).trans rfl; have d4 := (blk_cell K7.out 4).trans rfl; have d5 := (blk_cell K7.out 5).trans rfl; have d6 := (blk_cell K7.out 6).trans rfl))
            | fail)
          clear d0 d1 d2 d3 d4 d5 d6 K7
          refine (IH.out k HK.out ua uc _ (Kd.C_below HU.out HB.out) LU.out).mono ?_
          rintro e wk ⟨v, rfl, ho, hb⟩
          have HO := Aside0.mk (Kd.R_lower ho HB.out.size)
          have q_ := Aside0.mk (below_step HB.out hb); clear HB; have HB := q_; clear q_
          clear ho hb
          cases hf : findC id k with
          | none =>
            rw [hf] at HO
            have HF2 := Aside0.mk hf
            simp only [hf, Option.isSome_none]
            clear hf
            go_wp2
            go_roundg rest.length
            case measure => exact Nat.lt_of_lt_of_le (Nat.lt_succ_self _) HG.out
            case rel => exact ⟨pre ++ [k], rest, (by rw [HW.out]), ⟨by rw [List.append_assoc]; exact HE.out⟩, Nat.le_refl _, ⟨by rw [HF.out, findL_cons, HF2.out, List.length_append]; rfl⟩, HB⟩
          | some p =>
            rw [hf] at HO
            have HF2 := Aside0.mk hf
            have HP := Aside0.mk (HLP.out k HK.out p hf)
            simp only [hf, Option.isSome_some]
            clear hf
            obtain ⟨Ap, cp, ep⟩ := Kd.R_slice HO.out
            subst ep
            go_wp2_with (first
              | ((with_reducible refine gate_dst (N := 36) rfl ?_); refine row_event ?hg (N := 36) ?hd (cs := #[.int .i64 (pre.length : Int)]) (t := 3) (n := 1) (c := 1) ?hr ?_; (case hd => rfl); (case hg => rfl); (case hr => first | (go_simp; done) | (go_simp; rfl)); intro b9 hg w9 hbox hb; have K9 := Aside0.mk hbox; have NE := Aside0.mk (fun e_ => Nat.lt_irrefl _ (hg ▸ Kd.R_lt HO.out b9 e_) : ¬ (Value.slice Ap ((some p).getD []).length cp).ownBlock = some b9); have q1_ := Aside0.mk (Kd.R_below HO.out hb); clear HO; have HO := q1_; clear q1_; have q_ := Aside0.mk (below_step HB.out hb); clear HB; have HB := q_; clear q_; clear hb hbox hg)
              | fail)
            refine (ins150 _ w.heap.size HB.out.size _ p (pre.length : Int) b9 1 (Kd.own_of_R HO.out) K9.out NE.out HP.out).mono ?_
            rintro e wi ⟨v', rfl, ho, hb⟩
            have HO2 := Aside0.mk ho
            have HB2 := Aside0.mk (HB.out.trans hb)
            clear ho hb
            go_wp2
            go_ret2
            rw [HF.out, findL_cons, HF2.out]
            exact ⟨_, rfl, Kd.R_of_own HO2.out (fun _ _ => trivial), HB2.out⟩
def cell_Find.f (a0 a1 a2 a3 a4 a5 : Int) (l : List S26) (id : Int) : Option (List Int × Bool) := if sz ⟨a0, ⟨a1, a2, a3, a4⟩, a5, l⟩ ≤ 1000000 then some ((findC id ⟨a0, ⟨a1, a2, a3, a4⟩, a5, l⟩).getD [], (findC id ⟨a0, ⟨a1, a2, a3, a4⟩, a5, l⟩).isSome) else none
theorem cell_Find.calls (a0_0 a0_1 a0_2 a0_3 a0_4 a0_5 : Int) (A0_6 : Option Addr) (c0_6 : Nat) (l0_6 : List S26) (a1 : Int) (r1 : List Int) (r2 : Bool) (w : World) (hr0_6 : Kd.C k26 w A0_6 l0_6.length l0_6) (hc0_6 : l0_6.length ≤ c0_6) (h : cell_Find.f a0_0 a0_1 a0_2 a0_3 a0_4 a0_5 l0_6 a1 = some (r1, r2)) :
    Calls Try.prog 89 #[.agg #[.int .u8 a0_0, .int .i64 a0_1, .int .i64 a0_2, .int .i64 a0_3, .int .i64 a0_4, .int .i64 a0_5, .slice A0_6 l0_6.length c0_6], .int .i64 a1] w fun e w' => ∃ v0_ : Value, e = .returned (.tuple #[v0_, .bool r2]) ∧ Kd.R (Kd.int .i64) 3 w' w.heap.size (fun _ => True) v0_ r1 ∧ Below w.heap.size w w' := by
  unfold cell_Find.f at h
  split at h
  · rename_i hz
    simp only [Option.some.injEq, Prod.mk.injEq] at h
    obtain ⟨rfl, rfl⟩ := h
    exact find89 a1 1000000 ⟨a0_0, ⟨a0_1, a0_2, a0_3, a0_4⟩, a0_5, l0_6⟩ hz (Nat.le_refl _) A0_6 c0_6 w hr0_6 hc0_6
  · exact absurd h (by simp)
end Go.Proofs.Ytfdmfgaiblfbhaa.P
