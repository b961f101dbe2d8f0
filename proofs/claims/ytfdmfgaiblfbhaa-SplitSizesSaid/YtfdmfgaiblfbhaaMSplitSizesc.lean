/- SplitSizes: part 3 of 5 of this claim's texts, one behind the other. The words of the kit's printer stand in it cut down, by a program, to those that are used. -/
import Derived.Test.YtfdmfgaiblfbhaaProg
import Derived.Below
import Derived.Deep.Draws
import Derived.Deep.AppendLies
import Derived.Maps.AppendAt
import Derived.OwnWalk
import Derived.Laws.BytesArg
import Derived.Laws.MakeOwn
import Derived.Laws.OwnMore
import Derived.Deep.OwnRows
import Derived.Tactics
import Derived.Lib.ConvBytes
import Derived.Laws.Slices
import Derived.WalkKit
import Derived.KernelRfl
import Derived.RowKit3
import Derived.Deep.LoopGhost
import Derived.Deep.QuietTactic
import Derived.BigQuiet
import Derived.WideLaws
import Derived.Deep.DeepCutAuto
import Derived.Deep.CutBlock
import Derived.Deep.RegionHeld3
import Derived.Laws.Rows
import Derived.Lib.AppendStr
import Derived.ArgAppend
import Derived.Laws.IdiomCopy
import Derived.OrdersHeld
import Derived.Laws.BitsLemmas
import Derived.RowKit
import Derived.Test.YtfdmfgaiblfbhaaMSplitSizesa
import Derived.Test.YtfdmfgaiblfbhaaMSplitSizesb
import Derived.Lib.Hide
import Derived.ProofKit
import Derived.Deep.Slices
import Derived.Lib.SmallJoins
import Derived.OpenShut
namespace Go.Proofs.Ytfdmfgaiblfbhaa.P
open Go.RowKit Go.Proofs.YtfdmfgaiblfbhaaW.PrintWords Go.Proofs.YtfdmfgaiblfbhaaW.PrintLast Go.Proofs.YtfdmfgaiblfbhaaW.PrintMore
attribute [local go_sem] max2_int min2_int max_two min_two max_three min_three max_four min_four   -- for this text's walks alone
set_option linter.unusedVariables false
set_option linter.unusedSimpArgs false



def errW : Option Int → Value
  | none => .nilIface
  | some c => .iface 0 (.int .i64 c)
theorem errW_none : errW none = .nilIface := rfl
theorem errW_some (c : Int) : errW (some c) = .iface 0 (.int .i64 c) := rfl

theorem info3 : (Try.prog.info? 3).map (fun i => (i.zero, i.size, i.bytes)) = some (some (.int .i64 0), 1, 8) := by kernel_rfl
theorem info23 : (Try.prog.info? 23).map (fun i => (i.zero, i.size, i.bytes)) = some (some (.agg #[(.int .i64 0), (.int .i64 0), (.int .i64 0), (.int .i64 0)]), 4, 32) := by kernel_rfl
theorem info26 : (Try.prog.info? 26).map (fun i => (i.zero, i.size, i.bytes)) = some (some (.agg #[(.int .u8 0), (.int .i64 0), (.int .i64 0), (.int .i64 0), (.int .i64 0), (.int .i64 0), (.slice none 0 0)]), 7, 72) := by kernel_rfl
-- the values' own types
/-! #### struct type 23 -/
structure S23 where
  f0 : Int
  f1 : Int
  f2 : Int
  f3 : Int
def z23 : S23 := ⟨(0 : Int), (0 : Int), (0 : Int), (0 : Int)⟩
def k23 : Kd S23 := Kd.iso (Kd.pair (Kd.int .i64) (Kd.pair (Kd.int .i64) (Kd.pair (Kd.int .i64) (Kd.int .i64)))) (fun x : S23 => (x.f0, x.f1, x.f2, x.f3))
theorem k23_heap : Kd.Heap k23 := Kd.heap_iso _ (Kd.heap_pair (Kd.heap_int .i64) (Kd.heap_pair (Kd.heap_int .i64) (Kd.heap_pair (Kd.heap_int .i64) (Kd.heap_int .i64))))
theorem k23_open {w : World} {x : S23} {cs : List Value} (h : k23.K w x cs) : cs = [.int .i64 x.f0, .int .i64 x.f1, .int .i64 x.f2, .int .i64 x.f3] := by
  obtain ⟨_, _, rfl, rfl, ⟨_, _, rfl, rfl, ⟨_, _, rfl, rfl, rfl⟩⟩⟩ := h
  exact rfl
theorem k23_mk (w : World) (x : S23)  : k23.K w x [.int .i64 x.f0, .int .i64 x.f1, .int .i64 x.f2, .int .i64 x.f3] := ⟨[.int .i64 x.f0], [.int .i64 x.f1, .int .i64 x.f2, .int .i64 x.f3], rfl, rfl, ⟨[.int .i64 x.f1], [.int .i64 x.f2, .int .i64 x.f3], rfl, rfl, ⟨[.int .i64 x.f2], [.int .i64 x.f3], rfl, rfl, rfl⟩⟩⟩
theorem k23_mkM (w : World) (base : Nat) (ok : Nat → Prop) (x : S23)  : k23.M w base ok x [.int .i64 x.f0, .int .i64 x.f1, .int .i64 x.f2, .int .i64 x.f3] := ⟨[.int .i64 x.f0], [.int .i64 x.f1, .int .i64 x.f2, .int .i64 x.f3], rfl, rfl, ⟨[.int .i64 x.f1], [.int .i64 x.f2, .int .i64 x.f3], rfl, rfl, ⟨[.int .i64 x.f2], [.int .i64 x.f3], rfl, rfl, rfl⟩⟩⟩
def rd_T23 (xs : List S23) (i : Int) : S23 := xs.getD i.toNat z23
theorem at_T23 {w : World} {A : Option Addr} {n : Nat} {xs : List S23} (h : Kd.C k23 w A n xs) (i : Int) (h0 : 0 ≤ i) (h1 : i < n) : ∃ ad , A = some ad ∧ w.cell? (ad.add (i.toNat * 4)) = some (.int .i64 (rd_T23 xs i).f0) ∧ w.cell? ⟨(ad.add (i.toNat * 4)).block, (ad.add (i.toNat * 4)).off + 1, none⟩ = some (.int .i64 (rd_T23 xs i).f1) ∧ w.cell? ⟨(ad.add (i.toNat * 4)).block, (ad.add (i.toNat * 4)).off + 2, none⟩ = some (.int .i64 (rd_T23 xs i).f2) ∧ w.cell? ⟨(ad.add (i.toNat * 4)).block, (ad.add (i.toNat * 4)).off + 3, none⟩ = some (.int .i64 (rd_T23 xs i).f3) := by
  obtain ⟨ad, c, e, _, hK, hc0⟩ := Kd.C_get h z23 i h0 h1
  have hc : ∀ j u, c[j]? = some u → w.cell? (ad.add (i.toNat * 4 + j)) = some u := hc0
  obtain rfl := k23_open hK
  exact ⟨ad, e, hc 0 _ rfl, by rw [← add_field _ _ 1 (by omega)]; exact hc 1 _ rfl, by rw [← add_field _ _ 2 (by omega)]; exact hc 2 _ rfl, by rw [← add_field _ _ 3 (by omega)]; exact hc 3 _ rfl⟩

/-! #### struct type 26, nested in itself -/
structure S26 where
  f0 : Int
  f1 : S23
  f2 : Int
  f3 : (List S26)
def z26 : S26 := ⟨(0 : Int), z23, (0 : Int), ([] : List S26)⟩
def F26 (d : Kd S26) : Kd S26 := Kd.iso (Kd.pair (Kd.int .u8) (Kd.pair k23 (Kd.pair (Kd.int .i64) (Kd.slice 26 d)))) (fun x : S26 => (x.f0, x.f1, x.f2, x.f3))
theorem mono26 : Kd.Mono F26 := Kd.mono_iso _ (Kd.mono_pair (Kd.mono_const _) (Kd.mono_pair (Kd.mono_const _) (Kd.mono_pair (Kd.mono_const _) (Kd.mono_slice 26 Kd.mono_id))))
theorem sub26 : Kd.Sub F26 [26] := Kd.sub_iso _ (Kd.sub_pair (Kd.sub_const _ (by decide)) (Kd.sub_pair (Kd.sub_const _ (by decide)) (Kd.sub_pair (Kd.sub_const _ (by decide)) (Kd.sub_slice 26 (by decide) Kd.sub_id))))
theorem sz26 : ∀ n, (Kd.upto F26 7 [26] n).sz = 7 := Kd.upto_sz (fun _ => rfl)
def k26 : Kd S26 := Kd.fix F26 7 [26] sz26 (Kd.upto_E sub26)
theorem k26_heap : Kd.Heap k26 := Kd.heap_fix (fun _ h_ => Kd.heap_iso _ (Kd.heap_pair (Kd.heap_int .u8) (Kd.heap_pair k23_heap (Kd.heap_pair (Kd.heap_int .i64) (Kd.heap_slice 26 h_)))))
theorem k26_open {w : World} {x : S26} {cs : List Value} (h : k26.K w x cs) : ∃ A6 c6, cs = [.int .u8 x.f0, .int .i64 x.f1.f0, .int .i64 x.f1.f1, .int .i64 x.f1.f2, .int .i64 x.f1.f3, .int .i64 x.f2, .slice A6 x.f3.length c6] ∧ x.f3.length ≤ c6 ∧ k26.C w A6 x.f3.length x.f3 := by
  obtain ⟨n, h⟩ := h
  cases n with
  | zero => exact h.elim
  | succ n =>
    obtain ⟨_, _, rfl, rfl, ⟨_, _, rfl, s1, ⟨_, _, rfl, rfl, ⟨A6, c6, rfl, l6, g6⟩⟩⟩⟩ := h
    obtain rfl := k23_open s1
    exact ⟨A6, c6, rfl, l6, Kd.fix_C g6⟩
theorem k26_mk (w : World) (x : S26) {A6 : Option Addr} {c6 : Nat} (l6 : x.f3.length ≤ c6) (g6 : k26.C w A6 x.f3.length x.f3) : k26.K w x [.int .u8 x.f0, .int .i64 x.f1.f0, .int .i64 x.f1.f1, .int .i64 x.f1.f2, .int .i64 x.f1.f3, .int .i64 x.f2, .slice A6 x.f3.length c6] := by
  obtain ⟨n6, q6⟩ := Kd.fix_C_back mono26 g6
  have r6 := Kd.upto_C_le mono26 sz26 (show n6 ≤ n6 by omega) q6
  exact ⟨n6 + 1, ⟨[.int .u8 x.f0], [.int .i64 x.f1.f0, .int .i64 x.f1.f1, .int .i64 x.f1.f2, .int .i64 x.f1.f3, .int .i64 x.f2, .slice A6 x.f3.length c6], rfl, rfl, ⟨[.int .i64 x.f1.f0, .int .i64 x.f1.f1, .int .i64 x.f1.f2, .int .i64 x.f1.f3], [.int .i64 x.f2, .slice A6 x.f3.length c6], rfl, (k23_mk w x.f1 ), ⟨[.int .i64 x.f2], [.slice A6 x.f3.length c6], rfl, rfl, ⟨A6, c6, rfl, l6, r6⟩⟩⟩⟩⟩
theorem k26_openF {W : World} {ok : Nat → Prop} {x : S26} {cs : List Value} (h : Kd.FK k26 W ok x cs) : ∃ A6 c6, cs = [.int .u8 x.f0, .int .i64 x.f1.f0, .int .i64 x.f1.f1, .int .i64 x.f1.f2, .int .i64 x.f1.f3, .int .i64 x.f2, .slice A6 x.f3.length c6] ∧ x.f3.length ≤ c6 ∧ Kd.F k26 W ok A6 x.f3.length x.f3 := by
  obtain ⟨A6, c6, rfl, l6, _⟩ := k26_open (Kd.FK_now h)
  exact ⟨A6, c6, rfl, l6, (fun W' hW => by obtain ⟨A6_, c6_, he, l6_, g6_⟩ := k26_open (h W' hW); injection (Option.some.inj (show some (Value.slice A6 x.f3.length c6) = some (Value.slice A6_ x.f3.length c6_) from congrArg (fun l => l[6]?) he)) with ha_ _ _; rw [ha_]; exact g6_)⟩
theorem k26_mkF (W : World) (ok : Nat → Prop) (x : S26) {A6 : Option Addr} {c6 : Nat} (l6 : x.f3.length ≤ c6) (g6 : Kd.F k26 W ok A6 x.f3.length x.f3) : Kd.FK k26 W ok x [.int .u8 x.f0, .int .i64 x.f1.f0, .int .i64 x.f1.f1, .int .i64 x.f1.f2, .int .i64 x.f1.f3, .int .i64 x.f2, .slice A6 x.f3.length c6] := fun W2 hW => k26_mk W2 x l6 (g6 W2 hW)
def rd_T26 (xs : List S26) (i : Int) : S26 := xs.getD i.toNat z26
theorem at_T26 {w : World} {A : Option Addr} {n : Nat} {xs : List S26} (h : Kd.C k26 w A n xs) (i : Int) (h0 : 0 ≤ i) (h1 : i < n) : ∃ ad A6 c6, A = some ad ∧ w.cell? (ad.add (i.toNat * 7)) = some (.int .u8 (rd_T26 xs i).f0) ∧ w.cell? ⟨(ad.add (i.toNat * 7)).block, (ad.add (i.toNat * 7)).off + 1, none⟩ = some (.int .i64 (rd_T26 xs i).f1.f0) ∧ w.cell? ⟨(ad.add (i.toNat * 7)).block, (ad.add (i.toNat * 7)).off + 2, none⟩ = some (.int .i64 (rd_T26 xs i).f1.f1) ∧ w.cell? ⟨(ad.add (i.toNat * 7)).block, (ad.add (i.toNat * 7)).off + 3, none⟩ = some (.int .i64 (rd_T26 xs i).f1.f2) ∧ w.cell? ⟨(ad.add (i.toNat * 7)).block, (ad.add (i.toNat * 7)).off + 4, none⟩ = some (.int .i64 (rd_T26 xs i).f1.f3) ∧ w.cell? ⟨(ad.add (i.toNat * 7)).block, (ad.add (i.toNat * 7)).off + 5, none⟩ = some (.int .i64 (rd_T26 xs i).f2) ∧ w.cell? ⟨(ad.add (i.toNat * 7)).block, (ad.add (i.toNat * 7)).off + 6, none⟩ = some (.slice A6 (rd_T26 xs i).f3.length c6) ∧ (rd_T26 xs i).f3.length ≤ c6 ∧ k26.C w A6 (rd_T26 xs i).f3.length (rd_T26 xs i).f3 := by
  obtain ⟨ad, c, e, _, hK, hc0⟩ := Kd.C_get h z26 i h0 h1
  have hc : ∀ j u, c[j]? = some u → w.cell? (ad.add (i.toNat * 7 + j)) = some u := hc0
  obtain ⟨A6, c6, rfl, l6, g6⟩ := k26_open hK
  exact ⟨ad, A6, c6, e, hc 0 _ rfl, by rw [← add_field _ _ 1 (by omega)]; exact hc 1 _ rfl, by rw [← add_field _ _ 2 (by omega)]; exact hc 2 _ rfl, by rw [← add_field _ _ 3 (by omega)]; exact hc 3 _ rfl, by rw [← add_field _ _ 4 (by omega)]; exact hc 4 _ rfl, by rw [← add_field _ _ 5 (by omega)]; exact hc 5 _ rfl, by rw [← add_field _ _ 6 (by omega)]; exact hc 6 _ rfl, l6, g6⟩

/-! #### struct type 35 -/
structure S35 where
  f0 : Int
  f1 : S23
def z35 : S35 := ⟨(0 : Int), z23⟩
def k35 : Kd S35 := Kd.iso (Kd.pair (Kd.int .i64) k23) (fun x : S35 => (x.f0, x.f1))
def rd_T35 (xs : List S35) (i : Int) : S35 := xs.getD i.toNat z35
def rd_L5 (xs : List (List S35)) (i : Int) : (List S35) := xs.getD i.toNat ([] : List S35)
def rd_L6 (xs : List (List Int)) (i : Int) : (List Int) := xs.getD i.toNat ([] : List Int)
def rd_L8 (xs : List (List S23)) (i : Int) : (List S23) := xs.getD i.toNat ([] : List S23)
def rd_L9 (xs : List (List S26)) (i : Int) : (List S26) := xs.getD i.toNat ([] : List S26)
end Go.Proofs.Ytfdmfgaiblfbhaa.P
namespace Go.Proofs.Ytfdmfgaiblfbhaa.P
open Go.RowKit Go.Proofs.YtfdmfgaiblfbhaaW.PrintWords Go.Proofs.YtfdmfgaiblfbhaaW.PrintLast Go.Proofs.YtfdmfgaiblfbhaaW.PrintMore
attribute [local go_sem] max2_int min2_int max_two min_two max_three min_three max_four min_four   -- for this text's walks alone
set_option linter.unusedVariables false
set_option linter.unusedSimpArgs false

/-! ### split_Sizes: function 104 -/
def split_Sizes.j0 : Nat → Int → Int → Bool → Option (Int × Int × Bool)
 | 0, _, _, _ => none
 | k + 1, x0, x1, x13 => if x13 = true then (some (0, 0, false)) else (if x1 = 0 then (some (wrap64 ((wrap64 (x0 - 1)) - (wrap64 ((wrap64 ((wrap64 (Int.tdiv x0 2)) + (Int.tmod x0 2))) - 1))), wrap64 ((wrap64 ((wrap64 (Int.tdiv x0 2)) + (Int.tmod x0 2))) - 1), true)) else (some (wrap64 ((wrap64 (x0 - 1)) - (mx 1 (mn x1 (wrap64 (x0 - 2))))), mx 1 (mn x1 (wrap64 (x0 - 2))), true)))
def split_Sizes.f (k : Nat) (a0 : Int) (a1 : Int) : Option (Int × Int × Bool) := if a0 < 3 then (split_Sizes.j0 k a0 a1 true) else (split_Sizes.j0 k a0 a1 (decide (a1 < 0)))
set_option maxHeartbeats 8000000 in
set_option maxRecDepth 100000 in
theorem split_Sizes.calls (k : Nat) (a0 : Int) (a1 : Int) (r1 : Int) (r2 : Int) (r3 : Bool) (w : World) (h : split_Sizes.f k a0 a1 = some (r1, r2, r3)) :
  Calls Try.prog 104 #[.int .i64 a0, .int .i64 a1] w fun e w' => e = .returned (.tuple #[.int .i64 r1, .int .i64 r2, .bool r3]) ∧ Below w.heap.size w w' := by
 have HB := Aside0.mk (Below.refl w.heap.size w)
 have H : (if a0 < 3 then (split_Sizes.j0 k a0 a1 true) else (split_Sizes.j0 k a0 a1 (decide (a1 < 0)))) = some (r1, r2, r3) := h
 clear h
 have HC3 := Aside0.mk H
 clear H
 go_enter Try.func104, Try.ntmps104
 go_upto_region 1 with (fail)
 go_cut [13] (fun v13 wc => ∃ (kq : Nat) (x13_2 : Bool), v13 = .bool x13_2 ∧ Aside0 (split_Sizes.j0 kq a0 a1 x13_2 = some (r1, r2, r3)) ∧ Aside0 (kq ≤ k) ∧ Aside0 (Below w.heap.size w wc))
 case first =>
  have H := HC3.out
  clear HC3
  by_cases c4 : a0 < 3
  ·rw [if_pos c4] at H
   have c4b0 : decide (a0 < 3) = true := decide_eq_true c4
   clear c4
   (first | rw [c4b0] | (simp only [i64_w, i32_w]; rw [c4b0]) | skip)
   have H' := Aside0.mk H
   clear H
   go_wp2
   go_meet
   case rel => exact ⟨_, (true), (by first | rfl | (simp; done) | (simp [*]; done)), H', ⟨by first | omega | exact Nat.le_refl _⟩, ⟨by repeat (first | (with_reducible first | exact HB.out | apply below_alloc | apply pw_below_drewN | apply below_drew1) | exact HB.out)⟩⟩
  ·rw [if_neg c4] at H
   have c4b0 : decide (a0 < 3) = false := decide_eq_false c4
   clear c4
   (first | rw [c4b0] | (simp only [i64_w, i32_w]; rw [c4b0]) | skip)
   have H' := Aside0.mk H
   clear H
   go_wp2
   go_meet
   case rel => exact ⟨_, (decide (a1 < 0)), (by first | rfl | (simp; done) | (simp [*]; done)), H', ⟨by first | omega | exact Nat.le_refl _⟩, ⟨by repeat (first | (with_reducible first | exact HB.out | apply below_alloc | apply pw_below_drewN | apply below_drew1) | exact HB.out)⟩⟩
 case rest =>
  clear HC3
  try clear c1
  try clear p2
  try clear c4
  try clear c4b0
  obtain ⟨kq, x13_2, rfl, HA, HJ2, HB⟩ := hcut
  cases kq with
  | zero => exact absurd HA.out (by simp [split_Sizes.j0])
  | succ kj2 =>
   have H := HA.out
   clear HA
   simp only [split_Sizes.j0] at H
   by_cases c5 : x13_2 = true
   ·subst c5
    have H1 : (some (0, 0, false)) = some (r1, r2, r3) := by rw [if_pos rfl] at H; exact H
    clear H
    have H := H1
    clear H1
    simp only [Option.some.injEq, Prod.mk.injEq] at H
    obtain ⟨rfl, rfl, rfl⟩ := H
    go_wp2
    go_ret3
    exact ⟨by first | rfl | (simp [errW_none, errW_some] <;> rfl) | (simp [*, errW_none, errW_some] <;> rfl), by repeat (first | (with_reducible first | exact HB.out | apply below_alloc | apply pw_below_drewN | apply below_drew1) | exact HB.out)⟩
   ·replace c5 := Bool.eq_false_iff.mpr c5
    subst c5
    have H1 : (if a1 = 0 then (some (wrap64 ((wrap64 (a0 - 1)) - (wrap64 ((wrap64 ((wrap64 (Int.tdiv a0 2)) + (Int.tmod a0 2))) - 1))), wrap64 ((wrap64 ((wrap64 (Int.tdiv a0 2)) + (Int.tmod a0 2))) - 1), true)) else (some (wrap64 ((wrap64 (a0 - 1)) - (mx 1 (mn a1 (wrap64 (a0 - 2))))), mx 1 (mn a1 (wrap64 (a0 - 2))), true))) = some (r1, r2, r3) := by rw [if_neg (show ¬ (false = true) by decide)] at H; exact H
    clear H
    have H := H1
    clear H1
    obtain ⟨ji6, hji6⟩ : ∃ j_ : Int, (mn a1 (wrap64 (a0 - 2))) = j_ := ⟨_, rfl⟩
    replace H : (if a1 = 0 then (some (wrap64 ((wrap64 (a0 - 1)) - (wrap64 ((wrap64 ((wrap64 (Int.tdiv a0 2)) + (Int.tmod a0 2))) - 1))), wrap64 ((wrap64 ((wrap64 (Int.tdiv a0 2)) + (Int.tmod a0 2))) - 1), true)) else (some (wrap64 ((wrap64 (a0 - 1)) - (mx 1 (ji6))), mx 1 (ji6), true))) = some (r1, r2, r3) := by first | (rw [hji6] at H; exact H) | (simp only [hji6] at H ⊢; exact H)
    have hji6_ : (if (wrap64 (a0 - 2)) < a1 then (wrap64 (a0 - 2)) else a1) = ji6 := hji6
    obtain ⟨ji7, hji7⟩ : ∃ j_ : Int, (mx 1 (ji6)) = j_ := ⟨_, rfl⟩
    replace H : (if a1 = 0 then (some (wrap64 ((wrap64 (a0 - 1)) - (wrap64 ((wrap64 ((wrap64 (Int.tdiv a0 2)) + (Int.tmod a0 2))) - 1))), wrap64 ((wrap64 ((wrap64 (Int.tdiv a0 2)) + (Int.tmod a0 2))) - 1), true)) else (some (wrap64 ((wrap64 (a0 - 1)) - (ji7)), ji7, true))) = some (r1, r2, r3) := by first | (rw [hji7] at H; exact H) | (simp only [hji7] at H ⊢; exact H)
    have hji7_ : (if 1 < (ji6) then (ji6) else 1) = ji7 := hji7
    by_cases c8 : a1 = 0
    ·rw [if_pos c8] at H
     have c8b0 : (a1 == 0) = true := beq_iff_eq.mpr c8
     have c8b1 : (a1 != 0) = false := bne_eq_false_iff_eq.mpr c8
     clear c8
     simp only [Option.some.injEq, Prod.mk.injEq] at H
     obtain ⟨rfl, rfl, rfl⟩ := H
     go_wp2
     go_ret3
     exact ⟨by first | rfl | (simp [errW_none, errW_some] <;> rfl) | (simp only [← hji6, ← hji7]; first | rfl | (simp [errW_none, errW_some] <;> rfl)) | (simp [*, errW_none, errW_some] <;> rfl), by repeat (first | (with_reducible first | exact HB.out | apply below_alloc | apply pw_below_drewN | apply below_drew1) | exact HB.out)⟩
    ·rw [if_neg c8] at H
     have c8b0 : (a1 == 0) = false := beq_eq_false_iff_ne.mpr c8
     have c8b1 : (a1 != 0) = true := bne_iff_ne.mpr c8
     simp only [Option.some.injEq, Prod.mk.injEq] at H
     obtain ⟨rfl, rfl, rfl⟩ := H
     go_wp2
     go_ret3
     exact ⟨by first | rfl | (simp [errW_none, errW_some] <;> rfl) | (simp only [← hji6, ← hji7]; first | rfl | (simp [errW_none, errW_some] <;> rfl)) | (simp [*, errW_none, errW_some] <;> rfl), by repeat (first | (with_reducible first | exact HB.out | apply below_alloc | apply pw_below_drewN | apply below_drew1) | exact HB.out)⟩

end Go.Proofs.Ytfdmfgaiblfbhaa.P
namespace Go.Proofs.Ytfdmfgaiblfbhaa.P
open Go.RowKit Go.Proofs.YtfdmfgaiblfbhaaW.PrintWords Go.Proofs.YtfdmfgaiblfbhaaW.PrintLast Go.Proofs.YtfdmfgaiblfbhaaW.PrintMore
attribute [local go_sem] max2_int min2_int max_two min_two max_three min_three max_four min_four   -- for this text's walks alone
set_option linter.unusedVariables false
set_option linter.unusedSimpArgs false

/-! ### sashref12_Sizes: function 105 -/
mutual
def sashref12_Sizes.j0 : Nat → Int → Int → Bool → Option (Int × Int × Bool)
 | 0, _, _, _ => none
 | k + 1, x0, x1, x13 => if x13 = true then (some (0, 0, false)) else (if x1 = 0 then (if (Int.tmod x0 2) = 1 then (sashref12_Sizes.j1 k x0 (wrap64 (Int.tdiv x0 2))) else (sashref12_Sizes.j1 k x0 (wrap64 ((wrap64 (Int.tdiv x0 2)) - 1)))) else (sashref12_Sizes.j1 k x0 x1))
def sashref12_Sizes.j1 : Nat → Int → Int → Option (Int × Int × Bool)
 | 0, _, _ => none
 | k + 1, x0, x7 => if x7 < 1 then (if 1 > (wrap64 (x0 - 2)) then (some (wrap64 ((wrap64 (x0 - 1)) - (wrap64 (x0 - 2))), wrap64 (x0 - 2), true)) else (some (wrap64 ((wrap64 (x0 - 1)) - 1), 1, true))) else (if x7 > (wrap64 (x0 - 2)) then (some (wrap64 ((wrap64 (x0 - 1)) - (wrap64 (x0 - 2))), wrap64 (x0 - 2), true)) else (some (wrap64 ((wrap64 (x0 - 1)) - x7), x7, true)))
end
def sashref12_Sizes.f (k : Nat) (a0 : Int) (a1 : Int) : Option (Int × Int × Bool) := if a0 < 3 then (sashref12_Sizes.j0 k a0 a1 true) else (sashref12_Sizes.j0 k a0 a1 (decide (a1 < 0)))
set_option maxHeartbeats 8000000 in
set_option maxRecDepth 100000 in
theorem sashref12_Sizes.calls (k : Nat) (a0 : Int) (a1 : Int) (r1 : Int) (r2 : Int) (r3 : Bool) (w : World) (h : sashref12_Sizes.f k a0 a1 = some (r1, r2, r3)) :
  Calls Try.prog 105 #[.int .i64 a0, .int .i64 a1] w fun e w' => e = .returned (.tuple #[.int .i64 r1, .int .i64 r2, .bool r3]) ∧ Drawn0 w w' := by
 have H : (if a0 < 3 then (sashref12_Sizes.j0 k a0 a1 true) else (sashref12_Sizes.j0 k a0 a1 (decide (a1 < 0)))) = some (r1, r2, r3) := h
 clear h
 have HC3 := Aside0.mk H
 clear H
 go_enter Try.func105, Try.ntmps105
 go_upto_region 1 with (fail)
 go_cut [13] (fun v13 wc => ∃ (kq : Nat) (x13_2 : Bool), v13 = .bool x13_2 ∧ Aside0 (sashref12_Sizes.j0 kq a0 a1 x13_2 = some (r1, r2, r3)) ∧ Aside0 (kq ≤ k) ∧ Drawn0 w wc)
 case first =>
  have H := HC3.out
  clear HC3
  by_cases c4 : a0 < 3
  ·rw [if_pos c4] at H
   have c4b0 : decide (a0 < 3) = true := decide_eq_true c4
   clear c4
   (first | rw [c4b0] | (simp only [i64_w, i32_w]; rw [c4b0]) | skip)
   have H' := Aside0.mk H
   clear H
   go_wp2
   go_meet
   case rel => exact ⟨_, (true), (by first | rfl | (simp; done) | (simp [*]; done)), H', ⟨by first | omega | exact Nat.le_refl _⟩, by repeat (first | exact Drawn0.refl _ | apply Drawn0.step)⟩
  ·rw [if_neg c4] at H
   have c4b0 : decide (a0 < 3) = false := decide_eq_false c4
   clear c4
   (first | rw [c4b0] | (simp only [i64_w, i32_w]; rw [c4b0]) | skip)
   have H' := Aside0.mk H
   clear H
   go_wp2
   go_meet
   case rel => exact ⟨_, (decide (a1 < 0)), (by first | rfl | (simp; done) | (simp [*]; done)), H', ⟨by first | omega | exact Nat.le_refl _⟩, by repeat (first | exact Drawn0.refl _ | apply Drawn0.step)⟩
 case rest =>
  clear HC3
  try clear c1
  try clear p2
  try clear c4
  try clear c4b0
  obtain ⟨kq, x13_2, rfl, HA, HJ2, ⟨mc2, rfl⟩⟩ := hcut
  cases kq with
  | zero => exact absurd HA.out (by simp [sashref12_Sizes.j0])
  | succ kj2 =>
   have H := HA.out
   clear HA
   simp only [sashref12_Sizes.j0] at H
   by_cases c5 : x13_2 = true
   ·subst c5
    have H1 : (some (0, 0, false)) = some (r1, r2, r3) := by rw [if_pos rfl] at H; exact H
    clear H
    have H := H1
    clear H1
    simp only [Option.some.injEq, Prod.mk.injEq] at H
    obtain ⟨rfl, rfl, rfl⟩ := H
    go_wp2
    go_ret3
    exact ⟨by first | rfl | (simp; done) | (simp [*]; done), by repeat (first | exact Drawn0.refl _ | apply Drawn0.step)⟩
   ·replace c5 := Bool.eq_false_iff.mpr c5
    subst c5
    have H1 : (if a1 = 0 then (if (Int.tmod a0 2) = 1 then (sashref12_Sizes.j1 kj2 a0 (wrap64 (Int.tdiv a0 2))) else (sashref12_Sizes.j1 kj2 a0 (wrap64 ((wrap64 (Int.tdiv a0 2)) - 1)))) else (sashref12_Sizes.j1 kj2 a0 a1)) = some (r1, r2, r3) := by rw [if_neg (show ¬ (false = true) by decide)] at H; exact H
    clear H
    have H := H1
    clear H1
    have HC6 := Aside0.mk H
    clear H
    go_upto_if 16 with (fail)
    go_cut [7] (fun v7 wc => ∃ (kq : Nat) (x7_5 : Int), v7 = .int .i64 x7_5 ∧ Aside0 (sashref12_Sizes.j1 kq a0 x7_5 = some (r1, r2, r3)) ∧ Aside0 (kq ≤ kj2) ∧ Drawn0 w wc)
    case first =>
     have H := HC6.out
     clear HC6
     by_cases c7 : a1 = 0
     ·rw [if_pos c7] at H
      have c7b0 : (a1 == 0) = true := beq_iff_eq.mpr c7
      have c7b1 : (a1 != 0) = false := bne_eq_false_iff_eq.mpr c7
      clear c7
      (first | rw [c7b0] | (simp only [i64_w, i32_w]; rw [c7b0]) | skip)
      by_cases c8 : (Int.tmod a0 2) = 1
      ·rw [if_pos c8] at H
       have c8b0 : ((Int.tmod a0 2) == 1) = true := beq_iff_eq.mpr c8
       have c8b1 : ((Int.tmod a0 2) != 1) = false := bne_eq_false_iff_eq.mpr c8
       clear c8
       have H' := Aside0.mk H
       clear H
       go_wp2
       go_meet
       case rel => exact ⟨_, (wrap64 (Int.tdiv a0 2)), (by first | rfl | (simp; done) | (simp [*]; done)), H', ⟨by have := HJ2.out; first | omega | exact Nat.le_refl _⟩, by repeat (first | exact Drawn0.refl _ | apply Drawn0.step)⟩
      ·rw [if_neg c8] at H
       have c8b0 : ((Int.tmod a0 2) == 1) = false := beq_eq_false_iff_ne.mpr c8
       have c8b1 : ((Int.tmod a0 2) != 1) = true := bne_iff_ne.mpr c8
       have H' := Aside0.mk H
       clear H
       go_wp2
       go_meet
       case rel => exact ⟨_, (wrap64 ((wrap64 (Int.tdiv a0 2)) - 1)), (by first | rfl | (simp; done) | (simp [*]; done)), H', ⟨by have := HJ2.out; first | omega | exact Nat.le_refl _⟩, by repeat (first | exact Drawn0.refl _ | apply Drawn0.step)⟩
     ·rw [if_neg c7] at H
      have c7b0 : (a1 == 0) = false := beq_eq_false_iff_ne.mpr c7
      have c7b1 : (a1 != 0) = true := bne_iff_ne.mpr c7
      (first | rw [c7b0] | (simp only [i64_w, i32_w]; rw [c7b0]) | skip)
      have H' := Aside0.mk H
      clear H
      go_wp2
      go_meet
      case rel => exact ⟨_, (a1), (by first | rfl | (simp; done) | (simp [*]; done)), H', ⟨by have := HJ2.out; first | omega | exact Nat.le_refl _⟩, by repeat (first | exact Drawn0.refl _ | apply Drawn0.step)⟩
    case rest =>
     clear HC6
     try clear c1
     try clear c2
     try clear p2
     try clear c4
     try clear c4b0
     try clear c5
     try clear p6
     try clear c7
     try clear c7b0
     try clear c7b1
     try clear c8
     try clear c8b0
     try clear c8b1
     try clear p2
     obtain ⟨kq, x7_5, rfl, HA, HJ5, ⟨mc5, rfl⟩⟩ := hcut
     cases kq with
     | zero => exact absurd HA.out (by simp [sashref12_Sizes.j1])
     | succ kj5 =>
      have H := HA.out
      clear HA
      simp only [sashref12_Sizes.j1] at H
      by_cases c9 : x7_5 < 1
      ·rw [if_pos c9] at H
       have c9b0 : decide (x7_5 < 1) = true := decide_eq_true c9
       clear c9
       by_cases c10 : 1 > (wrap64 (a0 - 2))
       ·rw [if_pos c10] at H
        have c10b0 : decide ((wrap64 (a0 - 2)) < 1) = true := decide_eq_true c10
        clear c10
        simp only [Option.some.injEq, Prod.mk.injEq] at H
        obtain ⟨rfl, rfl, rfl⟩ := H
        go_wp2
        go_ret3
        exact ⟨by first | rfl | (simp; done) | (simp [*]; done), by repeat (first | exact Drawn0.refl _ | apply Drawn0.step)⟩
       ·rw [if_neg c10] at H
        have c10b0 : decide ((wrap64 (a0 - 2)) < 1) = false := decide_eq_false c10
        clear c10
        simp only [Option.some.injEq, Prod.mk.injEq] at H
        obtain ⟨rfl, rfl, rfl⟩ := H
        go_wp2
        go_ret3
        exact ⟨by first | rfl | (simp; done) | (simp [*]; done), by repeat (first | exact Drawn0.refl _ | apply Drawn0.step)⟩
      ·rw [if_neg c9] at H
       have c9b0 : decide (x7_5 < 1) = false := decide_eq_false c9
       clear c9
       by_cases c11 : x7_5 > (wrap64 (a0 - 2))
       ·rw [if_pos c11] at H
        have c11b0 : decide ((wrap64 (a0 - 2)) < x7_5) = true := decide_eq_true c11
        clear c11
        simp only [Option.some.injEq, Prod.mk.injEq] at H
        obtain ⟨rfl, rfl, rfl⟩ := H
        go_wp2
        go_ret3
        exact ⟨by first | rfl | (simp; done) | (simp [*]; done), by repeat (first | exact Drawn0.refl _ | apply Drawn0.step)⟩
       ·rw [if_neg c11] at H
        have c11b0 : decide ((wrap64 (a0 - 2)) < x7_5) = false := decide_eq_false c11
        clear c11
        simp only [Option.some.injEq, Prod.mk.injEq] at H
        obtain ⟨rfl, rfl, rfl⟩ := H
        go_wp2
        go_ret3
        exact ⟨by first | rfl | (simp; done) | (simp [*]; done), by repeat (first | exact Drawn0.refl _ | apply Drawn0.step)⟩

end Go.Proofs.Ytfdmfgaiblfbhaa.P
/- A row gone through till a test says yes: plain words. -/
namespace Go.Proofs.Ytfdmfgaiblfbhaa.P
open Go.RowKit Go.Proofs.YtfdmfgaiblfbhaaW.PrintWords Go.Proofs.YtfdmfgaiblfbhaaW.PrintLast Go.Proofs.YtfdmfgaiblfbhaaW.PrintMore
/-- A call of a function that has a body enters it. -/
theorem enters_fn {P : Program} {f : FuncId} {fn : Func} (hf : P.funcs[f]? = some fn) (hname : (fn.name == "runtime.NumGoroutine") = false) (hb : fn.body.isSome = true) : ∀ args w, (callFunc f args).run P w = .ok (.enter f args) w := by
  intro args w
  obtain ⟨c, hc⟩ := Option.isSome_iff_exists.1 hb
  have h1 : fn.name ≠ "runtime.NumGoroutine" := by simpa using hname
  simp [callFunc, hf, h1, hc, mark]
section
variable {σ α : Type}
/-- Where the test first says yes (-1), and the state behind. -/
def scanI (step : σ → α → Bool × σ) : Int → σ → List α → Int × σ
  | _, s, [] => (-1, s)
  | i, s, x :: xs => if (step s x).1 = true then (i, (step s x).2) else scanI step (i + 1) (step s x).2 xs
/-- Whether it ever does. -/
def scanB (step : σ → α → Bool × σ) : σ → List α → Bool × σ
  | s, [] => (false, s)
  | s, x :: xs => if (step s x).1 = true then (true, (step s x).2) else scanB step (step s x).2 xs
theorem scanI_B (step : σ → α → Bool × σ) : ∀ (l : List α) (i : Int) (s : σ), 0 ≤ i → (scanB step s l).1 = decide (0 ≤ (scanI step i s l).1) ∧ (scanB step s l).2 = (scanI step i s l).2 := by
  intro l
  induction l with
  | nil => intro i s h; exact ⟨by simp [scanB, scanI], rfl⟩
  | cons x xs ih =>
    intro i s h
    simp only [scanB, scanI]
    split
    · exact ⟨by simp [h], rfl⟩
    · exact ih (i + 1) _ (by omega)
theorem scanB_eq (step : σ → α → Bool × σ) (s : σ) (l : List α) : scanB step s l = (decide (0 ≤ (scanI step 0 s l).1), (scanI step 0 s l).2) := by
  have h := scanI_B step l 0 s (by omega)
  exact Prod.ext h.1 h.2
theorem scan_at (step : σ → α → Bool × σ) (z : α) (l : List α) (k : Nat) (h : k < l.length) (t : σ) :
    scanI step k t (l.drop k) = if (step t (l.getD (k : Int).toNat z)).1 = true then ((k : Int), (step t (l.getD (k : Int).toNat z)).2) else scanI step ((k + 1 : Nat) : Int) (step t (l.getD (k : Int).toNat z)).2 (l.drop (k + 1)) := by
  rw [List.drop_eq_getElem_cons h]
  simp only [scanI, Int.toNat_natCast, List.getD_eq_getElem?_getD, List.getElem?_eq_getElem h, Option.getD_some]
  rfl
theorem scan_mem (z : α) (l : List α) (k : Nat) (h : k < l.length) : l.getD (k : Int).toNat z ∈ l := by
  simp only [Int.toNat_natCast, List.getD_eq_getElem?_getD, List.getElem?_eq_getElem h, Option.getD_some]
  exact List.getElem_mem h
/-- A test without a state. -/
theorem scanB_any (p : α → Bool) : ∀ (l : List α) (s : Unit), scanB (fun _ x => (p x, ())) s l = (l.any p, ()) := by
  intro l
  induction l with
  | nil => intro s; rfl
  | cons x xs ih =>
    intro s
    simp only [scanB, List.any_cons]
    cases h : p x with
    | true => simp
    | false => simp [ih]
end
end Go.Proofs.Ytfdmfgaiblfbhaa.P
/- slices.IndexFunc, slices.ContainsFunc at uint8, with any function value that only reads. -/
namespace Go.Proofs.Ytfdmfgaiblfbhaa.P
open Go.RowKit Go.Proofs.YtfdmfgaiblfbhaaW.PrintWords Go.Proofs.YtfdmfgaiblfbhaaW.PrintLast Go.Proofs.YtfdmfgaiblfbhaaW.PrintMore
set_option linter.unusedVariables false
set_option linter.unusedSimpArgs false
set_option maxHeartbeats 2000000 in
set_option maxRecDepth 100000 in
theorem idx187 (r : Int → Bool) (g : Nat) (lb : Array Value) (eg : ∀ args w, (callFunc g args).run Try.prog w = .ok (.enter g args) w) (l : List Int) (A : Option Addr) (c : Nat) (w : World) (hR : Kd.C (Kd.int .u8) w A l.length l)
    (hcall : ∀ (x : Int) (W : World), x ∈ l → Below w.heap.size w W → Calls Try.prog g (#[.int .u8 x] ++ lb) W fun e w' => e = .returned (.bool (r x)) ∧ Below W.heap.size W w') :
    Calls Try.prog 187 #[.slice A l.length c, .func (.func g) #[] lb] w fun e w' => ∃ i : Int, e = .returned (.int .i64 i) ∧ decide (i ≥ 0) = l.any r ∧ Below w.heap.size w w' := by
  have HR := Aside0.mk hR
  have HB := Aside0.mk (Below.refl w.heap.size w)
  have HCall := Aside0.mk hcall
  have HL := Aside0.mk (show l.length ≤ 9223372036854775807 from hR.2.1)
  clear hR hcall
  go_enter Try.func187, Try.ntmps187
  go_wp2
  go_loopg [5, 8] l.length (fun gg _ v8 wr => ∃ (kk : Nat), kk ≤ l.length ∧ l.length - kk ≤ gg ∧ v8 = .int .i64 kk ∧ Aside0 (Below w.heap.size w wr) ∧ Aside0 (l.any r = (l.drop kk).any r))
  case atStart => exact ⟨0, Nat.zero_le _, by omega, rfl, HB, ⟨by simp⟩⟩
  case round =>
    clear HB
    obtain ⟨kk, hkk, hg, rfl, HB, HS⟩ := hrel
    by_cases hlt : kk < l.length
    · have hltz : (kk : Int) < (l.length : Int) := by omega
      obtain ⟨ad, rfl, xi⟩ := Kd.at_int HR.out (kk : Int) (by omega) (by omega)
      have xi : w.cell? (ad.add kk) = some (.int .u8 (rd l (kk : Int))) := by simpa using xi
      replace xi := (HB.out.cell (World.block_lt_of_cell? w _ xi)).trans xi
      have hmem : rd l (kk : Int) ∈ l := by
        simp only [rd, Int.toNat_natCast, List.getD_eq_getElem?_getD, List.getElem?_eq_getElem hlt, Option.getD_some]
        exact List.getElem_mem _
      have hdr : l.drop kk = rd l (kk : Int) :: l.drop (kk + 1) := by
        rw [List.drop_eq_getElem_cons hlt]
        simp only [rd, Int.toNat_natCast, List.getD_eq_getElem?_getD, List.getElem?_eq_getElem hlt, Option.getD_some]
      have HX : Aside0 ((l.drop kk).any r = (r (rd l (kk : Int)) || (l.drop (kk + 1)).any r)) := ⟨by rw [hdr, List.any_cons]⟩
      have HC := Aside0.mk (HCall.out _ wr hmem HB.out)
      clear hmem hdr
      generalize rd l (kk : Int) = x at xi HX HC
      have hw : wrap64 ((kk : Int) + 1) = ((kk + 1 : Nat) : Int) := by unfold wrap64; have := HL.out; omega
      cases hq : r x with
      | true =>
        have h := HC.out
        rw [hq] at h
        have HH := Aside0.mk h
        have HQ := Aside0.mk hq
        clear hq HC h
        go_wp2_with fail
        refine HH.out.mono ?_
        rintro e w' ⟨rfl, hb⟩
        have HB' := Aside0.mk (below_step HB.out hb)
        clear hb
        go_wp2
        go_ret
        refine ⟨_, rfl, ?_, HB'.out⟩
        rw [HS.out, HX.out, HQ.out, Bool.true_or]
        exact decide_eq_true (by omega)
      | false =>
        have h := HC.out
        rw [hq] at h
        have HH := Aside0.mk h
        have HQ := Aside0.mk hq
        clear hq HC h
        go_wp2_with fail
        refine HH.out.mono ?_
        rintro e w' ⟨rfl, hb⟩
        have HB' := Aside0.mk (below_step HB.out hb)
        clear hb
        go_wp2
        go_roundg (l.length - (kk + 1))
        case measure => omega
        case rel =>
          refine ⟨kk + 1, by omega, by omega, (by rw [hw]), HB', ⟨?_⟩⟩
          rw [HS.out, HX.out, HQ.out, Bool.false_or]
    · have hltz : ¬ (kk : Int) < (l.length : Int) := by omega
      have hd : l.drop kk = [] := List.drop_eq_nil_of_le (by omega)
      have HS2 := Aside0.mk (hd ▸ HS.out)
      clear HS hd
      go_wp2
      go_ret
      refine ⟨_, rfl, ?_, HB.out⟩
      rw [HS2.out]
      rfl
set_option maxHeartbeats 1000000 in
theorem con162 (r : Int → Bool) (g : Nat) (lb : Array Value) (eg : ∀ args w, (callFunc g args).run Try.prog w = .ok (.enter g args) w) (l : List Int) (A : Option Addr) (c : Nat) (w : World) (hR : Kd.C (Kd.int .u8) w A l.length l)
    (hcall : ∀ (x : Int) (W : World), x ∈ l → Below w.heap.size w W → Calls Try.prog g (#[.int .u8 x] ++ lb) W fun e w' => e = .returned (.bool (r x)) ∧ Below W.heap.size W w') :
    Calls Try.prog 162 #[.slice A l.length c, .func (.func g) #[] lb] w fun e w' => e = .returned (.bool (l.any r)) ∧ Below w.heap.size w w' := by
  have HI := Aside0.mk (idx187 r g lb eg l A c w hR hcall)
  clear hR hcall
  go_enter Try.func162, Try.ntmps162
  go_wp2_with fail
  refine HI.out.mono ?_
  rintro e w' ⟨i, rfl, hd, hb'⟩
  have HB := Aside0.mk hb'
  have HN := Aside0.mk hd
  clear hb' hd
  go_wp2
  go_ret
  exact ⟨by rw [← HN.out]; rfl, HB.out⟩
end Go.Proofs.Ytfdmfgaiblfbhaa.P
/- slices.IndexFunc, slices.ContainsFunc at S26, with any function value that keeps an invariant of the world and of what is left of the row. -/
namespace Go.Proofs.Ytfdmfgaiblfbhaa.P
open Go.RowKit Go.Proofs.YtfdmfgaiblfbhaaW.PrintWords Go.Proofs.YtfdmfgaiblfbhaaW.PrintLast Go.Proofs.YtfdmfgaiblfbhaaW.PrintMore

set_option maxHeartbeats 2000000 in
set_option maxRecDepth 100000 in
theorem idxs192 (Inv : List S26 → World → Prop) (r : S26 → Bool) (g : Nat) (lb : Array Value) (eg : ∀ args w, (callFunc g args).run Try.prog w = .ok (.enter g args) w) (l : List S26) (A : Option Addr) (c : Nat)
    (w0 : World) (hR : Kd.C k26 w0 A l.length l) (hW : ∀ s W, Inv s W → Below w0.heap.size w0 W) (hD : ∀ s W n, Inv s W → Inv s (W.drewN n))
    (hcall : ∀ (x : S26) (rest : List S26) (W : World) (B : Option Addr) (cb : Nat), x ∈ l → (∃ pre, pre ++ x :: rest = l) → Inv (x :: rest) W → Kd.C k26 w0 B x.f3.length x.f3 → x.f3.length ≤ cb → Calls Try.prog g (#[.agg #[.int .u8 x.f0, .int .i64 x.f1.f0, .int .i64 x.f1.f1, .int .i64 x.f1.f2, .int .i64 x.f1.f3, .int .i64 x.f2, .slice B x.f3.length cb]] ++ lb) W fun e w' => e = .returned (.bool (r x)) ∧ Inv (if r x = true then [] else rest) w')
    (w : World) (hI : Inv l w) (hl : l.length ≤ 9223372036854775807) :
    Calls Try.prog 192 #[.slice A l.length c, .func (.func g) #[] lb] w fun e w' => ∃ i : Int, e = .returned (.int .i64 i) ∧ decide (i ≥ 0) = l.any r ∧ Inv [] w' := by
  have HR := Aside0.mk hR
  have HW := Aside0.mk hW
  have HD := Aside0.mk hD
  have HI := Aside0.mk hI
  have HCall := Aside0.mk hcall
  clear hR hW hcall hD hI
  go_enter Try.func192, Try.ntmps192
  go_wp2
  go_loopg [5, 8] l.length (fun gg _ v8 wr => ∃ (kk : Nat), kk ≤ l.length ∧ l.length - kk ≤ gg ∧ v8 = .int .i64 kk ∧ Aside0 (Inv (l.drop kk) wr) ∧ Aside0 (l.any r = (l.drop kk).any r))
  case atStart => exact ⟨0, Nat.zero_le _, by omega, rfl, ⟨by simpa using HI.out⟩, ⟨by simp⟩⟩
  case round =>
    clear HI
    obtain ⟨kk, hkk, hg, rfl, HI, HS⟩ := hrel
    by_cases hlt : kk < l.length
    · have hltz : (kk : Int) < (l.length : Int) := by omega
      obtain ⟨ad, B, cb, rfl, hc0, hc1, hc2, hc3, hc4, hc5, hc6, hlb, hgb⟩ := at_T26 HR.out (kk : Int) (by omega) (by omega)
      have hbw := HW.out _ wr HI.out
      replace hc0 := (hbw.cell (World.block_lt_of_cell? w0 _ hc0)).trans hc0
      replace hc1 := (hbw.cell (World.block_lt_of_cell? w0 _ hc1)).trans hc1
      replace hc2 := (hbw.cell (World.block_lt_of_cell? w0 _ hc2)).trans hc2
      replace hc3 := (hbw.cell (World.block_lt_of_cell? w0 _ hc3)).trans hc3
      replace hc4 := (hbw.cell (World.block_lt_of_cell? w0 _ hc4)).trans hc4
      replace hc5 := (hbw.cell (World.block_lt_of_cell? w0 _ hc5)).trans hc5
      replace hc6 := (hbw.cell (World.block_lt_of_cell? w0 _ hc6)).trans hc6
      clear hbw
      have hmem : (rd_T26 l (kk : Int)) ∈ l := scan_mem z26 l kk hlt
      have hdr : l.drop kk = rd_T26 l (kk : Int) :: l.drop (kk + 1) := by
        rw [List.drop_eq_getElem_cons hlt]
        simp only [rd_T26, Int.toNat_natCast, List.getD_eq_getElem?_getD, List.getElem?_eq_getElem hlt, Option.getD_some]
      have HX : Aside0 ((l.drop kk).any r = (r (rd_T26 l (kk : Int)) || (l.drop (kk + 1)).any r)) := ⟨by rw [hdr, List.any_cons]⟩
      have hcall := HCall.out _ (l.drop (kk + 1)) wr B cb hmem ⟨l.take kk, by rw [← hdr]; exact List.take_append_drop kk l⟩ (by rw [← hdr]; exact HI.out) hgb hlb
      clear hmem hgb hlb hdr
      simp only [Int.toNat_natCast] at hc0 hc1 hc2 hc3 hc4 hc5 hc6
      generalize rd_T26 l (kk : Int) = x at hc0 hc1 hc2 hc3 hc4 hc5 hc6 HX hcall
      have HC := Aside0.mk hcall
      clear hcall
      cases hq : r x with
      | true =>
        have h := HC.out
        rw [hq, if_pos rfl] at h
        have HH := Aside0.mk h
        have HQ := Aside0.mk hq
        clear hq HC h
        go_wp2_with fail
        refine HH.out.mono ?_
        rintro e w' ⟨rfl, hb'⟩
        have HB := Aside0.mk hb'
        clear hb'
        go_wp2
        go_ret
        refine ⟨_, rfl, ?_, HB.out⟩
        rw [HS.out, HX.out, HQ.out, Bool.true_or]
        exact decide_eq_true (by omega)
      | false =>
        have h := HC.out
        rw [hq, if_neg (by simp)] at h
        have HH := Aside0.mk h
        have HQ := Aside0.mk hq
        clear hq HC h
        go_wp2_with fail
        refine HH.out.mono ?_
        rintro e w' ⟨rfl, hb'⟩
        have HB := Aside0.mk hb'
        clear hb'
        go_wp2
        go_roundg (l.length - (kk + 1))
        case measure => omega
        case rel =>
          refine ⟨kk + 1, by omega, by omega, by go_num, HB, ⟨?_⟩⟩
          rw [HS.out, HX.out, HQ.out, Bool.false_or]
    · have hltz : ¬ (kk : Int) < (l.length : Int) := by omega
      have hd : l.drop kk = [] := List.drop_eq_nil_of_le (by omega)
      have HI2 := Aside0.mk (hd ▸ HI.out)
      have HS2 := Aside0.mk (hd ▸ HS.out)
      clear HI HS hd
      go_wp2
      go_ret
      refine ⟨_, rfl, ?_, HI2.out⟩
      rw [HS2.out]
      rfl

set_option maxHeartbeats 1000000 in
theorem cons174 (Inv : List S26 → World → Prop) (r : S26 → Bool) (g : Nat) (lb : Array Value) (eg : ∀ args w, (callFunc g args).run Try.prog w = .ok (.enter g args) w) (l : List S26) (A : Option Addr) (c : Nat)
    (w0 : World) (hR : Kd.C k26 w0 A l.length l) (hW : ∀ s W, Inv s W → Below w0.heap.size w0 W) (hD : ∀ s W n, Inv s W → Inv s (W.drewN n))
    (hcall : ∀ (x : S26) (rest : List S26) (W : World) (B : Option Addr) (cb : Nat), x ∈ l → (∃ pre, pre ++ x :: rest = l) → Inv (x :: rest) W → Kd.C k26 w0 B x.f3.length x.f3 → x.f3.length ≤ cb → Calls Try.prog g (#[.agg #[.int .u8 x.f0, .int .i64 x.f1.f0, .int .i64 x.f1.f1, .int .i64 x.f1.f2, .int .i64 x.f1.f3, .int .i64 x.f2, .slice B x.f3.length cb]] ++ lb) W fun e w' => e = .returned (.bool (r x)) ∧ Inv (if r x = true then [] else rest) w')
    (w : World) (hI : Inv l w) (hl : l.length ≤ 9223372036854775807) :
    Calls Try.prog 174 #[.slice A l.length c, .func (.func g) #[] lb] w fun e w' => e = .returned (.bool (l.any r)) ∧ Inv [] w' := by
  have hi := idxs192 Inv r g lb eg l A c w0 hR hW hD hcall w hI hl
  clear hR hW hD hcall hI
  have HI := Aside0.mk hi
  clear hi
  go_enter Try.func174, Try.ntmps174
  go_wp2_with fail
  refine HI.out.mono ?_
  rintro e w' ⟨i, rfl, hd, hb'⟩
  have HB := Aside0.mk hb'
  have HN := Aside0.mk hd
  clear hb' hd
  go_wp2
  go_ret
  exact ⟨by rw [← HN.out]; rfl, HB.out⟩
end Go.Proofs.Ytfdmfgaiblfbhaa.P
namespace Go.Proofs.Ytfdmfgaiblfbhaa.P
open Go.RowKit Go.Proofs.YtfdmfgaiblfbhaaW.PrintWords Go.Proofs.YtfdmfgaiblfbhaaW.PrintLast Go.Proofs.YtfdmfgaiblfbhaaW.PrintMore
attribute [local go_sem] max2_int min2_int max_two min_two max_three min_three max_four min_four   -- for this text's walks alone
set_option linter.unusedVariables false
set_option linter.unusedSimpArgs false

theorem eqA23 (d : Nat) (w : World) (x0 y0 : Int) (x1 y1 : Int) (x2 y2 : Int) (x3 y3 : Int) :
    (Op.equalIn (d + 2) 23 (.agg #[.int .i64 x0, .int .i64 x1, .int .i64 x2, .int .i64 x3]) (.agg #[.int .i64 y0, .int .i64 y1, .int .i64 y2, .int .i64 y3])).run Try.prog w = .ok (x0 == y0 && (x1 == y1 && (x2 == y2 && (x3 == y3)))) w := by
  refine eqA_of Try.underlying23 (by kernel_rfl) ?_
  refine eqf_cons (by rfl) (by go_simp; rfl) (by go_simp; rfl) (by go_simp) ?_
  refine eqf_cons (by rfl) (by go_simp; rfl) (by go_simp; rfl) (by go_simp) ?_
  refine eqf_cons (by rfl) (by go_simp; rfl) (by go_simp; rfl) (by go_simp) ?_
  exact eqf_last (by rfl) (by go_simp; rfl) (by go_simp; rfl) (by go_simp)
end Go.Proofs.Ytfdmfgaiblfbhaa.P
namespace Go.Proofs.Ytfdmfgaiblfbhaa.P
open Go.RowKit Go.Proofs.YtfdmfgaiblfbhaaW.PrintWords Go.Proofs.YtfdmfgaiblfbhaaW.PrintLast Go.Proofs.YtfdmfgaiblfbhaaW.PrintMore
attribute [local go_sem] max2_int min2_int max_two min_two max_three min_three max_four min_four   -- for this text's walks alone
set_option linter.unusedVariables false
set_option linter.unusedSimpArgs false

/-! ### rect_turned: function 127 -/
def rect_turned.f (a0_0 : Int) (a0_1 : Int) (a0_2 : Int) (a0_3 : Int) (a1 : Int) : Option (Int × Int × Int × Int × Bool) := if a1 = 2 then (some (a0_1, a0_0, a0_3, a0_2, true)) else (if a1 = 1 then (some (a0_0, a0_1, a0_2, a0_3, true)) else (some (0, 0, 0, 0, false)))
set_option maxHeartbeats 8000000 in
set_option maxRecDepth 100000 in
theorem rect_turned.calls (a0_0 : Int) (a0_1 : Int) (a0_2 : Int) (a0_3 : Int) (a1 : Int) (r1 : Int) (r2 : Int) (r3 : Int) (r4 : Int) (r5 : Bool) (w : World) (h : rect_turned.f a0_0 a0_1 a0_2 a0_3 a1 = some (r1, r2, r3, r4, r5)) :
  Calls Try.prog 127 #[.agg #[.int .i64 a0_0, .int .i64 a0_1, .int .i64 a0_2, .int .i64 a0_3], .int .u8 a1] w fun e w' => e = .returned (.tuple #[.agg #[.int .i64 r1, .int .i64 r2, .int .i64 r3, .int .i64 r4], .bool r5]) ∧ Below w.heap.size w w' := by
 have hu23 := Try.underlying23
 have HB := Aside0.mk (Below.refl w.heap.size w)
 have H : (if a1 = 2 then (some (a0_1, a0_0, a0_3, a0_2, true)) else (if a1 = 1 then (some (a0_0, a0_1, a0_2, a0_3, true)) else (some (0, 0, 0, 0, false)))) = some (r1, r2, r3, r4, r5) := h
 clear h
 by_cases c3 : a1 = 2
 ·rw [if_pos c3] at H
  have c3b0 : (a1 == 2) = true := beq_iff_eq.mpr c3
  have c3b1 : (a1 != 2) = false := bne_eq_false_iff_eq.mpr c3
  clear c3
  simp only [Option.some.injEq, Prod.mk.injEq] at H
  obtain ⟨rfl, rfl, rfl, rfl, rfl⟩ := H
  go_enter Try.func127, Try.ntmps127
  go_wp2_with (first | ((with_reducible refine gate_dst (N := 2) rfl ?_); refine box_event ?hg (N := 2) ?hd (cs := #[.int .i64 a0_0, .int .i64 a0_1, .int .i64 a0_2, .int .i64 a0_3]) (t := 23) ?hr ?_; (case hd => rfl); (case hg => rfl); (case hr => first | (go_simp; done) | (go_simp; rfl)); intro gb243 hg w4 hbox hb; have n0_ := Aside0.mk (below_step (by repeat (first | (with_reducible first | exact HB.out | apply below_alloc | apply pw_below_drewN | apply below_drew1) | exact HB.out)) hb); have n1_ := Aside0.mk (hbox); have n2_ := Aside0.mk ((by rw [hg]; exact (below_size (by repeat (first | (with_reducible first | exact HB.out | apply below_alloc | apply pw_below_drewN | apply below_drew1) | exact HB.out))) : w.heap.size ≤ gb243)); have n3_ := Aside0.mk ((by rw [hg]; exact (below_size (by repeat (first | (with_reducible first | exact HB.out | apply below_alloc | apply pw_below_drewN | apply below_drew1) | exact HB.out))) : w.heap.size ≤ gb243)); clear HB; have HB := n0_; have BK243 := n1_; have GW243 := n2_; have GE243 := n3_; clear n0_ n1_ n2_ n3_; clear hb hbox hg) | ((with_reducible refine gate_dst (N := 4) rfl ?_); refine box_event ?hg (N := 4) ?hd (cs := #[.int .i64 0, .int .i64 0, .int .i64 0, .int .i64 0]) (t := 23) ?hr ?_; (case hd => rfl); (case hg => rfl); (case hr => first | (go_simp; done) | (go_simp; rfl)); intro gb244 hg w5 hbox hb; have n0_ := Aside0.mk (blk_below (g := gb243) (o := .cells #[.int .i64 a0_0, .int .i64 a0_1, .int .i64 a0_2, .int .i64 a0_3] 23 (0, 0)) (by (with_reducible repeat (first | refine blk_drewN ?_ _ | refine blk_drew ?_ | refine blk_alloc ?_ _)); exact BK243.out) hb); have n1_ := Aside0.mk (below_step (by repeat (first | (with_reducible first | exact HB.out | apply below_alloc | apply pw_below_drewN | apply below_drew1 | refine below_set ?_ GE243.out) | exact HB.out)) hb); have n2_ := Aside0.mk (hbox); have n3_ := Aside0.mk ((by rw [hg]; exact (below_size (by repeat (first | (with_reducible first | exact HB.out | apply below_alloc | apply pw_below_drewN | apply below_drew1 | refine below_set ?_ GE243.out) | exact HB.out))) : w.heap.size ≤ gb244)); have n4_ := Aside0.mk ((by rw [hg]; exact (below_size (by repeat (first | (with_reducible first | exact HB.out | apply below_alloc | apply pw_below_drewN | apply below_drew1 | refine below_set ?_ GE243.out) | exact HB.out))) : w.heap.size ≤ gb244)); have n5_ := Aside0.mk ((by rw [hg]; exact Nat.ne_of_lt (blk_lt (g := gb243) (o := .cells #[.int .i64 a0_0, .int .i64 a0_1, .int .i64 a0_2, .int .i64 a0_3] 23 (0, 0)) (by (with_reducible repeat (first | refine blk_drewN ?_ _ | refine blk_drew ?_ | refine blk_alloc ?_ _)); exact BK243.out)) : gb243 ≠ gb244)); have n6_ := Aside0.mk ((by rw [hg]; exact Nat.ne_of_gt (blk_lt (g := gb243) (o := .cells #[.int .i64 a0_0, .int .i64 a0_1, .int .i64 a0_2, .int .i64 a0_3] 23 (0, 0)) (by (with_reducible repeat (first | refine blk_drewN ?_ _ | refine blk_drew ?_ | refine blk_alloc ?_ _)); exact BK243.out)) : gb244 ≠ gb243)); clear BK243; clear HB; have BK243 := n0_; have HB := n1_; have BK244 := n2_; have GW244 := n3_; have GE244 := n4_; have NB243_244 := n5_; have NB244_243 := n6_; clear n0_ n1_ n2_ n3_ n4_ n5_ n6_; clear hb hbox hg; have hnb6 := NB243_244.out; have hnc6 := NB244_243.out; have hcz7_0 : w5.cell? ⟨gb243, 0, none⟩ = some (.int .i64 a0_0) := (blk_cell BK243.out 0).trans rfl; have hcz7_1 : w5.cell? ⟨gb243, 1, none⟩ = some (.int .i64 a0_1) := (blk_cell BK243.out 1).trans rfl; have hcz7_2 : w5.cell? ⟨gb243, 2, none⟩ = some (.int .i64 a0_2) := (blk_cell BK243.out 2).trans rfl; have hcz7_3 : w5.cell? ⟨gb243, 3, none⟩ = some (.int .i64 a0_3) := (blk_cell BK243.out 3).trans rfl; have hfz7_0 := blk_frozen BK243.out 0; have hfz7_1 := blk_frozen BK243.out 1; have hfz7_2 := blk_frozen BK243.out 2; have hfz7_3 := blk_frozen BK243.out 3; have hcz8_0 : w5.cell? ⟨gb244, 0, none⟩ = some (.int .i64 0) := (blk_cell BK244.out 0).trans rfl; have hcz8_1 : w5.cell? ⟨gb244, 1, none⟩ = some (.int .i64 0) := (blk_cell BK244.out 1).trans rfl; have hcz8_2 : w5.cell? ⟨gb244, 2, none⟩ = some (.int .i64 0) := (blk_cell BK244.out 2).trans rfl; have hcz8_3 : w5.cell? ⟨gb244, 3, none⟩ = some (.int .i64 0) := (blk_cell BK244.out 3).trans rfl; have hfz8_0 := blk_frozen BK244.out 0; have hfz8_1 := blk_frozen BK244.out 1; have hfz8_2 := blk_frozen BK244.out 2; have hfz8_3 := blk_frozen BK244.out 3))
  refine bodyPost_ret (results_ct rfl _ _ gb244 23 #[.int .i64 a0_1, .int .i64 a0_0, .int .i64 a0_3, .int .i64 a0_2] (0, 0) _ rfl (by (with_reducible repeat (first | refine blk_drewN ?_ _ | refine blk_drew ?_ | refine blk_alloc ?_ _)); refine blk_put (cs := #[.int .i64 a0_1, .int .i64 a0_0, .int .i64 a0_3, .int .i64 a0_2]) ?_ 3 _ rfl; (with_reducible repeat (first | refine blk_drewN ?_ _ | refine blk_drew ?_ | refine blk_alloc ?_ _)); refine blk_put (cs := #[.int .i64 a0_1, .int .i64 a0_0, .int .i64 a0_3, .int .i64 a0_2]) ?_ 2 _ rfl; (with_reducible repeat (first | refine blk_drewN ?_ _ | refine blk_drew ?_ | refine blk_alloc ?_ _)); refine blk_put (cs := #[.int .i64 a0_1, .int .i64 a0_0, .int .i64 a0_3, .int .i64 a0_2]) ?_ 1 _ rfl; (with_reducible repeat (first | refine blk_drewN ?_ _ | refine blk_drew ?_ | refine blk_alloc ?_ _)); refine blk_put (cs := #[.int .i64 a0_1, .int .i64 a0_0, .int .i64 a0_3, .int .i64 a0_2]) ?_ 0 _ rfl; (with_reducible repeat (first | refine blk_drewN ?_ _ | refine blk_drew ?_ | refine blk_alloc ?_ _)); refine blk_put (cs := #[.int .i64 a0_1, .int .i64 a0_0, .int .i64 a0_3, .int .i64 0]) ?_ 3 _ rfl; (with_reducible repeat (first | refine blk_drewN ?_ _ | refine blk_drew ?_ | refine blk_alloc ?_ _)); refine blk_put (cs := #[.int .i64 a0_1, .int .i64 a0_0, .int .i64 0, .int .i64 0]) ?_ 2 _ rfl; (with_reducible repeat (first | refine blk_drewN ?_ _ | refine blk_drew ?_ | refine blk_alloc ?_ _)); refine blk_put (cs := #[.int .i64 a0_1, .int .i64 0, .int .i64 0, .int .i64 0]) ?_ 1 _ rfl; (with_reducible repeat (first | refine blk_drewN ?_ _ | refine blk_drew ?_ | refine blk_alloc ?_ _)); refine blk_put (cs := #[.int .i64 0, .int .i64 0, .int .i64 0, .int .i64 0]) ?_ 0 _ rfl; (with_reducible repeat (first | refine blk_drewN ?_ _ | refine blk_drew ?_ | refine blk_alloc ?_ _)); refine blk_far ?_ NB244_243.out _; (with_reducible repeat (first | refine blk_drewN ?_ _ | refine blk_drew ?_ | refine blk_alloc ?_ _)); refine blk_far ?_ NB244_243.out _; (with_reducible repeat (first | refine blk_drewN ?_ _ | refine blk_drew ?_ | refine blk_alloc ?_ _)); refine blk_far ?_ NB244_243.out _; (with_reducible repeat (first | refine blk_drewN ?_ _ | refine blk_drew ?_ | refine blk_alloc ?_ _)); refine blk_far ?_ NB244_243.out _; (with_reducible repeat (first | refine blk_drewN ?_ _ | refine blk_drew ?_ | refine blk_alloc ?_ _)); exact BK244.out) Try.underlying23 rfl (by kernel_rfl)) rfl ?_
  exact ⟨by first | rfl | (simp [errW_none, errW_some] <;> rfl) | (simp [*, errW_none, errW_some] <;> rfl), by repeat (first | (with_reducible first | exact HB.out | apply below_alloc | apply pw_below_drewN | apply below_drew1 | refine below_set ?_ GE243.out | refine below_set ?_ GE244.out) | exact HB.out)⟩
 ·rw [if_neg c3] at H
  have c3b0 : (a1 == 2) = false := beq_eq_false_iff_ne.mpr c3
  have c3b1 : (a1 != 2) = true := bne_iff_ne.mpr c3
  by_cases c9 : a1 = 1
  ·rw [if_pos c9] at H
   have c9b0 : (a1 == 1) = true := beq_iff_eq.mpr c9
   have c9b1 : (a1 != 1) = false := bne_eq_false_iff_eq.mpr c9
   clear c9
   simp only [Option.some.injEq, Prod.mk.injEq] at H
   obtain ⟨rfl, rfl, rfl, rfl, rfl⟩ := H
   go_enter Try.func127, Try.ntmps127
   go_wp2_with (first | ((with_reducible refine gate_dst (N := 2) rfl ?_); refine box_event ?hg (N := 2) ?hd (cs := #[.int .i64 a0_0, .int .i64 a0_1, .int .i64 a0_2, .int .i64 a0_3]) (t := 23) ?hr ?_; (case hd => rfl); (case hg => rfl); (case hr => first | (go_simp; done) | (go_simp; rfl)); intro gb243 hg w10 hbox hb; have n0_ := Aside0.mk (below_step (by repeat (first | (with_reducible first | exact HB.out | apply below_alloc | apply pw_below_drewN | apply below_drew1) | exact HB.out)) hb); have n1_ := Aside0.mk (hbox); have n2_ := Aside0.mk ((by rw [hg]; exact (below_size (by repeat (first | (with_reducible first | exact HB.out | apply below_alloc | apply pw_below_drewN | apply below_drew1) | exact HB.out))) : w.heap.size ≤ gb243)); have n3_ := Aside0.mk ((by rw [hg]; exact (below_size (by repeat (first | (with_reducible first | exact HB.out | apply below_alloc | apply pw_below_drewN | apply below_drew1) | exact HB.out))) : w.heap.size ≤ gb243)); clear HB; have HB := n0_; have BK243 := n1_; have GW243 := n2_; have GE243 := n3_; clear n0_ n1_ n2_ n3_; clear hb hbox hg) | ((with_reducible refine gate_dst (N := 4) rfl ?_); refine box_event ?hg (N := 4) ?hd (cs := #[.int .i64 0, .int .i64 0, .int .i64 0, .int .i64 0]) (t := 23) ?hr ?_; (case hd => rfl); (case hg => rfl); (case hr => first | (go_simp; done) | (go_simp; rfl)); intro gb244 hg w11 hbox hb; have n0_ := Aside0.mk (blk_below (g := gb243) (o := .cells #[.int .i64 a0_0, .int .i64 a0_1, .int .i64 a0_2, .int .i64 a0_3] 23 (0, 0)) (by (with_reducible repeat (first | refine blk_drewN ?_ _ | refine blk_drew ?_ | refine blk_alloc ?_ _)); exact BK243.out) hb); have n1_ := Aside0.mk (below_step (by repeat (first | (with_reducible first | exact HB.out | apply below_alloc | apply pw_below_drewN | apply below_drew1 | refine below_set ?_ GE243.out) | exact HB.out)) hb); have n2_ := Aside0.mk (hbox); have n3_ := Aside0.mk ((by rw [hg]; exact (below_size (by repeat (first | (with_reducible first | exact HB.out | apply below_alloc | apply pw_below_drewN | apply below_drew1 | refine below_set ?_ GE243.out) | exact HB.out))) : w.heap.size ≤ gb244)); have n4_ := Aside0.mk ((by rw [hg]; exact (below_size (by repeat (first | (with_reducible first | exact HB.out | apply below_alloc | apply pw_below_drewN | apply below_drew1 | refine below_set ?_ GE243.out) | exact HB.out))) : w.heap.size ≤ gb244)); have n5_ := Aside0.mk ((by rw [hg]; exact Nat.ne_of_lt (blk_lt (g := gb243) (o := .cells #[.int .i64 a0_0, .int .i64 a0_1, .int .i64 a0_2, .int .i64 a0_3] 23 (0, 0)) (by (with_reducible repeat (first | refine blk_drewN ?_ _ | refine blk_drew ?_ | refine blk_alloc ?_ _)); exact BK243.out)) : gb243 ≠ gb244)); have n6_ := Aside0.mk ((by rw [hg]; exact Nat.ne_of_gt (blk_lt (g := gb243) (o := .cells #[.int .i64 a0_0, .int .i64 a0_1, .int .i64 a0_2, .int .i64 a0_3] 23 (0, 0)) (by (with_reducible repeat (first | refine blk_drewN ?_ _ | refine blk_drew ?_ | refine blk_alloc ?_ _)); exact BK243.out)) : gb244 ≠ gb243)); clear BK243; clear HB; have BK243 := n0_; have HB := n1_; have BK244 := n2_; have GW244 := n3_; have GE244 := n4_; have NB243_244 := n5_; have NB244_243 := n6_; clear n0_ n1_ n2_ n3_ n4_ n5_ n6_; clear hb hbox hg; have hnb12 := NB243_244.out; have hnc12 := NB244_243.out; have hcz13_0 : w11.cell? ⟨gb243, 0, none⟩ = some (.int .i64 a0_0) := (blk_cell BK243.out 0).trans rfl; have hcz13_1 : w11.cell? ⟨gb243, 1, none⟩ = some (.int .i64 a0_1) := (blk_cell BK243.out 1).trans rfl; have hcz13_2 : w11.cell? ⟨gb243, 2, none⟩ = some (.int .i64 a0_2) := (blk_cell BK243.out 2).trans rfl; have hcz13_3 : w11.cell? ⟨gb243, 3, none⟩ = some (.int .i64 a0_3) := (blk_cell BK243.out 3).trans rfl; have hfz13_0 := blk_frozen BK243.out 0; have hfz13_1 := blk_frozen BK243.out 1; have hfz13_2 := blk_frozen BK243.out 2; have hfz13_3 := blk_frozen BK243.out 3; have hcz14_0 : w11.cell? ⟨gb244, 0, none⟩ = some (.int .i64 0) := (blk_cell BK244.out 0).trans rfl; have hcz14_1 : w11.cell? ⟨gb244, 1, none⟩ = some (.int .i64 0) := (blk_cell BK244.out 1).trans rfl; have hcz14_2 : w11.cell? ⟨gb244, 2, none⟩ = some (.int .i64 0) := (blk_cell BK244.out 2).trans rfl; have hcz14_3 : w11.cell? ⟨gb244, 3, none⟩ = some (.int .i64 0) := (blk_cell BK244.out 3).trans rfl; have hfz14_0 := blk_frozen BK244.out 0; have hfz14_1 := blk_frozen BK244.out 1; have hfz14_2 := blk_frozen BK244.out 2; have hfz14_3 := blk_frozen BK244.out 3))
   refine bodyPost_ret (results_ct rfl _ _ gb244 23 #[.int .i64 a0_0, .int .i64 a0_1, .int .i64 a0_2, .int .i64 a0_3] (0, 0) _ rfl (by (with_reducible repeat (first | refine blk_drewN ?_ _ | refine blk_drew ?_ | refine blk_alloc ?_ _)); refine blk_put (cs := #[.int .i64 a0_0, .int .i64 a0_1, .int .i64 a0_2, .int .i64 a0_3]) ?_ 3 _ rfl; (with_reducible repeat (first | refine blk_drewN ?_ _ | refine blk_drew ?_ | refine blk_alloc ?_ _)); refine blk_put (cs := #[.int .i64 a0_0, .int .i64 a0_1, .int .i64 a0_2, .int .i64 a0_3]) ?_ 2 _ rfl; (with_reducible repeat (first | refine blk_drewN ?_ _ | refine blk_drew ?_ | refine blk_alloc ?_ _)); refine blk_put (cs := #[.int .i64 a0_0, .int .i64 a0_1, .int .i64 a0_2, .int .i64 a0_3]) ?_ 1 _ rfl; (with_reducible repeat (first | refine blk_drewN ?_ _ | refine blk_drew ?_ | refine blk_alloc ?_ _)); refine blk_put (cs := #[.int .i64 a0_0, .int .i64 a0_1, .int .i64 a0_2, .int .i64 a0_3]) ?_ 0 _ rfl; (with_reducible repeat (first | refine blk_drewN ?_ _ | refine blk_drew ?_ | refine blk_alloc ?_ _)); refine blk_put (cs := #[.int .i64 a0_0, .int .i64 a0_1, .int .i64 a0_2, .int .i64 0]) ?_ 3 _ rfl; (with_reducible repeat (first | refine blk_drewN ?_ _ | refine blk_drew ?_ | refine blk_alloc ?_ _)); refine blk_put (cs := #[.int .i64 a0_0, .int .i64 a0_1, .int .i64 0, .int .i64 0]) ?_ 2 _ rfl; (with_reducible repeat (first | refine blk_drewN ?_ _ | refine blk_drew ?_ | refine blk_alloc ?_ _)); refine blk_put (cs := #[.int .i64 a0_0, .int .i64 0, .int .i64 0, .int .i64 0]) ?_ 1 _ rfl; (with_reducible repeat (first | refine blk_drewN ?_ _ | refine blk_drew ?_ | refine blk_alloc ?_ _)); refine blk_put (cs := #[.int .i64 0, .int .i64 0, .int .i64 0, .int .i64 0]) ?_ 0 _ rfl; (with_reducible repeat (first | refine blk_drewN ?_ _ | refine blk_drew ?_ | refine blk_alloc ?_ _)); exact BK244.out) Try.underlying23 rfl (by kernel_rfl)) rfl ?_
   exact ⟨by first | rfl | (simp [errW_none, errW_some] <;> rfl) | (simp [*, errW_none, errW_some] <;> rfl), by repeat (first | (with_reducible first | exact HB.out | apply below_alloc | apply pw_below_drewN | apply below_drew1 | refine below_set ?_ GE243.out | refine below_set ?_ GE244.out) | exact HB.out)⟩
  ·rw [if_neg c9] at H
   have c9b0 : (a1 == 1) = false := beq_eq_false_iff_ne.mpr c9
   have c9b1 : (a1 != 1) = true := bne_iff_ne.mpr c9
   simp only [Option.some.injEq, Prod.mk.injEq] at H
   obtain ⟨rfl, rfl, rfl, rfl, rfl⟩ := H
   go_enter Try.func127, Try.ntmps127
   go_wp2_with (first | ((with_reducible refine gate_dst (N := 2) rfl ?_); refine box_event ?hg (N := 2) ?hd (cs := #[.int .i64 a0_0, .int .i64 a0_1, .int .i64 a0_2, .int .i64 a0_3]) (t := 23) ?hr ?_; (case hd => rfl); (case hg => rfl); (case hr => first | (go_simp; done) | (go_simp; rfl)); intro gb243 hg w15 hbox hb; have n0_ := Aside0.mk (below_step (by repeat (first | (with_reducible first | exact HB.out | apply below_alloc | apply pw_below_drewN | apply below_drew1) | exact HB.out)) hb); have n1_ := Aside0.mk (hbox); have n2_ := Aside0.mk ((by rw [hg]; exact (below_size (by repeat (first | (with_reducible first | exact HB.out | apply below_alloc | apply pw_below_drewN | apply below_drew1) | exact HB.out))) : w.heap.size ≤ gb243)); have n3_ := Aside0.mk ((by rw [hg]; exact (below_size (by repeat (first | (with_reducible first | exact HB.out | apply below_alloc | apply pw_below_drewN | apply below_drew1) | exact HB.out))) : w.heap.size ≤ gb243)); clear HB; have HB := n0_; have BK243 := n1_; have GW243 := n2_; have GE243 := n3_; clear n0_ n1_ n2_ n3_; clear hb hbox hg) | ((with_reducible refine gate_dst (N := 4) rfl ?_); refine box_event ?hg (N := 4) ?hd (cs := #[.int .i64 0, .int .i64 0, .int .i64 0, .int .i64 0]) (t := 23) ?hr ?_; (case hd => rfl); (case hg => rfl); (case hr => first | (go_simp; done) | (go_simp; rfl)); intro gb244 hg w16 hbox hb; have n0_ := Aside0.mk (blk_below (g := gb243) (o := .cells #[.int .i64 a0_0, .int .i64 a0_1, .int .i64 a0_2, .int .i64 a0_3] 23 (0, 0)) (by (with_reducible repeat (first | refine blk_drewN ?_ _ | refine blk_drew ?_ | refine blk_alloc ?_ _)); exact BK243.out) hb); have n1_ := Aside0.mk (below_step (by repeat (first | (with_reducible first | exact HB.out | apply below_alloc | apply pw_below_drewN | apply below_drew1 | refine below_set ?_ GE243.out) | exact HB.out)) hb); have n2_ := Aside0.mk (hbox); have n3_ := Aside0.mk ((by rw [hg]; exact (below_size (by repeat (first | (with_reducible first | exact HB.out | apply below_alloc | apply pw_below_drewN | apply below_drew1 | refine below_set ?_ GE243.out) | exact HB.out))) : w.heap.size ≤ gb244)); have n4_ := Aside0.mk ((by rw [hg]; exact (below_size (by repeat (first | (with_reducible first | exact HB.out | apply below_alloc | apply pw_below_drewN | apply below_drew1 | refine below_set ?_ GE243.out) | exact HB.out))) : w.heap.size ≤ gb244)); have n5_ := Aside0.mk ((by rw [hg]; exact Nat.ne_of_lt (blk_lt (g := gb243) (o := .cells #[.int .i64 a0_0, .int .i64 a0_1, .int .i64 a0_2, .int .i64 a0_3] 23 (0, 0)) (by (with_reducible repeat (first | refine blk_drewN ?_ _ | refine blk_drew ?_ | refine blk_alloc ?_ _)); exact BK243.out)) : gb243 ≠ gb244)); have n6_ := Aside0.mk ((by rw [hg]; exact Nat.ne_of_gt (blk_lt (g := gb243) (o := .cells #[.int .i64 a0_0, .int .i64 a0_1, .int .i64 a0_2, .int .i64 a0_3] 23 (0, 0)) (by (with_reducible repeat (first | refine blk_drewN ?_ _ | refine blk_drew ?_ | refine blk_alloc ?_ _)); exact BK243.out)) : gb244 ≠ gb243)); clear BK243; clear HB; have BK243 := n0_; have HB := n1_; have BK244 := n2_; have GW244 := n3_; have GE244 := n4_; have NB243_244 := n5_; have NB244_243 := n6_; clear n0_ n1_ n2_ n3_ n4_ n5_ n6_; clear hb hbox hg; have hnb17 := NB244_243.out; have hnc17 := NB243_244.out; have hcz18_0 : w16.cell? ⟨gb244, 0, none⟩ = some (.int .i64 0) := (blk_cell BK244.out 0).trans rfl; have hcz18_1 : w16.cell? ⟨gb244, 1, none⟩ = some (.int .i64 0) := (blk_cell BK244.out 1).trans rfl; have hcz18_2 : w16.cell? ⟨gb244, 2, none⟩ = some (.int .i64 0) := (blk_cell BK244.out 2).trans rfl; have hcz18_3 : w16.cell? ⟨gb244, 3, none⟩ = some (.int .i64 0) := (blk_cell BK244.out 3).trans rfl; have hfz18_0 := blk_frozen BK244.out 0; have hfz18_1 := blk_frozen BK244.out 1; have hfz18_2 := blk_frozen BK244.out 2; have hfz18_3 := blk_frozen BK244.out 3))
   refine bodyPost_ret (results_ct rfl _ _ gb244 23 #[.int .i64 0, .int .i64 0, .int .i64 0, .int .i64 0] (0, 0) _ rfl (by (with_reducible repeat (first | refine blk_drewN ?_ _ | refine blk_drew ?_ | refine blk_alloc ?_ _)); refine blk_put (cs := #[.int .i64 0, .int .i64 0, .int .i64 0, .int .i64 0]) ?_ 3 _ rfl; (with_reducible repeat (first | refine blk_drewN ?_ _ | refine blk_drew ?_ | refine blk_alloc ?_ _)); refine blk_put (cs := #[.int .i64 0, .int .i64 0, .int .i64 0, .int .i64 0]) ?_ 2 _ rfl; (with_reducible repeat (first | refine blk_drewN ?_ _ | refine blk_drew ?_ | refine blk_alloc ?_ _)); refine blk_put (cs := #[.int .i64 0, .int .i64 0, .int .i64 0, .int .i64 0]) ?_ 1 _ rfl; (with_reducible repeat (first | refine blk_drewN ?_ _ | refine blk_drew ?_ | refine blk_alloc ?_ _)); refine blk_put (cs := #[.int .i64 0, .int .i64 0, .int .i64 0, .int .i64 0]) ?_ 0 _ rfl; (with_reducible repeat (first | refine blk_drewN ?_ _ | refine blk_drew ?_ | refine blk_alloc ?_ _)); exact BK244.out) Try.underlying23 rfl (by kernel_rfl)) rfl ?_
   exact ⟨by first | rfl | (simp [errW_none, errW_some] <;> rfl) | (simp [*, errW_none, errW_some] <;> rfl), by repeat (first | (with_reducible first | exact HB.out | apply below_alloc | apply pw_below_drewN | apply below_drew1 | refine below_set ?_ GE243.out | refine below_set ?_ GE244.out) | exact HB.out)⟩

end Go.Proofs.Ytfdmfgaiblfbhaa.P
namespace Go.Proofs.Ytfdmfgaiblfbhaa.P
open Go.RowKit Go.Proofs.YtfdmfgaiblfbhaaW.PrintWords Go.Proofs.YtfdmfgaiblfbhaaW.PrintLast Go.Proofs.YtfdmfgaiblfbhaaW.PrintMore
attribute [local go_sem] max2_int min2_int max_two min_two max_three min_three max_four min_four   -- for this text's walks alone
set_option linter.unusedVariables false
set_option linter.unusedSimpArgs false

/-! ### rect_may: function 128 -/
def rect_may.f (a0_0 : Int) (a0_1 : Int) (a0_2 : Int) (a0_3 : Int) : Option (Bool) := if a0_0 ≥ 0 then (if a0_2 ≥ 1 then (if a0_2 ≤ 10000 then (if a0_0 ≤ (wrap64 (10000 - a0_2)) then (if a0_1 ≥ 0 then (if a0_3 ≥ 1 then (if a0_3 ≤ 10000 then (some (decide (a0_1 ≤ (wrap64 (10000 - a0_3))))) else (some false)) else (some false)) else (some false)) else (some false)) else (some false)) else (some false)) else (some false)
set_option maxHeartbeats 8000000 in
set_option maxRecDepth 100000 in
theorem rect_may.calls (a0_0 : Int) (a0_1 : Int) (a0_2 : Int) (a0_3 : Int) (r : Bool) (w : World) (h : rect_may.f a0_0 a0_1 a0_2 a0_3 = some r) :
  Calls Try.prog 128 #[.agg #[.int .i64 a0_0, .int .i64 a0_1, .int .i64 a0_2, .int .i64 a0_3]] w fun e w' => e = .returned (.bool r) ∧ Below w.heap.size w w' := by
 have hu23 := Try.underlying23
 have HB := Aside0.mk (Below.refl w.heap.size w)
 have H : (if a0_0 ≥ 0 then (if a0_2 ≥ 1 then (if a0_2 ≤ 10000 then (if a0_0 ≤ (wrap64 (10000 - a0_2)) then (if a0_1 ≥ 0 then (if a0_3 ≥ 1 then (if a0_3 ≤ 10000 then (some (decide (a0_1 ≤ (wrap64 (10000 - a0_3))))) else (some false)) else (some false)) else (some false)) else (some false)) else (some false)) else (some false)) else (some false)) = some r := h
 clear h
 by_cases c2 : a0_0 ≥ 0
 ·rw [if_pos c2] at H
  have c2b0 : decide (0 ≤ a0_0) = true := decide_eq_true c2
  clear c2
  by_cases c3 : a0_2 ≥ 1
  ·rw [if_pos c3] at H
   have c3b0 : decide (1 ≤ a0_2) = true := decide_eq_true c3
   clear c3
   by_cases c4 : a0_2 ≤ 10000
   ·rw [if_pos c4] at H
    have c4b0 : decide (a0_2 ≤ 10000) = true := decide_eq_true c4
    clear c4
    by_cases c5 : a0_0 ≤ (wrap64 (10000 - a0_2))
    ·rw [if_pos c5] at H
     have c5b0 : decide (a0_0 ≤ (wrap64 (10000 - a0_2))) = true := decide_eq_true c5
     clear c5
     by_cases c6 : a0_1 ≥ 0
     ·rw [if_pos c6] at H
      have c6b0 : decide (0 ≤ a0_1) = true := decide_eq_true c6
      clear c6
      by_cases c7 : a0_3 ≥ 1
      ·rw [if_pos c7] at H
       have c7b0 : decide (1 ≤ a0_3) = true := decide_eq_true c7
       clear c7
       by_cases c8 : a0_3 ≤ 10000
       ·rw [if_pos c8] at H
        have c8b0 : decide (a0_3 ≤ 10000) = true := decide_eq_true c8
        clear c8
        obtain rfl := Option.some.inj H
        go_enter Try.func128, Try.ntmps128
        go_wp2_with (first | ((with_reducible refine gate_dst (N := 1) rfl ?_); refine box_event ?hg (N := 1) ?hd (cs := #[.int .i64 a0_0, .int .i64 a0_1, .int .i64 a0_2, .int .i64 a0_3]) (t := 23) ?hr ?_; (case hd => rfl); (case hg => rfl); (case hr => first | (go_simp; done) | (go_simp; rfl)); intro gb245 hg w9 hbox hb; have n0_ := Aside0.mk (below_step (by repeat (first | (with_reducible first | exact HB.out | apply below_alloc | apply pw_below_drewN | apply below_drew1) | exact HB.out)) hb); have n1_ := Aside0.mk (hbox); have n2_ := Aside0.mk ((by rw [hg]; exact (below_size (by repeat (first | (with_reducible first | exact HB.out | apply below_alloc | apply pw_below_drewN | apply below_drew1) | exact HB.out))) : w.heap.size ≤ gb245)); have n3_ := Aside0.mk ((by rw [hg]; exact (below_size (by repeat (first | (with_reducible first | exact HB.out | apply below_alloc | apply pw_below_drewN | apply below_drew1) | exact HB.out))) : w.heap.size ≤ gb245)); clear HB; have HB := n0_; have BK245 := n1_; have GW245 := n2_; have GE245 := n3_; clear n0_ n1_ n2_ n3_; clear hb hbox hg; have hcz10_0 : w9.cell? ⟨gb245, 0, none⟩ = some (.int .i64 a0_0) := (blk_cell BK245.out 0).trans rfl; have hcz10_1 : w9.cell? ⟨gb245, 1, none⟩ = some (.int .i64 a0_1) := (blk_cell BK245.out 1).trans rfl; have hcz10_2 : w9.cell? ⟨gb245, 2, none⟩ = some (.int .i64 a0_2) := (blk_cell BK245.out 2).trans rfl; have hcz10_3 : w9.cell? ⟨gb245, 3, none⟩ = some (.int .i64 a0_3) := (blk_cell BK245.out 3).trans rfl; have hfz10_0 := blk_frozen BK245.out 0; have hfz10_1 := blk_frozen BK245.out 1; have hfz10_2 := blk_frozen BK245.out 2; have hfz10_3 := blk_frozen BK245.out 3))
        go_ret
        exact ⟨by first | rfl | (simp [errW_none, errW_some] <;> rfl) | (simp [*, errW_none, errW_some] <;> rfl), by repeat (first | (with_reducible first | exact HB.out | apply below_alloc | apply pw_below_drewN | apply below_drew1 | refine below_set ?_ GE245.out) | exact HB.out)⟩
       ·rw [if_neg c8] at H
        have c8b0 : decide (a0_3 ≤ 10000) = false := decide_eq_false c8
        clear c8
        obtain rfl := Option.some.inj H
        go_enter Try.func128, Try.ntmps128
        go_wp2_with (first | ((with_reducible refine gate_dst (N := 1) rfl ?_); refine box_event ?hg (N := 1) ?hd (cs := #[.int .i64 a0_0, .int .i64 a0_1, .int .i64 a0_2, .int .i64 a0_3]) (t := 23) ?hr ?_; (case hd => rfl); (case hg => rfl); (case hr => first | (go_simp; done) | (go_simp; rfl)); intro gb245 hg w11 hbox hb; have n0_ := Aside0.mk (below_step (by repeat (first | (with_reducible first | exact HB.out | apply below_alloc | apply pw_below_drewN | apply below_drew1) | exact HB.out)) hb); have n1_ := Aside0.mk (hbox); have n2_ := Aside0.mk ((by rw [hg]; exact (below_size (by repeat (first | (with_reducible first | exact HB.out | apply below_alloc | apply pw_below_drewN | apply below_drew1) | exact HB.out))) : w.heap.size ≤ gb245)); have n3_ := Aside0.mk ((by rw [hg]; exact (below_size (by repeat (first | (with_reducible first | exact HB.out | apply below_alloc | apply pw_below_drewN | apply below_drew1) | exact HB.out))) : w.heap.size ≤ gb245)); clear HB; have HB := n0_; have BK245 := n1_; have GW245 := n2_; have GE245 := n3_; clear n0_ n1_ n2_ n3_; clear hb hbox hg; have hcz12_0 : w11.cell? ⟨gb245, 0, none⟩ = some (.int .i64 a0_0) := (blk_cell BK245.out 0).trans rfl; have hcz12_1 : w11.cell? ⟨gb245, 1, none⟩ = some (.int .i64 a0_1) := (blk_cell BK245.out 1).trans rfl; have hcz12_2 : w11.cell? ⟨gb245, 2, none⟩ = some (.int .i64 a0_2) := (blk_cell BK245.out 2).trans rfl; have hcz12_3 : w11.cell? ⟨gb245, 3, none⟩ = some (.int .i64 a0_3) := (blk_cell BK245.out 3).trans rfl; have hfz12_0 := blk_frozen BK245.out 0; have hfz12_1 := blk_frozen BK245.out 1; have hfz12_2 := blk_frozen BK245.out 2; have hfz12_3 := blk_frozen BK245.out 3))
        go_ret
        exact ⟨by first | rfl | (simp [errW_none, errW_some] <;> rfl) | (simp [*, errW_none, errW_some] <;> rfl), by repeat (first | (with_reducible first | exact HB.out | apply below_alloc | apply pw_below_drewN | apply below_drew1 | refine below_set ?_ GE245.out) | exact HB.out)⟩
      ·rw [if_neg c7] at H
       have c7b0 : decide (1 ≤ a0_3) = false := decide_eq_false c7
       clear c7
       obtain rfl := Option.some.inj H
       go_enter Try.func128, Try.ntmps128
       go_wp2_with (first | ((with_reducible refine gate_dst (N := 1) rfl ?_); refine box_event ?hg (N := 1) ?hd (cs := #[.int .i64 a0_0, .int .i64 a0_1, .int .i64 a0_2, .int .i64 a0_3]) (t := 23) ?hr ?_; (case hd => rfl); (case hg => rfl); (case hr => first | (go_simp; done) | (go_simp; rfl)); intro gb245 hg w13 hbox hb; have n0_ := Aside0.mk (below_step (by repeat (first | (with_reducible first | exact HB.out | apply below_alloc | apply pw_below_drewN | apply below_drew1) | exact HB.out)) hb); have n1_ := Aside0.mk (hbox); have n2_ := Aside0.mk ((by rw [hg]; exact (below_size (by repeat (first | (with_reducible first | exact HB.out | apply below_alloc | apply pw_below_drewN | apply below_drew1) | exact HB.out))) : w.heap.size ≤ gb245)); have n3_ := Aside0.mk ((by rw [hg]; exact (below_size (by repeat (first | (with_reducible first | exact HB.out | apply below_alloc | apply pw_below_drewN | apply below_drew1) | exact HB.out))) : w.heap.size ≤ gb245)); clear HB; have HB := n0_; have BK245 := n1_; have GW245 := n2_; have GE245 := n3_; clear n0_ n1_ n2_ n3_; clear hb hbox hg; have hcz14_0 : w13.cell? ⟨gb245, 0, none⟩ = some (.int .i64 a0_0) := (blk_cell BK245.out 0).trans rfl; have hcz14_1 : w13.cell? ⟨gb245, 1, none⟩ = some (.int .i64 a0_1) := (blk_cell BK245.out 1).trans rfl; have hcz14_2 : w13.cell? ⟨gb245, 2, none⟩ = some (.int .i64 a0_2) := (blk_cell BK245.out 2).trans rfl; have hcz14_3 : w13.cell? ⟨gb245, 3, none⟩ = some (.int .i64 a0_3) := (blk_cell BK245.out 3).trans rfl; have hfz14_0 := blk_frozen BK245.out 0; have hfz14_1 := blk_frozen BK245.out 1; have hfz14_2 := blk_frozen BK245.out 2; have hfz14_3 := blk_frozen BK245.out 3))
       go_ret
       exact ⟨by first | rfl | (simp [errW_none, errW_some] <;> rfl) | (simp [*, errW_none, errW_some] <;> rfl), by repeat (first | (with_reducible first | exact HB.out | apply below_alloc | apply pw_below_drewN | apply below_drew1 | refine below_set ?_ GE245.out) | exact HB.out)⟩
     ·rw [if_neg c6] at H
      have c6b0 : decide (0 ≤ a0_1) = false := decide_eq_false c6
      clear c6
      obtain rfl := Option.some.inj H
      go_enter Try.func128, Try.ntmps128
      go_wp2_with (first | ((with_reducible refine gate_dst (N := 1) rfl ?_); refine box_event ?hg (N := 1) ?hd (cs := #[.int .i64 a0_0, .int .i64 a0_1, .int .i64 a0_2, .int .i64 a0_3]) (t := 23) ?hr ?_; (case hd => rfl); (case hg => rfl); (case hr => first | (go_simp; done) | (go_simp; rfl)); intro gb245 hg w15 hbox hb; have n0_ := Aside0.mk (below_step (by repeat (first | (with_reducible first | exact HB.out | apply below_alloc | apply pw_below_drewN | apply below_drew1) | exact HB.out)) hb); have n1_ := Aside0.mk (hbox); have n2_ := Aside0.mk ((by rw [hg]; exact (below_size (by repeat (first | (with_reducible first | exact HB.out | apply below_alloc | apply pw_below_drewN | apply below_drew1) | exact HB.out))) : w.heap.size ≤ gb245)); have n3_ := Aside0.mk ((by rw [hg]; exact (below_size (by repeat (first | (with_reducible first | exact HB.out | apply below_alloc | apply pw_below_drewN | apply below_drew1) | exact HB.out))) : w.heap.size ≤ gb245)); clear HB; have HB := n0_; have BK245 := n1_; have GW245 := n2_; have GE245 := n3_; clear n0_ n1_ n2_ n3_; clear hb hbox hg; have hcz16_0 : w15.cell? ⟨gb245, 0, none⟩ = some (.int .i64 a0_0) := (blk_cell BK245.out 0).trans rfl; have hcz16_1 : w15.cell? ⟨gb245, 1, none⟩ = some (.int .i64 a0_1) := (blk_cell BK245.out 1).trans rfl; have hcz16_2 : w15.cell? ⟨gb245, 2, none⟩ = some (.int .i64 a0_2) := (blk_cell BK245.out 2).trans rfl; have hcz16_3 : w15.cell? ⟨gb245, 3, none⟩ = some (.int .i64 a0_3) := (blk_cell BK245.out 3).trans rfl; have hfz16_0 := blk_frozen BK245.out 0; have hfz16_1 := blk_frozen BK245.out 1; have hfz16_2 := blk_frozen BK245.out 2; have hfz16_3 := blk_frozen BK245.out 3))
      go_ret
      exact ⟨by first | rfl | (simp [errW_none, errW_some] <;> rfl) | (simp [*, errW_none, errW_some] <;> rfl), by repeat (first | (with_reducible first | exact HB.out | apply below_alloc | apply pw_below_drewN | apply below_drew1 | refine below_set ?_ GE245.out) | exact HB.out)⟩
    ·rw [if_neg c5] at H
     have c5b0 : decide (a0_0 ≤ (wrap64 (10000 - a0_2))) = false := decide_eq_false c5
     clear c5
     obtain rfl := Option.some.inj H
     go_enter Try.func128, Try.ntmps128
     go_wp2_with (first | ((with_reducible refine gate_dst (N := 1) rfl ?_); refine box_event ?hg (N := 1) ?hd (cs := #[.int .i64 a0_0, .int .i64 a0_1, .int .i64 a0_2, .int .i64 a0_3]) (t := 23) ?hr ?_; (case hd => rfl); (case hg => rfl); (case hr => first | (go_simp; done) | (go_simp; rfl)); intro gb245 hg w17 hbox hb; have n0_ := Aside0.mk (below_step (by repeat (first | (with_reducible first | exact HB.out | apply below_alloc | apply pw_below_drewN | apply below_drew1) | exact HB.out)) hb); have n1_ := Aside0.mk (hbox); have n2_ := Aside0.mk ((by rw [hg]; exact (below_size (by repeat (first | (with_reducible first | exact HB.out | apply below_alloc | apply pw_below_drewN | apply below_drew1) | exact HB.out))) : w.heap.size ≤ gb245)); have n3_ := Aside0.mk ((by rw [hg]; exact (below_size (by repeat (first | (with_reducible first | exact HB.out | apply below_alloc | apply pw_below_drewN | apply below_drew1) | exact HB.out))) : w.heap.size ≤ gb245)); clear HB; have HB := n0_; have BK245 := n1_; have GW245 := n2_; have GE245 := n3_; clear n0_ n1_ n2_ n3_; clear hb hbox hg; have hcz18_0 : w17.cell? ⟨gb245, 0, none⟩ = some (.int .i64 a0_0) := (blk_cell BK245.out 0).trans rfl; have hcz18_1 : w17.cell? ⟨gb245, 1, none⟩ = some (.int .i64 a0_1) := (blk_cell BK245.out 1).trans rfl; have hcz18_2 : w17.cell? ⟨gb245, 2, none⟩ = some (.int .i64 a0_2) := (blk_cell BK245.out 2).trans rfl; have hcz18_3 : w17.cell? ⟨gb245, 3, none⟩ = some (.int .i64 a0_3) := (blk_cell BK245.out 3).trans rfl; have hfz18_0 := blk_frozen BK245.out 0; have hfz18_1 := blk_frozen BK245.out 1; have hfz18_2 := blk_frozen BK245.out 2; have hfz18_3 := blk_frozen BK245.out 3))
     go_ret
     exact ⟨by first | rfl | (simp [errW_none, errW_some] <;> rfl) | (simp [*, errW_none, errW_some] <;> rfl), by repeat (first | (with_reducible first | exact HB.out | apply below_alloc | apply pw_below_drewN | apply below_drew1 | refine below_set ?_ GE245.out) | exact HB.out)⟩
   ·rw [if_neg c4] at H
    have c4b0 : decide (a0_2 ≤ 10000) = false := decide_eq_false c4
    clear c4
    obtain rfl := Option.some.inj H
    go_enter Try.func128, Try.ntmps128
    go_wp2_with (first | ((with_reducible refine gate_dst (N := 1) rfl ?_); refine box_event ?hg (N := 1) ?hd (cs := #[.int .i64 a0_0, .int .i64 a0_1, .int .i64 a0_2, .int .i64 a0_3]) (t := 23) ?hr ?_; (case hd => rfl); (case hg => rfl); (case hr => first | (go_simp; done) | (go_simp; rfl)); intro gb245 hg w19 hbox hb; have n0_ := Aside0.mk (below_step (by repeat (first | (with_reducible first | exact HB.out | apply below_alloc | apply pw_below_drewN | apply below_drew1) | exact HB.out)) hb); have n1_ := Aside0.mk (hbox); have n2_ := Aside0.mk ((by rw [hg]; exact (below_size (by repeat (first | (with_reducible first | exact HB.out | apply below_alloc | apply pw_below_drewN | apply below_drew1) | exact HB.out))) : w.heap.size ≤ gb245)); have n3_ := Aside0.mk ((by rw [hg]; exact (below_size (by repeat (first | (with_reducible first | exact HB.out | apply below_alloc | apply pw_below_drewN | apply below_drew1) | exact HB.out))) : w.heap.size ≤ gb245)); clear HB; have HB := n0_; have BK245 := n1_; have GW245 := n2_; have GE245 := n3_; clear n0_ n1_ n2_ n3_; clear hb hbox hg; have hcz20_0 : w19.cell? ⟨gb245, 0, none⟩ = some (.int .i64 a0_0) := (blk_cell BK245.out 0).trans rfl; have hcz20_1 : w19.cell? ⟨gb245, 1, none⟩ = some (.int .i64 a0_1) := (blk_cell BK245.out 1).trans rfl; have hcz20_2 : w19.cell? ⟨gb245, 2, none⟩ = some (.int .i64 a0_2) := (blk_cell BK245.out 2).trans rfl; have hcz20_3 : w19.cell? ⟨gb245, 3, none⟩ = some (.int .i64 a0_3) := (blk_cell BK245.out 3).trans rfl; have hfz20_0 := blk_frozen BK245.out 0; have hfz20_1 := blk_frozen BK245.out 1; have hfz20_2 := blk_frozen BK245.out 2; have hfz20_3 := blk_frozen BK245.out 3))
    go_ret
    exact ⟨by first | rfl | (simp [errW_none, errW_some] <;> rfl) | (simp [*, errW_none, errW_some] <;> rfl), by repeat (first | (with_reducible first | exact HB.out | apply below_alloc | apply pw_below_drewN | apply below_drew1 | refine below_set ?_ GE245.out) | exact HB.out)⟩
  ·rw [if_neg c3] at H
   have c3b0 : decide (1 ≤ a0_2) = false := decide_eq_false c3
   clear c3
   obtain rfl := Option.some.inj H
   go_enter Try.func128, Try.ntmps128
   go_wp2_with (first | ((with_reducible refine gate_dst (N := 1) rfl ?_); refine box_event ?hg (N := 1) ?hd (cs := #[.int .i64 a0_0, .int .i64 a0_1, .int .i64 a0_2, .int .i64 a0_3]) (t := 23) ?hr ?_; (case hd => rfl); (case hg => rfl); (case hr => first | (go_simp; done) | (go_simp; rfl)); intro gb245 hg w21 hbox hb; have n0_ := Aside0.mk (below_step (by repeat (first | (with_reducible first | exact HB.out | apply below_alloc | apply pw_below_drewN | apply below_drew1) | exact HB.out)) hb); have n1_ := Aside0.mk (hbox); have n2_ := Aside0.mk ((by rw [hg]; exact (below_size (by repeat (first | (with_reducible first | exact HB.out | apply below_alloc | apply pw_below_drewN | apply below_drew1) | exact HB.out))) : w.heap.size ≤ gb245)); have n3_ := Aside0.mk ((by rw [hg]; exact (below_size (by repeat (first | (with_reducible first | exact HB.out | apply below_alloc | apply pw_below_drewN | apply below_drew1) | exact HB.out))) : w.heap.size ≤ gb245)); clear HB; have HB := n0_; have BK245 := n1_; have GW245 := n2_; have GE245 := n3_; clear n0_ n1_ n2_ n3_; clear hb hbox hg; have hcz22_0 : w21.cell? ⟨gb245, 0, none⟩ = some (.int .i64 a0_0) := (blk_cell BK245.out 0).trans rfl; have hcz22_1 : w21.cell? ⟨gb245, 1, none⟩ = some (.int .i64 a0_1) := (blk_cell BK245.out 1).trans rfl; have hcz22_2 : w21.cell? ⟨gb245, 2, none⟩ = some (.int .i64 a0_2) := (blk_cell BK245.out 2).trans rfl; have hcz22_3 : w21.cell? ⟨gb245, 3, none⟩ = some (.int .i64 a0_3) := (blk_cell BK245.out 3).trans rfl; have hfz22_0 := blk_frozen BK245.out 0; have hfz22_1 := blk_frozen BK245.out 1; have hfz22_2 := blk_frozen BK245.out 2; have hfz22_3 := blk_frozen BK245.out 3))
   go_ret
   exact ⟨by first | rfl | (simp [errW_none, errW_some] <;> rfl) | (simp [*, errW_none, errW_some] <;> rfl), by repeat (first | (with_reducible first | exact HB.out | apply below_alloc | apply pw_below_drewN | apply below_drew1 | refine below_set ?_ GE245.out) | exact HB.out)⟩
 ·rw [if_neg c2] at H
  have c2b0 : decide (0 ≤ a0_0) = false := decide_eq_false c2
  clear c2
  obtain rfl := Option.some.inj H
  go_enter Try.func128, Try.ntmps128
  go_wp2_with (first | ((with_reducible refine gate_dst (N := 1) rfl ?_); refine box_event ?hg (N := 1) ?hd (cs := #[.int .i64 a0_0, .int .i64 a0_1, .int .i64 a0_2, .int .i64 a0_3]) (t := 23) ?hr ?_; (case hd => rfl); (case hg => rfl); (case hr => first | (go_simp; done) | (go_simp; rfl)); intro gb245 hg w23 hbox hb; have n0_ := Aside0.mk (below_step (by repeat (first | (with_reducible first | exact HB.out | apply below_alloc | apply pw_below_drewN | apply below_drew1) | exact HB.out)) hb); have n1_ := Aside0.mk (hbox); have n2_ := Aside0.mk ((by rw [hg]; exact (below_size (by repeat (first | (with_reducible first | exact HB.out | apply below_alloc | apply pw_below_drewN | apply below_drew1) | exact HB.out))) : w.heap.size ≤ gb245)); have n3_ := Aside0.mk ((by rw [hg]; exact (below_size (by repeat (first | (with_reducible first | exact HB.out | apply below_alloc | apply pw_below_drewN | apply below_drew1) | exact HB.out))) : w.heap.size ≤ gb245)); clear HB; have HB := n0_; have BK245 := n1_; have GW245 := n2_; have GE245 := n3_; clear n0_ n1_ n2_ n3_; clear hb hbox hg; have hcz24_0 : w23.cell? ⟨gb245, 0, none⟩ = some (.int .i64 a0_0) := (blk_cell BK245.out 0).trans rfl; have hcz24_1 : w23.cell? ⟨gb245, 1, none⟩ = some (.int .i64 a0_1) := (blk_cell BK245.out 1).trans rfl; have hcz24_2 : w23.cell? ⟨gb245, 2, none⟩ = some (.int .i64 a0_2) := (blk_cell BK245.out 2).trans rfl; have hcz24_3 : w23.cell? ⟨gb245, 3, none⟩ = some (.int .i64 a0_3) := (blk_cell BK245.out 3).trans rfl; have hfz24_0 := blk_frozen BK245.out 0; have hfz24_1 := blk_frozen BK245.out 1; have hfz24_2 := blk_frozen BK245.out 2; have hfz24_3 := blk_frozen BK245.out 3))
  go_ret
  exact ⟨by first | rfl | (simp [errW_none, errW_some] <;> rfl) | (simp [*, errW_none, errW_some] <;> rfl), by repeat (first | (with_reducible first | exact HB.out | apply below_alloc | apply pw_below_drewN | apply below_drew1 | refine below_set ?_ GE245.out) | exact HB.out)⟩

end Go.Proofs.Ytfdmfgaiblfbhaa.P
namespace Go.Proofs.Ytfdmfgaiblfbhaa.P
open Go.RowKit Go.Proofs.YtfdmfgaiblfbhaaW.PrintWords Go.Proofs.YtfdmfgaiblfbhaaW.PrintLast Go.Proofs.YtfdmfgaiblfbhaaW.PrintMore
attribute [local go_sem] max2_int min2_int max_two min_two max_three min_three max_four min_four   -- for this text's walks alone
set_option linter.unusedVariables false
set_option linter.unusedSimpArgs false

/-! ### rect_Cut: function 45 -/
mutual
def rect_Cut.j0 : Nat → Int → List Int → Bool → Int → Int → Int → Int → Option ((List (S23)) × (List (S23)) × Bool)
 | 0, _, _, _, _, _, _, _ => none
 | k + 1, x1, x2, x37, x253000, x253001, x253002, x253003 => if x37 = true then (some (([] : List (S23)), ([] : List (S23)), false)) else (rect_Cut.l0 k x1 ([] : List (S23)) ([] : List (S23)) x253000 x2 (x2.length : Int) 0 x253000 x253001 x253002 x253003)
def rect_Cut.l0 : Nat → Int → List (S23) → List (S23) → Int → List Int → Int → Int → Int → Int → Int → Int → Option ((List (S23)) × (List (S23)) × Bool)
 | 0, _, _, _, _, _, _, _, _, _, _, _ => none
 | k + 1, x1, x11, x12, x13, x40, x41, x42, x253000, x253001, x253002, x253003 => if x42 < x41 then (if 0 ≤ x42 then (if x42 < (x40.length : Int) then (if x42 > 0 then ((rect_turned.f x13 x253001 1 x253003 x1).bind fun bt255 => (if x12.length < 4398046511104 then (if (rd x40 x42) < 1 then (some (([] : List (S23)), ([] : List (S23)), false)) else (if (rd x40 x42) > (wrap64 ((wrap64 (x253000 + x253002)) - (wrap64 (x13 + 1)))) then (some (([] : List (S23)), ([] : List (S23)), false)) else ((rect_turned.f (wrap64 (x13 + 1)) x253001 (rd x40 x42) x253003 x1).bind fun bt264 => (if x11.length < 4398046511104 then (rect_Cut.l0 k x1 (x11 ++ [(⟨bt264.1, bt264.2.1, bt264.2.2.1, bt264.2.2.2.1⟩ : S23)]) (x12 ++ [(⟨bt255.1, bt255.2.1, bt255.2.2.1, bt255.2.2.2.1⟩ : S23)]) (wrap64 ((wrap64 (x13 + 1)) + (rd x40 x42))) x40 x41 (wrap64 (x42 + 1)) x253000 x253001 x253002 x253003) else (none))))) else (none))) else (if (rd x40 x42) < 1 then (some (([] : List (S23)), ([] : List (S23)), false)) else (if (rd x40 x42) > (wrap64 ((wrap64 (x253000 + x253002)) - x13)) then (some (([] : List (S23)), ([] : List (S23)), false)) else ((rect_turned.f x13 x253001 (rd x40 x42) x253003 x1).bind fun bt273 => (if x11.length < 4398046511104 then (rect_Cut.l0 k x1 (x11 ++ [(⟨bt273.1, bt273.2.1, bt273.2.2.1, bt273.2.2.2.1⟩ : S23)]) x12 (wrap64 (x13 + (rd x40 x42))) x40 x41 (wrap64 (x42 + 1)) x253000 x253001 x253002 x253003) else (none)))))) else (none)) else (none)) else (if x13 = (wrap64 (x253000 + x253002)) then (some (x11, x12, true)) else (some (([] : List (S23)), ([] : List (S23)), false)))
end
def rect_Cut.f (k : Nat) (a0_0 : Int) (a0_1 : Int) (a0_2 : Int) (a0_3 : Int) (a1 : Int) (l2 : List Int) : Option ((List (S23)) × (List (S23)) × Bool) := (rect_turned.f a0_0 a0_1 a0_2 a0_3 a1).bind fun bt247 => (if bt247.2.2.2.2 = true then ((rect_may.f a0_0 a0_1 a0_2 a0_3).bind fun t253 => (if t253 = true then (rect_Cut.j0 k a1 l2 ((l2.length : Int) == 0) bt247.1 bt247.2.1 bt247.2.2.1 bt247.2.2.2.1) else (rect_Cut.j0 k a1 l2 true bt247.1 bt247.2.1 bt247.2.2.1 bt247.2.2.2.1))) else (rect_Cut.j0 k a1 l2 true bt247.1 bt247.2.1 bt247.2.2.1 bt247.2.2.2.1))
theorem rect_Cut.mono_l : ∀ k, (∀ y0 y1 y2 y3 y4 y5 y6, LeO (rect_Cut.j0 k y0 y1 y2 y3 y4 y5 y6) (rect_Cut.j0 (k + 1) y0 y1 y2 y3 y4 y5 y6)) ∧ (∀ y0 y1 y2 y3 y4 y5 y6 y7 y8 y9 y10, LeO (rect_Cut.l0 k y0 y1 y2 y3 y4 y5 y6 y7 y8 y9 y10) (rect_Cut.l0 (k + 1) y0 y1 y2 y3 y4 y5 y6 y7 y8 y9 y10))
 | 0 => ⟨fun _ _ _ _ _ _ _ r h => by simp [rect_Cut.j0] at h, fun _ _ _ _ _ _ _ _ _ _ _ r h => by simp [rect_Cut.l0] at h⟩
 | k + 1 => by
  obtain ⟨ih0, ih1⟩ := rect_Cut.mono_l k
  refine ⟨?_, ?_⟩
  ·intro y0 y1 y2 y3 y4 y5 y6
   unfold rect_Cut.j0
   repeat' first
   | (with_reducible exact ih0 _ _ _ _ _ _ _)
   | (with_reducible exact ih1 _ _ _ _ _ _ _ _ _ _ _)
   | (with_reducible exact LeO.refl _)
   | (with_reducible exact LeO.none _)
   | (with_reducible refine LeO.ite ?_ ?_)
   | (with_reducible refine LeO.bind ?_ (fun _ => ?_))
   | exact ih0 _ _ _ _ _ _ _
   | exact ih1 _ _ _ _ _ _ _ _ _ _ _
   | exact LeO.none _
   | refine LeO.ite ?_ ?_
   | refine LeO.bind ?_ (fun _ => ?_)
  ·intro y0 y1 y2 y3 y4 y5 y6 y7 y8 y9 y10
   unfold rect_Cut.l0
   repeat' first
   | (with_reducible exact ih0 _ _ _ _ _ _ _)
   | (with_reducible exact ih1 _ _ _ _ _ _ _ _ _ _ _)
   | (with_reducible exact LeO.refl _)
   | (with_reducible exact LeO.none _)
   | (with_reducible refine LeO.ite ?_ ?_)
   | (with_reducible refine LeO.bind ?_ (fun _ => ?_))
   | exact ih0 _ _ _ _ _ _ _
   | exact ih1 _ _ _ _ _ _ _ _ _ _ _
   | exact LeO.none _
   | refine LeO.ite ?_ ?_
   | refine LeO.bind ?_ (fun _ => ?_)
theorem rect_Cut.mono : ∀ a0 a1 a2 a3 a4 a5 k, LeO (rect_Cut.f k a0 a1 a2 a3 a4 a5) (rect_Cut.f (k + 1) a0 a1 a2 a3 a4 a5) := by
 intro a0 a1 a2 a3 a4 a5 k
 obtain ⟨ih0, ih1⟩ := rect_Cut.mono_l k
 unfold rect_Cut.f
 repeat' first
   | (with_reducible exact ih0 _ _ _ _ _ _ _)
   | (with_reducible exact ih1 _ _ _ _ _ _ _ _ _ _ _)
   | (with_reducible exact LeO.refl _)
   | (with_reducible exact LeO.none _)
   | (with_reducible refine LeO.ite ?_ ?_)
   | (with_reducible refine LeO.bind ?_ (fun _ => ?_))
   | exact ih0 _ _ _ _ _ _ _
   | exact ih1 _ _ _ _ _ _ _ _ _ _ _
   | exact LeO.none _
   | refine LeO.ite ?_ ?_
   | refine LeO.bind ?_ (fun _ => ?_)
set_option maxHeartbeats 8000000 in
set_option maxRecDepth 100000 in
theorem rect_Cut.calls (k : Nat) (a0_0 : Int) (a0_1 : Int) (a0_2 : Int) (a0_3 : Int) (a1 : Int) (A2 : Option Addr) (c2 : Nat) (l2 : List Int) (r1 : List (S23)) (r2 : List (S23)) (r3 : Bool) (w : World) (hr2 : Kd.C (Kd.int .i64) w A2 l2.length l2) (hc2 : l2.length ≤ c2) (h : rect_Cut.f k a0_0 a0_1 a0_2 a0_3 a1 l2 = some (r1, r2, r3)) :
  Calls Try.prog 45 #[.agg #[.int .i64 a0_0, .int .i64 a0_1, .int .i64 a0_2, .int .i64 a0_3], .int .u8 a1, .slice A2 l2.length c2] w fun e w' => ∃ v0_ v1_ : Value, e = .returned (.tuple #[v0_, v1_, .bool r3]) ∧ Kd.R k23 23 w' w.heap.size (fun k_ => some k_ ≠ (v1_ : Value).ownBlock) v0_ r1 ∧ Kd.R k23 23 w' w.heap.size (fun k_ => some k_ ≠ (v0_ : Value).ownBlock) v1_ r2 ∧ Below w.heap.size w w' := by
 have hu23 := Try.underlying23
 have HR2 := Aside0.mk hr2
 have HC2 := Aside0.mk hc2
 clear hr2 hc2
 have HB := Aside0.mk (Below.refl w.heap.size w)
 have H : ((rect_turned.f a0_0 a0_1 a0_2 a0_3 a1).bind fun bt247 => (if bt247.2.2.2.2 = true then ((rect_may.f a0_0 a0_1 a0_2 a0_3).bind fun t253 => (if t253 = true then (rect_Cut.j0 k a1 l2 ((l2.length : Int) == 0) bt247.1 bt247.2.1 bt247.2.2.1 bt247.2.2.2.1) else (rect_Cut.j0 k a1 l2 true bt247.1 bt247.2.1 bt247.2.2.1 bt247.2.2.2.1))) else (rect_Cut.j0 k a1 l2 true bt247.1 bt247.2.1 bt247.2.2.1 bt247.2.2.2.1))) = some (r1, r2, r3) := h
 clear h
 replace H := Option.bind_eq_some_iff.mp H
 obtain ⟨⟨t247, t248, t249, t250, t251⟩, A40, H⟩ := H
 replace H : (if t251 = true then ((rect_may.f a0_0 a0_1 a0_2 a0_3).bind fun t253 => (if t253 = true then (rect_Cut.j0 k a1 l2 ((l2.length : Int) == 0) t247 t248 t249 t250) else (rect_Cut.j0 k a1 l2 true t247 t248 t249 t250))) else (rect_Cut.j0 k a1 l2 true t247 t248 t249 t250)) = some (r1, r2, r3) := H
 have A4 := Aside0.mk A40
 clear A40
 have HC5 := Aside0.mk H
 clear H
 go_enter Try.func45, Try.ntmps45
 go_upto_region 2 with (first | ((with_reducible refine gate_dst (N := 3) rfl ?_); (try (refine gate_guard (by rfl) ?_; dsimp only)); refine box_event ?hg (N := 3) ?hd (cs := #[.int .i64 a0_0, .int .i64 a0_1, .int .i64 a0_2, .int .i64 a0_3]) (t := 23) ?hr ?_; (case hd => rfl); (case hg => rfl); (case hr => first | (go_simp; done) | (go_simp; rfl)); intro gb246 hg w6 hbox hb; have n0_ := Aside0.mk (below_step (by repeat (first | (with_reducible first | exact HB.out | apply below_alloc | apply pw_below_drewN | apply below_drew1) | exact HB.out)) hb); have n1_ := Aside0.mk (hbox); have n2_ := Aside0.mk ((by rw [hg]; exact (below_size (by repeat (first | (with_reducible first | exact HB.out | apply below_alloc | apply pw_below_drewN | apply below_drew1) | exact HB.out))) : w.heap.size ≤ gb246)); have n3_ := Aside0.mk ((by rw [hg]; exact (below_size (by repeat (first | (with_reducible first | exact HB.out | apply below_alloc | apply pw_below_drewN | apply below_drew1) | exact HB.out))) : w.heap.size ≤ gb246)); clear HB; have HB := n0_; have BK246 := n1_; have GW246 := n2_; have GE246 := n3_; clear n0_ n1_ n2_ n3_; clear hb hbox hg; have hcz7_0 : w6.cell? ⟨gb246, 0, none⟩ = some (.int .i64 a0_0) := (blk_cell BK246.out 0).trans rfl; have hcz7_1 : w6.cell? ⟨gb246, 1, none⟩ = some (.int .i64 a0_1) := (blk_cell BK246.out 1).trans rfl; have hcz7_2 : w6.cell? ⟨gb246, 2, none⟩ = some (.int .i64 a0_2) := (blk_cell BK246.out 2).trans rfl; have hcz7_3 : w6.cell? ⟨gb246, 3, none⟩ = some (.int .i64 a0_3) := (blk_cell BK246.out 3).trans rfl; have hfz7_0 := blk_frozen BK246.out 0; have hfz7_1 := blk_frozen BK246.out 1; have hfz7_2 := blk_frozen BK246.out 2; have hfz7_3 := blk_frozen BK246.out 3) | ((with_reducible refine gate_callee (f := 127) rfl ?_); refine goesL_ (some 23) rfl rfl Try.func127 (by kernel_rfl) rfl #[.agg #[.int .i64 a0_0, .int .i64 a0_1, .int .i64 a0_2, .int .i64 a0_3], .int .u8 a1] rfl (by (try simp only [List.map_toArray, List.map_cons, List.map_nil]); first | done | rfl | (simp only [List.length_drop, List.length_take]; rfl)) ?_; (with_reducible refine (rect_turned.calls a0_0 a0_1 a0_2 a0_3 a1 t247 t248 t249 t250 t251 _ A4.out).mono ?_); rintro e w8 ⟨rfl, hb⟩; refine ⟨_, rfl, ?_⟩; have n0_ := Aside0.mk (blk_below (g := gb246) (o := .cells #[.int .i64 a0_0, .int .i64 a0_1, .int .i64 a0_2, .int .i64 a0_3] 23 (0, 0)) (by (with_reducible repeat (first | refine blk_drewN ?_ _ | refine blk_drew ?_ | refine blk_alloc ?_ _)); exact BK246.out) hb); have n1_ := Aside0.mk (below_step (by repeat (first | (with_reducible first | exact HB.out | apply below_alloc | apply pw_below_drewN | apply below_drew1 | refine below_set ?_ GE246.out) | exact HB.out)) hb); clear BK246; clear HB; have BK246 := n0_; have HB := n1_; clear n0_ n1_; (try clear hb); (try clear hb2); (try clear hk); (try clear hi)) | ((with_reducible refine gate_dst (N := 9) rfl ?_); (try (refine gate_guard (by rfl) ?_; dsimp only)); refine box_event ?hg (N := 9) ?hd (cs := #[.int .i64 0, .int .i64 0, .int .i64 0, .int .i64 0]) (t := 23) ?hr ?_; (case hd => rfl); (case hg => rfl); (case hr => first | (go_simp; done) | (go_simp; rfl)); intro gb252 hg w9 hbox hb; have n0_ := Aside0.mk (blk_below (g := gb246) (o := .cells #[.int .i64 a0_0, .int .i64 a0_1, .int .i64 a0_2, .int .i64 a0_3] 23 (0, 0)) (by (with_reducible repeat (first | refine blk_drewN ?_ _ | refine blk_drew ?_ | refine blk_alloc ?_ _)); exact BK246.out) hb); have n1_ := Aside0.mk (below_step (by repeat (first | (with_reducible first | exact HB.out | apply below_alloc | apply pw_below_drewN | apply below_drew1 | refine below_set ?_ GE246.out) | exact HB.out)) hb); have n2_ := Aside0.mk (hbox); have n3_ := Aside0.mk ((by rw [hg]; exact (below_size (by repeat (first | (with_reducible first | exact HB.out | apply below_alloc | apply pw_below_drewN | apply below_drew1 | refine below_set ?_ GE246.out) | exact HB.out))) : w.heap.size ≤ gb252)); have n4_ := Aside0.mk ((by rw [hg]; exact (below_size (by repeat (first | (with_reducible first | exact HB.out | apply below_alloc | apply pw_below_drewN | apply below_drew1 | refine below_set ?_ GE246.out) | exact HB.out))) : w.heap.size ≤ gb252)); have n5_ := Aside0.mk ((by rw [hg]; exact Nat.ne_of_lt (blk_lt (g := gb246) (o := .cells #[.int .i64 a0_0, .int .i64 a0_1, .int .i64 a0_2, .int .i64 a0_3] 23 (0, 0)) (by (with_reducible repeat (first | refine blk_drewN ?_ _ | refine blk_drew ?_ | refine blk_alloc ?_ _)); exact BK246.out)) : gb246 ≠ gb252)); have n6_ := Aside0.mk ((by rw [hg]; exact Nat.ne_of_gt (blk_lt (g := gb246) (o := .cells #[.int .i64 a0_0, .int .i64 a0_1, .int .i64 a0_2, .int .i64 a0_3] 23 (0, 0)) (by (with_reducible repeat (first | refine blk_drewN ?_ _ | refine blk_drew ?_ | refine blk_alloc ?_ _)); exact BK246.out)) : gb252 ≠ gb246)); clear BK246; clear HB; have BK246 := n0_; have HB := n1_; have BK252 := n2_; have GW252 := n3_; have GE252 := n4_; have NB246_252 := n5_; have NB252_246 := n6_; clear n0_ n1_ n2_ n3_ n4_ n5_ n6_; clear hb hbox hg; have hnb10 := NB252_246.out; have hnc10 := NB246_252.out; have hcz11_0 : w9.cell? ⟨gb252, 0, none⟩ = some (.int .i64 0) := (blk_cell BK252.out 0).trans rfl; have hcz11_1 : w9.cell? ⟨gb252, 1, none⟩ = some (.int .i64 0) := (blk_cell BK252.out 1).trans rfl; have hcz11_2 : w9.cell? ⟨gb252, 2, none⟩ = some (.int .i64 0) := (blk_cell BK252.out 2).trans rfl; have hcz11_3 : w9.cell? ⟨gb252, 3, none⟩ = some (.int .i64 0) := (blk_cell BK252.out 3).trans rfl; have hfz11_0 := blk_frozen BK252.out 0; have hfz11_1 := blk_frozen BK252.out 1; have hfz11_2 := blk_frozen BK252.out 2; have hfz11_3 := blk_frozen BK252.out 3))
 (try simp only [Act.put, List.setIfInBounds_toArray, List.set_cons_zero, List.set_cons_succ])
 go_cut [37] (fun v37 wc => ∃ (kq : Nat) (x37_4 : Bool), v37 = .bool x37_4 ∧ Aside0 (rect_Cut.j0 kq a1 l2 x37_4 t247 t248 t249 t250 = some (r1, r2, r3)) ∧ Aside0 (kq ≤ k) ∧ Aside0 (wc.heap[gb246]? = some (.cells #[.int .i64 a0_0, .int .i64 a0_1, .int .i64 a0_2, .int .i64 a0_3] 23 (0, 0))) ∧ Aside0 (wc.heap[gb252]? = some (.cells #[.int .i64 t247, .int .i64 t248, .int .i64 t249, .int .i64 t250] 23 (0, 0))) ∧ Aside0 (Below w.heap.size w wc))
 case first =>
  have H := HC5.out
  clear HC5
  by_cases c12 : t251 = true
  ·subst c12
   have H1 : ((rect_may.f a0_0 a0_1 a0_2 a0_3).bind fun t253 => (if t253 = true then (rect_Cut.j0 k a1 l2 ((l2.length : Int) == 0) t247 t248 t249 t250) else (rect_Cut.j0 k a1 l2 true t247 t248 t249 t250))) = some (r1, r2, r3) := by rw [if_pos rfl] at H; exact H
   clear H
   have H := H1
   clear H1
   replace H := Option.bind_eq_some_iff.mp H
   obtain ⟨t253, A130, H⟩ := H
   replace H : (if t253 = true then (rect_Cut.j0 k a1 l2 ((l2.length : Int) == 0) t247 t248 t249 t250) else (rect_Cut.j0 k a1 l2 true t247 t248 t249 t250)) = some (r1, r2, r3) := H
   have A13 := Aside0.mk A130
   clear A130
   by_cases c14 : t253 = true
   ·subst c14
    have H1 : (rect_Cut.j0 k a1 l2 ((l2.length : Int) == 0) t247 t248 t249 t250) = some (r1, r2, r3) := by rw [if_pos rfl] at H; exact H
    clear H
    have H := H1
    clear H1
    have H' := Aside0.mk H
    clear H
    have hnb15 := NB246_252.out
    have hnc15 := NB252_246.out
    have hcz16_0 : w9.cell? ⟨gb246, 0, none⟩ = some (.int .i64 a0_0) := (blk_cell BK246.out 0).trans rfl
    have hcz16_1 : w9.cell? ⟨gb246, 1, none⟩ = some (.int .i64 a0_1) := (blk_cell BK246.out 1).trans rfl
    have hcz16_2 : w9.cell? ⟨gb246, 2, none⟩ = some (.int .i64 a0_2) := (blk_cell BK246.out 2).trans rfl
    have hcz16_3 : w9.cell? ⟨gb246, 3, none⟩ = some (.int .i64 a0_3) := (blk_cell BK246.out 3).trans rfl
    have hfz16_0 := blk_frozen BK246.out 0
    have hfz16_1 := blk_frozen BK246.out 1
    have hfz16_2 := blk_frozen BK246.out 2
    have hfz16_3 := blk_frozen BK246.out 3
    go_wp2_with (first | (go_at_call 128; (with_reducible refine (rect_may.calls a0_0 a0_1 a0_2 a0_3 true _ A13.out).mono ?_); rintro e w17 ⟨rfl, hb⟩; have n0_ := Aside0.mk (blk_below (g := gb246) (o := .cells #[.int .i64 a0_0, .int .i64 a0_1, .int .i64 a0_2, .int .i64 a0_3] 23 (0, 0)) (by (with_reducible repeat (first | refine blk_drewN ?_ _ | refine blk_drew ?_ | refine blk_alloc ?_ _)); refine blk_far ?_ NB246_252.out _; (with_reducible repeat (first | refine blk_drewN ?_ _ | refine blk_drew ?_ | refine blk_alloc ?_ _)); refine blk_far ?_ NB246_252.out _; (with_reducible repeat (first | refine blk_drewN ?_ _ | refine blk_drew ?_ | refine blk_alloc ?_ _)); refine blk_far ?_ NB246_252.out _; (with_reducible repeat (first | refine blk_drewN ?_ _ | refine blk_drew ?_ | refine blk_alloc ?_ _)); refine blk_far ?_ NB246_252.out _; (with_reducible repeat (first | refine blk_drewN ?_ _ | refine blk_drew ?_ | refine blk_alloc ?_ _)); exact BK246.out) hb); have n1_ := Aside0.mk (blk_below (g := gb252) (o := .cells #[.int .i64 t247, .int .i64 t248, .int .i64 t249, .int .i64 t250] 23 (0, 0)) (by (with_reducible repeat (first | refine blk_drewN ?_ _ | refine blk_drew ?_ | refine blk_alloc ?_ _)); refine blk_put (cs := #[.int .i64 t247, .int .i64 t248, .int .i64 t249, .int .i64 0]) ?_ 3 _ rfl; (with_reducible repeat (first | refine blk_drewN ?_ _ | refine blk_drew ?_ | refine blk_alloc ?_ _)); refine blk_put (cs := #[.int .i64 t247, .int .i64 t248, .int .i64 0, .int .i64 0]) ?_ 2 _ rfl; (with_reducible repeat (first | refine blk_drewN ?_ _ | refine blk_drew ?_ | refine blk_alloc ?_ _)); refine blk_put (cs := #[.int .i64 t247, .int .i64 0, .int .i64 0, .int .i64 0]) ?_ 1 _ rfl; (with_reducible repeat (first | refine blk_drewN ?_ _ | refine blk_drew ?_ | refine blk_alloc ?_ _)); refine blk_put (cs := #[.int .i64 0, .int .i64 0, .int .i64 0, .int .i64 0]) ?_ 0 _ rfl; (with_reducible repeat (first | refine blk_drewN ?_ _ | refine blk_drew ?_ | refine blk_alloc ?_ _)); exact BK252.out) hb); have n2_ := Aside0.mk (below_step (by repeat (first | (with_reducible first | exact HB.out | apply below_alloc | apply pw_below_drewN | apply below_drew1 | refine below_set ?_ GE246.out | refine below_set ?_ GE252.out) | exact HB.out)) hb); clear BK246; clear BK252; clear HB; have BK246 := n0_; have BK252 := n1_; have HB := n2_; clear n0_ n1_ n2_; (try clear hb); (try clear hb2); (try clear hk); (try clear hi)))
    go_meet
    case rel => exact ⟨_, (((l2.length : Int) == 0)), (by first | rfl | (simp; done) | (simp [*]; done)), H', ⟨by first | omega | exact Nat.le_refl _⟩, ⟨by (with_reducible repeat (first | refine blk_drewN ?_ _ | refine blk_drew ?_ | refine blk_alloc ?_ _)); exact BK246.out⟩, ⟨by (with_reducible repeat (first | refine blk_drewN ?_ _ | refine blk_drew ?_ | refine blk_alloc ?_ _)); exact BK252.out⟩, ⟨by repeat (first | (with_reducible first | exact HB.out | apply below_alloc | apply pw_below_drewN | apply below_drew1 | refine below_set ?_ GE246.out | refine below_set ?_ GE252.out) | exact HB.out)⟩⟩
   ·replace c14 := Bool.eq_false_iff.mpr c14
    subst c14
    have H1 : (rect_Cut.j0 k a1 l2 true t247 t248 t249 t250) = some (r1, r2, r3) := by rw [if_neg (show ¬ (false = true) by decide)] at H; exact H
    clear H
    have H := H1
    clear H1
    have H' := Aside0.mk H
    clear H
    have hnb18 := NB246_252.out
    have hnc18 := NB252_246.out
    have hcz19_0 : w9.cell? ⟨gb246, 0, none⟩ = some (.int .i64 a0_0) := (blk_cell BK246.out 0).trans rfl
    have hcz19_1 : w9.cell? ⟨gb246, 1, none⟩ = some (.int .i64 a0_1) := (blk_cell BK246.out 1).trans rfl
    have hcz19_2 : w9.cell? ⟨gb246, 2, none⟩ = some (.int .i64 a0_2) := (blk_cell BK246.out 2).trans rfl
    have hcz19_3 : w9.cell? ⟨gb246, 3, none⟩ = some (.int .i64 a0_3) := (blk_cell BK246.out 3).trans rfl
    have hfz19_0 := blk_frozen BK246.out 0
    have hfz19_1 := blk_frozen BK246.out 1
    have hfz19_2 := blk_frozen BK246.out 2
    have hfz19_3 := blk_frozen BK246.out 3
    go_wp2_with (first | (go_at_call 128; (with_reducible refine (rect_may.calls a0_0 a0_1 a0_2 a0_3 false _ A13.out).mono ?_); rintro e w20 ⟨rfl, hb⟩; have n0_ := Aside0.mk (blk_below (g := gb246) (o := .cells #[.int .i64 a0_0, .int .i64 a0_1, .int .i64 a0_2, .int .i64 a0_3] 23 (0, 0)) (by (with_reducible repeat (first | refine blk_drewN ?_ _ | refine blk_drew ?_ | refine blk_alloc ?_ _)); refine blk_far ?_ NB246_252.out _; (with_reducible repeat (first | refine blk_drewN ?_ _ | refine blk_drew ?_ | refine blk_alloc ?_ _)); refine blk_far ?_ NB246_252.out _; (with_reducible repeat (first | refine blk_drewN ?_ _ | refine blk_drew ?_ | refine blk_alloc ?_ _)); refine blk_far ?_ NB246_252.out _; (with_reducible repeat (first | refine blk_drewN ?_ _ | refine blk_drew ?_ | refine blk_alloc ?_ _)); refine blk_far ?_ NB246_252.out _; (with_reducible repeat (first | refine blk_drewN ?_ _ | refine blk_drew ?_ | refine blk_alloc ?_ _)); exact BK246.out) hb); have n1_ := Aside0.mk (blk_below (g := gb252) (o := .cells #[.int .i64 t247, .int .i64 t248, .int .i64 t249, .int .i64 t250] 23 (0, 0)) (by (with_reducible repeat (first | refine blk_drewN ?_ _ | refine blk_drew ?_ | refine blk_alloc ?_ _)); refine blk_put (cs := #[.int .i64 t247, .int .i64 t248, .int .i64 t249, .int .i64 0]) ?_ 3 _ rfl; (with_reducible repeat (first | refine blk_drewN ?_ _ | refine blk_drew ?_ | refine blk_alloc ?_ _)); refine blk_put (cs := #[.int .i64 t247, .int .i64 t248, .int .i64 0, .int .i64 0]) ?_ 2 _ rfl; (with_reducible repeat (first | refine blk_drewN ?_ _ | refine blk_drew ?_ | refine blk_alloc ?_ _)); refine blk_put (cs := #[.int .i64 t247, .int .i64 0, .int .i64 0, .int .i64 0]) ?_ 1 _ rfl; (with_reducible repeat (first | refine blk_drewN ?_ _ | refine blk_drew ?_ | refine blk_alloc ?_ _)); refine blk_put (cs := #[.int .i64 0, .int .i64 0, .int .i64 0, .int .i64 0]) ?_ 0 _ rfl; (with_reducible repeat (first | refine blk_drewN ?_ _ | refine blk_drew ?_ | refine blk_alloc ?_ _)); exact BK252.out) hb); have n2_ := Aside0.mk (below_step (by repeat (first | (with_reducible first | exact HB.out | apply below_alloc | apply pw_below_drewN | apply below_drew1 | refine below_set ?_ GE246.out | refine below_set ?_ GE252.out) | exact HB.out)) hb); clear BK246; clear BK252; clear HB; have BK246 := n0_; have BK252 := n1_; have HB := n2_; clear n0_ n1_ n2_; (try clear hb); (try clear hb2); (try clear hk); (try clear hi)))
    go_meet
    case rel => exact ⟨_, (true), (by first | rfl | (simp; done) | (simp [*]; done)), H', ⟨by first | omega | exact Nat.le_refl _⟩, ⟨by (with_reducible repeat (first | refine blk_drewN ?_ _ | refine blk_drew ?_ | refine blk_alloc ?_ _)); exact BK246.out⟩, ⟨by (with_reducible repeat (first | refine blk_drewN ?_ _ | refine blk_drew ?_ | refine blk_alloc ?_ _)); exact BK252.out⟩, ⟨by repeat (first | (with_reducible first | exact HB.out | apply below_alloc | apply pw_below_drewN | apply below_drew1 | refine below_set ?_ GE246.out | refine below_set ?_ GE252.out) | exact HB.out)⟩⟩
  ·replace c12 := Bool.eq_false_iff.mpr c12
   subst c12
   have H1 : (rect_Cut.j0 k a1 l2 true t247 t248 t249 t250) = some (r1, r2, r3) := by rw [if_neg (show ¬ (false = true) by decide)] at H; exact H
   clear H
   have H := H1
   clear H1
   have H' := Aside0.mk H
   clear H
   go_wp2
   go_meet
   case rel => exact ⟨_, (true), (by first | rfl | (simp; done) | (simp [*]; done)), H', ⟨by first | omega | exact Nat.le_refl _⟩, ⟨by (with_reducible repeat (first | refine blk_drewN ?_ _ | refine blk_drew ?_ | refine blk_alloc ?_ _)); refine blk_far ?_ NB246_252.out _; (with_reducible repeat (first | refine blk_drewN ?_ _ | refine blk_drew ?_ | refine blk_alloc ?_ _)); refine blk_far ?_ NB246_252.out _; (with_reducible repeat (first | refine blk_drewN ?_ _ | refine blk_drew ?_ | refine blk_alloc ?_ _)); refine blk_far ?_ NB246_252.out _; (with_reducible repeat (first | refine blk_drewN ?_ _ | refine blk_drew ?_ | refine blk_alloc ?_ _)); refine blk_far ?_ NB246_252.out _; (with_reducible repeat (first | refine blk_drewN ?_ _ | refine blk_drew ?_ | refine blk_alloc ?_ _)); exact BK246.out⟩, ⟨by (with_reducible repeat (first | refine blk_drewN ?_ _ | refine blk_drew ?_ | refine blk_alloc ?_ _)); refine blk_put (cs := #[.int .i64 t247, .int .i64 t248, .int .i64 t249, .int .i64 0]) ?_ 3 _ rfl; (with_reducible repeat (first | refine blk_drewN ?_ _ | refine blk_drew ?_ | refine blk_alloc ?_ _)); refine blk_put (cs := #[.int .i64 t247, .int .i64 t248, .int .i64 0, .int .i64 0]) ?_ 2 _ rfl; (with_reducible repeat (first | refine blk_drewN ?_ _ | refine blk_drew ?_ | refine blk_alloc ?_ _)); refine blk_put (cs := #[.int .i64 t247, .int .i64 0, .int .i64 0, .int .i64 0]) ?_ 1 _ rfl; (with_reducible repeat (first | refine blk_drewN ?_ _ | refine blk_drew ?_ | refine blk_alloc ?_ _)); refine blk_put (cs := #[.int .i64 0, .int .i64 0, .int .i64 0, .int .i64 0]) ?_ 0 _ rfl; (with_reducible repeat (first | refine blk_drewN ?_ _ | refine blk_drew ?_ | refine blk_alloc ?_ _)); exact BK252.out⟩, ⟨by repeat (first | (with_reducible first | exact HB.out | apply below_alloc | apply pw_below_drewN | apply below_drew1 | refine below_set ?_ GE246.out | refine below_set ?_ GE252.out) | exact HB.out)⟩⟩
 case rest =>
  clear HC5
  try clear c1
  try clear c2
  try clear p2
  try clear c4
  try clear c10
  try clear c12
  try clear c14
  try clear c15
  try clear c18
  try clear hcz11_0
  try clear hcz11_1
  try clear hcz11_2
  try clear hcz11_3
  try clear hcz16_0
  try clear hcz16_1
  try clear hcz16_2
  try clear hcz16_3
  try clear hcz19_0
  try clear hcz19_1
  try clear hcz19_2
  try clear hcz19_3
  try clear hcz7_0
  try clear hcz7_1
  try clear hcz7_2
  try clear hcz7_3
  try clear hfz11_0
  try clear hfz11_1
  try clear hfz11_2
  try clear hfz11_3
  try clear hfz16_0
  try clear hfz16_1
  try clear hfz16_2
  try clear hfz16_3
  try clear hfz19_0
  try clear hfz19_1
  try clear hfz19_2
  try clear hfz19_3
  try clear hfz7_0
  try clear hfz7_1
  try clear hfz7_2
  try clear hfz7_3
  obtain ⟨kq, x37_4, rfl, HA, HJ4, BK246, BK252, HB⟩ := hcut
  cases kq with
  | zero => exact absurd HA.out (by simp [rect_Cut.j0])
  | succ kj4 =>
   have H := HA.out
   clear HA
   simp only [rect_Cut.j0] at H
   by_cases c21 : x37_4 = true
   ·subst c21
    have H1 : (some (([] : List (S23)), ([] : List (S23)), false)) = some (r1, r2, r3) := by rw [if_pos rfl] at H; exact H
    clear H
    have H := H1
    clear H1
    simp only [Option.some.injEq, Prod.mk.injEq] at H
    obtain ⟨rfl, rfl, rfl⟩ := H
    go_wp2
    go_ret3
    exact ⟨_, _, by first | rfl | (simp [errW_none, errW_some] <;> rfl) | (simp [*, errW_none, errW_some] <;> rfl), by first | exact Kd.R_nil _ _ _ _ _ | exact Kd.N_nil _ _ _ _ _ | exact Kd.V_nil _ _ _ _ _ | exact Kd.Q_nil _ _ _ _ _ | exact Kd.S_nil _ _ _ _ _, by first | exact Kd.R_nil _ _ _ _ _ | exact Kd.N_nil _ _ _ _ _ | exact Kd.V_nil _ _ _ _ _ | exact Kd.Q_nil _ _ _ _ _ | exact Kd.S_nil _ _ _ _ _, by repeat (first | (with_reducible first | exact HB.out | apply below_alloc | apply pw_below_drewN | apply below_drew1 | refine below_set ?_ GE246.out | refine below_set ?_ GE252.out) | exact HB.out)⟩
   ·replace c21 := Bool.eq_false_iff.mpr c21
    subst c21
    have H1 : (rect_Cut.l0 kj4 a1 ([] : List (S23)) ([] : List (S23)) t247 l2 (l2.length : Int) 0 t247 t248 t249 t250) = some (r1, r2, r3) := by rw [if_neg (show ¬ (false = true) by decide)] at H; exact H
    clear H
    have H := H1
    clear H1
    have H' := Aside0.mk H
    clear H
    have hnb22 := NB252_246.out
    have hnc22 := NB246_252.out
    have hcz23_0 : wc.cell? ⟨gb252, 0, none⟩ = some (.int .i64 t247) := (blk_cell BK252.out 0).trans rfl
    have hcz23_1 : wc.cell? ⟨gb252, 1, none⟩ = some (.int .i64 t248) := (blk_cell BK252.out 1).trans rfl
    have hcz23_2 : wc.cell? ⟨gb252, 2, none⟩ = some (.int .i64 t249) := (blk_cell BK252.out 2).trans rfl
    have hcz23_3 : wc.cell? ⟨gb252, 3, none⟩ = some (.int .i64 t250) := (blk_cell BK252.out 3).trans rfl
    have hfz23_0 := blk_frozen BK252.out 0
    have hfz23_1 := blk_frozen BK252.out 1
    have hfz23_2 := blk_frozen BK252.out 2
    have hfz23_3 := blk_frozen BK252.out 3
    go_wp2
    go_loopg [11, 12, 13, 42] kj4 (fun kq v11 v12 v13 v42 w' => ∃ (x11_2 : List (S23)) (x12_2 : List (S23)) (x13_2 : Int) (x42_2 : Int), v13 = .int .i64 x13_2 ∧ v42 = .int .i64 x42_2 ∧ Aside0 (rect_Cut.l0 kq a1 x11_2 x12_2 x13_2 l2 (l2.length : Int) x42_2 t247 t248 t249 t250 = some (r1, r2, r3)) ∧ Aside0 (kq ≤ kj4) ∧ Aside0 (Kd.R k23 23 w' w.heap.size (fun k_ => some k_ ≠ (v12 : Value).ownBlock ∧ k_ ≠ gb246 ∧ k_ ≠ gb252) v11 x11_2) ∧ Aside0 (Kd.R k23 23 w' w.heap.size (fun k_ => some k_ ≠ (v11 : Value).ownBlock ∧ k_ ≠ gb246 ∧ k_ ≠ gb252) v12 x12_2) ∧ Aside0 (w'.heap[gb246]? = some (.cells #[.int .i64 a0_0, .int .i64 a0_1, .int .i64 a0_2, .int .i64 a0_3] 23 (0, 0))) ∧ Aside0 (w'.heap[gb252]? = some (.cells #[.int .i64 t247, .int .i64 t248, .int .i64 t249, .int .i64 t250] 23 (0, 0))) ∧ Aside0 (Below w.heap.size w w'))
    case atStart => exact ⟨(([] : List (S23))), (([] : List (S23))), (t247), (0), (by first | rfl | (simp; done) | (simp [*]; done)), (by first | rfl | (simp; done) | (simp [*]; done)), H', ⟨Nat.le_refl _⟩, ⟨by first | exact Kd.R_nil _ _ _ _ _ | exact Kd.N_nil _ _ _ _ _ | exact Kd.V_nil _ _ _ _ _ | exact Kd.Q_nil _ _ _ _ _ | exact Kd.S_nil _ _ _ _ _⟩, ⟨by first | exact Kd.R_nil _ _ _ _ _ | exact Kd.N_nil _ _ _ _ _ | exact Kd.V_nil _ _ _ _ _ | exact Kd.Q_nil _ _ _ _ _ | exact Kd.S_nil _ _ _ _ _⟩, ⟨by (with_reducible repeat (first | refine blk_drewN ?_ _ | refine blk_drew ?_ | refine blk_alloc ?_ _)); exact BK246.out⟩, ⟨by (with_reducible repeat (first | refine blk_drewN ?_ _ | refine blk_drew ?_ | refine blk_alloc ?_ _)); exact BK252.out⟩, ⟨by repeat (first | (with_reducible first | exact HB.out | apply below_alloc | apply pw_below_drewN | apply below_drew1 | refine below_set ?_ GE246.out | refine below_set ?_ GE252.out) | exact HB.out)⟩⟩
    case round =>
     clear H'
     try clear c1
     try clear c2
     try clear p2
     try clear c4
     try clear c10
     try clear c12
     try clear c14
     try clear c15
     try clear c18
     try clear c21
     try clear c22
     try clear hcz11_0
     try clear hcz11_1
     try clear hcz11_2
     try clear hcz11_3
     try clear hcz16_0
     try clear hcz16_1
     try clear hcz16_2
     try clear hcz16_3
     try clear hcz19_0
     try clear hcz19_1
     try clear hcz19_2
     try clear hcz19_3
     try clear hcz23_0
     try clear hcz23_1
     try clear hcz23_2
     try clear hcz23_3
     try clear hcz7_0
     try clear hcz7_1
     try clear hcz7_2
     try clear hcz7_3
     try clear hfz11_0
     try clear hfz11_1
     try clear hfz11_2
     try clear hfz11_3
     try clear hfz16_0
     try clear hfz16_1
     try clear hfz16_2
     try clear hfz16_3
     try clear hfz19_0
     try clear hfz19_1
     try clear hfz19_2
     try clear hfz19_3
     try clear hfz23_0
     try clear hfz23_1
     try clear hfz23_2
     try clear hfz23_3
     try clear hfz7_0
     try clear hfz7_1
     try clear hfz7_2
     try clear hfz7_3
     try clear p2
     obtain ⟨x11_2, x12_2, x13_2, x42_2, rfl, rfl, HA, HK2, HO_11, HO_12, BK246, BK252, HB⟩ := hrel
     cases gk with
     | zero => exact absurd HA.out (by simp [rect_Cut.l0])
     | succ k2 =>
      have H := HA.out
      clear HA
      simp only [rect_Cut.l0] at H
      by_cases c24 : x42_2 < (l2.length : Int)
      ·rw [if_pos c24] at H
       have c24b0 : decide (x42_2 < (l2.length : Int)) = true := decide_eq_true c24
       clear c24
       by_cases c25 : 0 ≤ x42_2
       ·rw [if_pos c25] at H
        have c25b0 : decide (0 ≤ x42_2) = true := decide_eq_true c25
        clear c25
        by_cases c26 : x42_2 < (l2.length : Int)
        ·rw [if_pos c26] at H
         have c26b0 : decide (x42_2 < (l2.length : Int)) = true := decide_eq_true c26
         clear c26
         by_cases c27 : x42_2 > 0
         ·rw [if_pos c27] at H
          have c27b0 : decide (0 < x42_2) = true := decide_eq_true c27
          clear c27
          replace H := Option.bind_eq_some_iff.mp H
          obtain ⟨⟨t255, t256, t257, t258, t259⟩, A280, H⟩ := H
          replace H : (if x12_2.length < 4398046511104 then (if (rd l2 x42_2) < 1 then (some (([] : List (S23)), ([] : List (S23)), false)) else (if (rd l2 x42_2) > (wrap64 ((wrap64 (t247 + t249)) - (wrap64 (x13_2 + 1)))) then (some (([] : List (S23)), ([] : List (S23)), false)) else ((rect_turned.f (wrap64 (x13_2 + 1)) t248 (rd l2 x42_2) t250 a1).bind fun bt264 => (if x11_2.length < 4398046511104 then (rect_Cut.l0 k2 a1 (x11_2 ++ [(⟨bt264.1, bt264.2.1, bt264.2.2.1, bt264.2.2.2.1⟩ : S23)]) (x12_2 ++ [(⟨t255, t256, t257, t258⟩ : S23)]) (wrap64 ((wrap64 (x13_2 + 1)) + (rd l2 x42_2))) l2 (l2.length : Int) (wrap64 (x42_2 + 1)) t247 t248 t249 t250) else (none))))) else (none)) = some (r1, r2, r3) := H
          have A28 := Aside0.mk A280
          clear A280
          by_cases c29 : x12_2.length < 4398046511104
          ·rw [if_pos c29] at H
           have LMc29 := Aside0.mk c29
           clear c29
           obtain ⟨y261, hy261⟩ : ∃ y_ : List (S23), y_ = (x12_2 ++ [(⟨t255, t256, t257, t258⟩ : S23)]) := ⟨_, rfl⟩
           replace H : (if (rd l2 x42_2) < 1 then (some (([] : List (S23)), ([] : List (S23)), false)) else (if (rd l2 x42_2) > (wrap64 ((wrap64 (t247 + t249)) - (wrap64 (x13_2 + 1)))) then (some (([] : List (S23)), ([] : List (S23)), false)) else ((rect_turned.f (wrap64 (x13_2 + 1)) t248 (rd l2 x42_2) t250 a1).bind fun bt264 => (if x11_2.length < 4398046511104 then (rect_Cut.l0 k2 a1 (x11_2 ++ [(⟨bt264.1, bt264.2.1, bt264.2.2.1, bt264.2.2.2.1⟩ : S23)]) y261 (wrap64 ((wrap64 (x13_2 + 1)) + (rd l2 x42_2))) l2 (l2.length : Int) (wrap64 (x42_2 + 1)) t247 t248 t249 t250) else (none))))) = some (r1, r2, r3) := by first | (rw [hy261]; with_reducible exact H) | (have H2_ := (Option.bind_some _ _).symm.trans H; rw [hy261]; with_reducible exact H2_) | (have H2_ := (Option.bind_some _ _).symm.trans H; with_reducible exact H2_) | with_reducible exact H | (rw [hy261]; exact H) | exact H
           have Ny261 := Aside0.mk hy261
           clear hy261
           by_cases c30 : (rd l2 x42_2) < 1
           ·rw [if_pos c30] at H
            have c30b0 : decide ((rd l2 x42_2) < 1) = true := decide_eq_true c30
            clear c30
            simp only [Option.some.injEq, Prod.mk.injEq] at H
            obtain ⟨rfl, rfl, rfl⟩ := H
            have p254 : 0 ≤ (x42_2 : Int) := of_decide_eq_true (by first | (with_reducible assumption) | assumption)
            have q254 : x42_2 < (l2.length : Int) := of_decide_eq_true (by first | (with_reducible assumption) | assumption)
            obtain ⟨ad254, e254, hx254_0⟩ := Kd.at_int HR2.out x42_2 p254 q254
            cases e254
            replace hx254_0 := (HB.out.cell (World.block_lt_of_cell? w _ hx254_0)).trans hx254_0
            replace p254 := eq_true p254
            replace q254 := eq_true q254
            have hnb31 := NB252_246.out
            have hnc31 := NB246_252.out
            have hcz32_0 : wr.cell? ⟨gb252, 0, none⟩ = some (.int .i64 t247) := (blk_cell BK252.out 0).trans rfl
            have hcz32_1 : wr.cell? ⟨gb252, 1, none⟩ = some (.int .i64 t248) := (blk_cell BK252.out 1).trans rfl
            have hcz32_2 : wr.cell? ⟨gb252, 2, none⟩ = some (.int .i64 t249) := (blk_cell BK252.out 2).trans rfl
            have hcz32_3 : wr.cell? ⟨gb252, 3, none⟩ = some (.int .i64 t250) := (blk_cell BK252.out 3).trans rfl
            have hfz32_0 := blk_frozen BK252.out 0
            have hfz32_1 := blk_frozen BK252.out 1
            have hfz32_2 := blk_frozen BK252.out 2
            have hfz32_3 := blk_frozen BK252.out 3
            go_wp2_with (first | ((with_reducible refine gate_callee (f := 127) rfl ?_); refine goesL_ (some 57) rfl rfl Try.func127 (by kernel_rfl) rfl #[.agg #[.int .i64 x13_2, .int .i64 t248, .int .i64 1, .int .i64 t250], .int .u8 a1] rfl (by (try simp only [List.map_toArray, List.map_cons, List.map_nil]); first | done | rfl | (simp only [List.length_drop, List.length_take]; rfl)) ?_; (with_reducible refine (rect_turned.calls x13_2 t248 1 t250 a1 t255 t256 t257 t258 t259 _ A28.out).mono ?_); rintro e w33 ⟨rfl, hb⟩; refine ⟨_, rfl, ?_⟩; have n0_ := Aside0.mk (Kd.R_below (by (with_reducible repeat (first | apply Kd.R_alloc | apply Kd.R_drewN | apply Kd.R_drew)); exact HO_11.out) hb); have n1_ := Aside0.mk (Kd.R_below (by (with_reducible repeat (first | apply Kd.R_alloc | apply Kd.R_drewN | apply Kd.R_drew)); exact HO_12.out) hb); have n2_ := Aside0.mk (blk_below (g := gb246) (o := .cells #[.int .i64 a0_0, .int .i64 a0_1, .int .i64 a0_2, .int .i64 a0_3] 23 (0, 0)) (by (with_reducible repeat (first | refine blk_drewN ?_ _ | refine blk_drew ?_ | refine blk_alloc ?_ _)); exact BK246.out) hb); have n3_ := Aside0.mk (blk_below (g := gb252) (o := .cells #[.int .i64 t247, .int .i64 t248, .int .i64 t249, .int .i64 t250] 23 (0, 0)) (by (with_reducible repeat (first | refine blk_drewN ?_ _ | refine blk_drew ?_ | refine blk_alloc ?_ _)); exact BK252.out) hb); have n4_ := Aside0.mk (below_step (by repeat (first | (with_reducible first | exact HB.out | apply below_alloc | apply pw_below_drewN | apply below_drew1 | refine below_set ?_ GE246.out | refine below_set ?_ GE252.out) | exact HB.out)) hb); clear HO_11; clear HO_12; clear BK246; clear BK252; clear HB; have HO_11 := n0_; have HO_12 := n1_; have BK246 := n2_; have BK252 := n3_; have HB := n4_; clear n0_ n1_ n2_ n3_ n4_; (try clear hb); (try clear hb2); (try clear hk); (try clear hi)) | ((with_reducible refine gate_dst (N := 16) rfl ?_); (try (refine gate_guard (by rfl) ?_; dsimp only)); refine box_event ?hg (N := 16) ?hd (cs := #[.int .i64 0, .int .i64 0, .int .i64 0, .int .i64 0]) (t := 23) ?hr ?_; (case hd => rfl); (case hg => rfl); (case hr => first | (go_simp; done) | (go_simp; rfl)); intro gb260 hg w34 hbox hb; have n0_ := Aside0.mk (Kd.R_below (Kd.R_elderB (by (with_reducible repeat (first | apply Kd.R_alloc | apply Kd.R_drewN | apply Kd.R_drew)); exact HO_11.out) gb260 (Nat.le_of_eq hg.symm)) hb); have n1_ := Aside0.mk (Kd.R_below (Kd.R_elderB (by (with_reducible repeat (first | apply Kd.R_alloc | apply Kd.R_drewN | apply Kd.R_drew)); exact HO_12.out) gb260 (Nat.le_of_eq hg.symm)) hb); have n2_ := Aside0.mk (blk_below (g := gb246) (o := .cells #[.int .i64 a0_0, .int .i64 a0_1, .int .i64 a0_2, .int .i64 a0_3] 23 (0, 0)) (by (with_reducible repeat (first | refine blk_drewN ?_ _ | refine blk_drew ?_ | refine blk_alloc ?_ _)); exact BK246.out) hb); have n3_ := Aside0.mk (blk_below (g := gb252) (o := .cells #[.int .i64 t247, .int .i64 t248, .int .i64 t249, .int .i64 t250] 23 (0, 0)) (by (with_reducible repeat (first | refine blk_drewN ?_ _ | refine blk_drew ?_ | refine blk_alloc ?_ _)); exact BK252.out) hb); have n4_ := Aside0.mk (below_step (by repeat (first | (with_reducible first | exact HB.out | apply below_alloc | apply pw_below_drewN | apply below_drew1 | refine below_set ?_ GE246.out | refine below_set ?_ GE252.out) | exact HB.out)) hb); have n5_ := Aside0.mk (hbox); have n6_ := Aside0.mk ((by rw [hg]; exact (below_size (by repeat (first | (with_reducible first | exact HB.out | apply below_alloc | apply pw_below_drewN | apply below_drew1 | refine below_set ?_ GE246.out | refine below_set ?_ GE252.out) | exact HB.out))) : w.heap.size ≤ gb260)); have n7_ := Aside0.mk ((by rw [hg]; exact (below_size (by repeat (first | (with_reducible first | exact HB.out | apply below_alloc | apply pw_below_drewN | apply below_drew1 | refine below_set ?_ GE246.out | refine below_set ?_ GE252.out) | exact HB.out))) : w.heap.size ≤ gb260)); have n8_ := Aside0.mk ((by rw [hg]; exact Nat.ne_of_lt (blk_lt (g := gb246) (o := .cells #[.int .i64 a0_0, .int .i64 a0_1, .int .i64 a0_2, .int .i64 a0_3] 23 (0, 0)) (by (with_reducible repeat (first | refine blk_drewN ?_ _ | refine blk_drew ?_ | refine blk_alloc ?_ _)); exact BK246.out)) : gb246 ≠ gb260)); have n9_ := Aside0.mk ((by rw [hg]; exact Nat.ne_of_gt (blk_lt (g := gb246) (o := .cells #[.int .i64 a0_0, .int .i64 a0_1, .int .i64 a0_2, .int .i64 a0_3] 23 (0, 0)) (by (with_reducible repeat (first | refine blk_drewN ?_ _ | refine blk_drew ?_ | refine blk_alloc ?_ _)); exact BK246.out)) : gb260 ≠ gb246)); have n10_ := Aside0.mk ((by rw [hg]; exact Nat.ne_of_lt (blk_lt (g := gb252) (o := .cells #[.int .i64 t247, .int .i64 t248, .int .i64 t249, .int .i64 t250] 23 (0, 0)) (by (with_reducible repeat (first | refine blk_drewN ?_ _ | refine blk_drew ?_ | refine blk_alloc ?_ _)); exact BK252.out)) : gb252 ≠ gb260)); have n11_ := Aside0.mk ((by rw [hg]; exact Nat.ne_of_gt (blk_lt (g := gb252) (o := .cells #[.int .i64 t247, .int .i64 t248, .int .i64 t249, .int .i64 t250] 23 (0, 0)) (by (with_reducible repeat (first | refine blk_drewN ?_ _ | refine blk_drew ?_ | refine blk_alloc ?_ _)); exact BK252.out)) : gb260 ≠ gb252)); clear HO_11; clear HO_12; clear BK246; clear BK252; clear HB; have HO_11 := n0_; have HO_12 := n1_; have BK246 := n2_; have BK252 := n3_; have HB := n4_; have BK260 := n5_; have GW260 := n6_; have GE260 := n7_; have NB246_260 := n8_; have NB260_246 := n9_; have NB252_260 := n10_; have NB260_252 := n11_; clear n0_ n1_ n2_ n3_ n4_ n5_ n6_ n7_ n8_ n9_ n10_ n11_; clear hb hbox hg; have hnb35 := NB260_246.out; have hnc35 := NB246_260.out; have hnb36 := NB260_252.out; have hnc36 := NB252_260.out; have hcz37_0 : w34.cell? ⟨gb260, 0, none⟩ = some (.int .i64 0) := (blk_cell BK260.out 0).trans rfl; have hcz37_1 : w34.cell? ⟨gb260, 1, none⟩ = some (.int .i64 0) := (blk_cell BK260.out 1).trans rfl; have hcz37_2 : w34.cell? ⟨gb260, 2, none⟩ = some (.int .i64 0) := (blk_cell BK260.out 2).trans rfl; have hcz37_3 : w34.cell? ⟨gb260, 3, none⟩ = some (.int .i64 0) := (blk_cell BK260.out 3).trans rfl; have hfz37_0 := blk_frozen BK260.out 0; have hfz37_1 := blk_frozen BK260.out 1; have hfz37_2 := blk_frozen BK260.out 2; have hfz37_3 := blk_frozen BK260.out 3) | ((with_reducible refine gate_builtin (b := .append) (xs := #[.tmp 60, .tmp 62]) rfl ?_); (try (refine gate_guard (by rfl) ?_; dsimp only)); at_builtin; refine Kd.R_append k23 (w0 := w) w.heap.size rfl (.tmp 60) (.tmp 62) 42 23 (.agg #[(.int .i64 0), (.int .i64 0), (.int .i64 0), (.int .i64 0)]) 32 rfl Try.underlying42 info23 rfl (by decide) (by omega) u12 x12_2 (⟨t255, t256, t257, t258⟩ : S23) [.int .i64 t255, .int .i64 t256, .int .i64 t257, .int .i64 t258] (fun k_ => some k_ ≠ (u11 : Value).ownBlock ∧ k_ ≠ gb246 ∧ k_ ≠ gb252 ∧ k_ ≠ gb260) (fun _ => False) rfl (by first | (go_simp; done) | (go_simp; rfl)) ?aP (fun _ hk => hk.elim) ?aF ?aO ?aB ?aS ?aL ?_; (case aP => exact k23_mkM _ _ _ (⟨t255, t256, t257, t258⟩ : S23)); (case aB => exact (by repeat (first | (with_reducible first | exact HB.out | apply below_alloc | apply pw_below_drewN | apply below_drew1 | refine below_set ?_ GE246.out | refine below_set ?_ GE252.out | refine below_set ?_ GE260.out) | exact HB.out))); (case aF => exact (fun k_ hk => ⟨Kd.fresh' (Kd.R_lt (by (with_reducible repeat (first | apply Kd.R_alloc | apply Kd.R_drewN | apply Kd.R_drew)); exact (Kd.R_mono (Kd.R_far (p := ⟨gb260, 3, none⟩) (Kd.R_far (p := ⟨gb260, 2, none⟩) (Kd.R_far (p := ⟨gb260, 1, none⟩) (Kd.R_far (p := ⟨gb260, 0, none⟩) (Kd.R_mono HO_11.out (fun k_ hk => (⟨hk, hk.2⟩ : _ ∧ k_ ≠ gb260))) (fun _ hk => hk.2) (.int .i64 t255)) (fun _ hk => hk.2) (.int .i64 t256)) (fun _ hk => hk.2) (.int .i64 t257)) (fun _ hk => hk.2) (.int .i64 t258)) (fun _ h_ => h_.1)))) k_ hk, Kd.freshB (g := gb246) (o := .cells #[.int .i64 a0_0, .int .i64 a0_1, .int .i64 a0_2, .int .i64 a0_3] 23 (0, 0)) (by (with_reducible repeat (first | refine blk_drewN ?_ _ | refine blk_drew ?_ | refine blk_alloc ?_ _)); refine blk_far ?_ NB246_260.out _; (with_reducible repeat (first | refine blk_drewN ?_ _ | refine blk_drew ?_ | refine blk_alloc ?_ _)); refine blk_far ?_ NB246_260.out _; (with_reducible repeat (first | refine blk_drewN ?_ _ | refine blk_drew ?_ | refine blk_alloc ?_ _)); refine blk_far ?_ NB246_260.out _; (with_reducible repeat (first | refine blk_drewN ?_ _ | refine blk_drew ?_ | refine blk_alloc ?_ _)); refine blk_far ?_ NB246_260.out _; (with_reducible repeat (first | refine blk_drewN ?_ _ | refine blk_drew ?_ | refine blk_alloc ?_ _)); exact BK246.out) k_ hk, Kd.freshB (g := gb252) (o := .cells #[.int .i64 t247, .int .i64 t248, .int .i64 t249, .int .i64 t250] 23 (0, 0)) (by (with_reducible repeat (first | refine blk_drewN ?_ _ | refine blk_drew ?_ | refine blk_alloc ?_ _)); refine blk_far ?_ NB252_260.out _; (with_reducible repeat (first | refine blk_drewN ?_ _ | refine blk_drew ?_ | refine blk_alloc ?_ _)); refine blk_far ?_ NB252_260.out _; (with_reducible repeat (first | refine blk_drewN ?_ _ | refine blk_drew ?_ | refine blk_alloc ?_ _)); refine blk_far ?_ NB252_260.out _; (with_reducible repeat (first | refine blk_drewN ?_ _ | refine blk_drew ?_ | refine blk_alloc ?_ _)); refine blk_far ?_ NB252_260.out _; (with_reducible repeat (first | refine blk_drewN ?_ _ | refine blk_drew ?_ | refine blk_alloc ?_ _)); exact BK252.out) k_ hk, Kd.freshB (g := gb260) (o := .cells #[.int .i64 t255, .int .i64 t256, .int .i64 t257, .int .i64 t258] 23 (0, 0)) (by (with_reducible repeat (first | refine blk_drewN ?_ _ | refine blk_drew ?_ | refine blk_alloc ?_ _)); refine blk_put (cs := #[.int .i64 t255, .int .i64 t256, .int .i64 t257, .int .i64 0]) ?_ 3 _ rfl; (with_reducible repeat (first | refine blk_drewN ?_ _ | refine blk_drew ?_ | refine blk_alloc ?_ _)); refine blk_put (cs := #[.int .i64 t255, .int .i64 t256, .int .i64 0, .int .i64 0]) ?_ 2 _ rfl; (with_reducible repeat (first | refine blk_drewN ?_ _ | refine blk_drew ?_ | refine blk_alloc ?_ _)); refine blk_put (cs := #[.int .i64 t255, .int .i64 0, .int .i64 0, .int .i64 0]) ?_ 1 _ rfl; (with_reducible repeat (first | refine blk_drewN ?_ _ | refine blk_drew ?_ | refine blk_alloc ?_ _)); refine blk_put (cs := #[.int .i64 0, .int .i64 0, .int .i64 0, .int .i64 0]) ?_ 0 _ rfl; (with_reducible repeat (first | refine blk_drewN ?_ _ | refine blk_drew ?_ | refine blk_alloc ?_ _)); exact BK260.out) k_ hk⟩)); (case aO => exact (by (with_reducible repeat (first | apply Kd.R_alloc | apply Kd.R_drewN | apply Kd.R_drew)); exact Kd.R_mono (Kd.R_far (p := ⟨gb260, 3, none⟩) (Kd.R_far (p := ⟨gb260, 2, none⟩) (Kd.R_far (p := ⟨gb260, 1, none⟩) (Kd.R_far (p := ⟨gb260, 0, none⟩) (Kd.R_mono HO_12.out (fun k_ hk => (⟨hk, hk.2⟩ : _ ∧ k_ ≠ gb260))) (fun _ hk => hk.2) (.int .i64 t255)) (fun _ hk => hk.2) (.int .i64 t256)) (fun _ hk => hk.2) (.int .i64 t257)) (fun _ hk => hk.2) (.int .i64 t258)) (fun _ hk => ⟨hk.1.1.1, ⟨hk.1.1.2.1, ⟨hk.1.1.2.2, hk.1.2⟩⟩⟩))); (case aS => exact (below_size (by repeat (first | (with_reducible first | exact HB.out | apply below_alloc | apply pw_below_drewN | apply below_drew1 | refine below_set ?_ GE246.out | refine below_set ?_ GE252.out | refine below_set ?_ GE260.out) | exact HB.out)))); (case aL => have := LMc29.out; omega); intro v262 w38 ho hb hg hat; rw [← Ny261.out] at ho; have n0_ := Aside0.mk (Kd.R_after (ok := (fun k_ => k_ ≠ gb246 ∧ k_ ≠ gb252 ∧ k_ ≠ gb260)) (by (with_reducible repeat (first | apply Kd.R_alloc | apply Kd.R_drewN | apply Kd.R_drew)); exact Kd.R_mono (Kd.R_far (p := ⟨gb260, 3, none⟩) (Kd.R_far (p := ⟨gb260, 2, none⟩) (Kd.R_far (p := ⟨gb260, 1, none⟩) (Kd.R_far (p := ⟨gb260, 0, none⟩) (Kd.R_mono HO_11.out (fun k_ hk => (⟨hk, hk.2⟩ : _ ∧ k_ ≠ gb260))) (fun _ hk => hk.2) (.int .i64 t255)) (fun _ hk => hk.2) (.int .i64 t256)) (fun _ hk => hk.2) (.int .i64 t257)) (fun _ hk => hk.2) (.int .i64 t258)) (fun _ hk => ⟨⟨hk.1.1.2.1, ⟨hk.1.1.2.2, hk.1.2⟩⟩, hk.1.1.1⟩)) hg hat); have n1_ := Aside0.mk (blk_grown (g := gb246) (o := .cells #[.int .i64 a0_0, .int .i64 a0_1, .int .i64 a0_2, .int .i64 a0_3] 23 (0, 0)) (by (with_reducible repeat (first | refine blk_drewN ?_ _ | refine blk_drew ?_ | refine blk_alloc ?_ _)); refine blk_far ?_ NB246_260.out _; (with_reducible repeat (first | refine blk_drewN ?_ _ | refine blk_drew ?_ | refine blk_alloc ?_ _)); refine blk_far ?_ NB246_260.out _; (with_reducible repeat (first | refine blk_drewN ?_ _ | refine blk_drew ?_ | refine blk_alloc ?_ _)); refine blk_far ?_ NB246_260.out _; (with_reducible repeat (first | refine blk_drewN ?_ _ | refine blk_drew ?_ | refine blk_alloc ?_ _)); refine blk_far ?_ NB246_260.out _; (with_reducible repeat (first | refine blk_drewN ?_ _ | refine blk_drew ?_ | refine blk_alloc ?_ _)); exact BK246.out) hg (Kd.R_away HO_12.out (fun _ hk => hk.1.2.1))); have n2_ := Aside0.mk (blk_grown (g := gb252) (o := .cells #[.int .i64 t247, .int .i64 t248, .int .i64 t249, .int .i64 t250] 23 (0, 0)) (by (with_reducible repeat (first | refine blk_drewN ?_ _ | refine blk_drew ?_ | refine blk_alloc ?_ _)); refine blk_far ?_ NB252_260.out _; (with_reducible repeat (first | refine blk_drewN ?_ _ | refine blk_drew ?_ | refine blk_alloc ?_ _)); refine blk_far ?_ NB252_260.out _; (with_reducible repeat (first | refine blk_drewN ?_ _ | refine blk_drew ?_ | refine blk_alloc ?_ _)); refine blk_far ?_ NB252_260.out _; (with_reducible repeat (first | refine blk_drewN ?_ _ | refine blk_drew ?_ | refine blk_alloc ?_ _)); refine blk_far ?_ NB252_260.out _; (with_reducible repeat (first | refine blk_drewN ?_ _ | refine blk_drew ?_ | refine blk_alloc ?_ _)); exact BK252.out) hg (Kd.R_away HO_12.out (fun _ hk => hk.1.2.2))); have n3_ := Aside0.mk (blk_grown (g := gb260) (o := .cells #[.int .i64 t255, .int .i64 t256, .int .i64 t257, .int .i64 t258] 23 (0, 0)) (by (with_reducible repeat (first | refine blk_drewN ?_ _ | refine blk_drew ?_ | refine blk_alloc ?_ _)); refine blk_put (cs := #[.int .i64 t255, .int .i64 t256, .int .i64 t257, .int .i64 0]) ?_ 3 _ rfl; (with_reducible repeat (first | refine blk_drewN ?_ _ | refine blk_drew ?_ | refine blk_alloc ?_ _)); refine blk_put (cs := #[.int .i64 t255, .int .i64 t256, .int .i64 0, .int .i64 0]) ?_ 2 _ rfl; (with_reducible repeat (first | refine blk_drewN ?_ _ | refine blk_drew ?_ | refine blk_alloc ?_ _)); refine blk_put (cs := #[.int .i64 t255, .int .i64 0, .int .i64 0, .int .i64 0]) ?_ 1 _ rfl; (with_reducible repeat (first | refine blk_drewN ?_ _ | refine blk_drew ?_ | refine blk_alloc ?_ _)); refine blk_put (cs := #[.int .i64 0, .int .i64 0, .int .i64 0, .int .i64 0]) ?_ 0 _ rfl; (with_reducible repeat (first | refine blk_drewN ?_ _ | refine blk_drew ?_ | refine blk_alloc ?_ _)); exact BK260.out) hg (Kd.R_away HO_12.out (fun _ hk => hk.2))); have n4_ := Aside0.mk (hb); have n5_ := Aside0.mk (ho); clear HO_11; clear BK246; clear BK252; clear BK260; clear HB; clear HO_12; have HO_11 := n0_; have BK246 := n1_; have BK252 := n2_; have BK260 := n3_; have HB := n4_; have HO263 := n5_; clear n0_ n1_ n2_ n3_ n4_ n5_; clear ho hb hg hat))
            go_ret3
            exact ⟨_, _, by first | rfl | (simp [errW_none, errW_some] <;> rfl) | (simp [*, errW_none, errW_some] <;> rfl), by first | exact Kd.R_nil _ _ _ _ _ | exact Kd.N_nil _ _ _ _ _ | exact Kd.V_nil _ _ _ _ _ | exact Kd.Q_nil _ _ _ _ _ | exact Kd.S_nil _ _ _ _ _, by first | exact Kd.R_nil _ _ _ _ _ | exact Kd.N_nil _ _ _ _ _ | exact Kd.V_nil _ _ _ _ _ | exact Kd.Q_nil _ _ _ _ _ | exact Kd.S_nil _ _ _ _ _, by repeat (first | (with_reducible first | exact HB.out | apply below_alloc | apply pw_below_drewN | apply below_drew1 | refine below_set ?_ GE246.out | refine below_set ?_ GE252.out | refine below_set ?_ GE260.out) | exact HB.out)⟩
           ·rw [if_neg c30] at H
            have c30b0 : decide ((rd l2 x42_2) < 1) = false := decide_eq_false c30
            clear c30
            by_cases c39 : (rd l2 x42_2) > (wrap64 ((wrap64 (t247 + t249)) - (wrap64 (x13_2 + 1))))
            ·rw [if_pos c39] at H
             have c39b0 : decide ((wrap64 ((wrap64 (t247 + t249)) - (wrap64 (x13_2 + 1)))) < (rd l2 x42_2)) = true := decide_eq_true c39
             clear c39
             simp only [Option.some.injEq, Prod.mk.injEq] at H
             obtain ⟨rfl, rfl, rfl⟩ := H
             have p254 : 0 ≤ (x42_2 : Int) := of_decide_eq_true (by first | (with_reducible assumption) | assumption)
             have q254 : x42_2 < (l2.length : Int) := of_decide_eq_true (by first | (with_reducible assumption) | assumption)
             obtain ⟨ad254, e254, hx254_0⟩ := Kd.at_int HR2.out x42_2 p254 q254
             cases e254
             replace hx254_0 := (HB.out.cell (World.block_lt_of_cell? w _ hx254_0)).trans hx254_0
             replace p254 := eq_true p254
             replace q254 := eq_true q254
             have hnb40 := NB252_246.out
             have hnc40 := NB246_252.out
             have hcz41_0 : wr.cell? ⟨gb252, 0, none⟩ = some (.int .i64 t247) := (blk_cell BK252.out 0).trans rfl
             have hcz41_1 : wr.cell? ⟨gb252, 1, none⟩ = some (.int .i64 t248) := (blk_cell BK252.out 1).trans rfl
             have hcz41_2 : wr.cell? ⟨gb252, 2, none⟩ = some (.int .i64 t249) := (blk_cell BK252.out 2).trans rfl
             have hcz41_3 : wr.cell? ⟨gb252, 3, none⟩ = some (.int .i64 t250) := (blk_cell BK252.out 3).trans rfl
             have hfz41_0 := blk_frozen BK252.out 0
             have hfz41_1 := blk_frozen BK252.out 1
             have hfz41_2 := blk_frozen BK252.out 2
             have hfz41_3 := blk_frozen BK252.out 3
             go_wp2_with (first | ((with_reducible refine gate_callee (f := 127) rfl ?_); refine goesL_ (some 57) rfl rfl Try.func127 (by kernel_rfl) rfl #[.agg #[.int .i64 x13_2, .int .i64 t248, .int .i64 1, .int .i64 t250], .int .u8 a1] rfl (by (try simp only [List.map_toArray, List.map_cons, List.map_nil]); first | done | rfl | (simp only [List.length_drop, List.length_take]; rfl)) ?_; (with_reducible refine (rect_turned.calls x13_2 t248 1 t250 a1 t255 t256 t257 t258 t259 _ A28.out).mono ?_); rintro e w42 ⟨rfl, hb⟩; refine ⟨_, rfl, ?_⟩; have n0_ := Aside0.mk (Kd.R_below (by (with_reducible repeat (first | apply Kd.R_alloc | apply Kd.R_drewN | apply Kd.R_drew)); exact HO_11.out) hb); have n1_ := Aside0.mk (Kd.R_below (by (with_reducible repeat (first | apply Kd.R_alloc | apply Kd.R_drewN | apply Kd.R_drew)); exact HO_12.out) hb); have n2_ := Aside0.mk (blk_below (g := gb246) (o := .cells #[.int .i64 a0_0, .int .i64 a0_1, .int .i64 a0_2, .int .i64 a0_3] 23 (0, 0)) (by (with_reducible repeat (first | refine blk_drewN ?_ _ | refine blk_drew ?_ | refine blk_alloc ?_ _)); exact BK246.out) hb); have n3_ := Aside0.mk (blk_below (g := gb252) (o := .cells #[.int .i64 t247, .int .i64 t248, .int .i64 t249, .int .i64 t250] 23 (0, 0)) (by (with_reducible repeat (first | refine blk_drewN ?_ _ | refine blk_drew ?_ | refine blk_alloc ?_ _)); exact BK252.out) hb); have n4_ := Aside0.mk (below_step (by repeat (first | (with_reducible first | exact HB.out | apply below_alloc | apply pw_below_drewN | apply below_drew1 | refine below_set ?_ GE246.out | refine below_set ?_ GE252.out) | exact HB.out)) hb); clear HO_11; clear HO_12; clear BK246; clear BK252; clear HB; have HO_11 := n0_; have HO_12 := n1_; have BK246 := n2_; have BK252 := n3_; have HB := n4_; clear n0_ n1_ n2_ n3_ n4_; (try clear hb); (try clear hb2); (try clear hk); (try clear hi)) | ((with_reducible refine gate_dst (N := 16) rfl ?_); (try (refine gate_guard (by rfl) ?_; dsimp only)); refine box_event ?hg (N := 16) ?hd (cs := #[.int .i64 0, .int .i64 0, .int .i64 0, .int .i64 0]) (t := 23) ?hr ?_; (case hd => rfl); (case hg => rfl); (case hr => first | (go_simp; done) | (go_simp; rfl)); intro gb260 hg w43 hbox hb; have n0_ := Aside0.mk (Kd.R_below (Kd.R_elderB (by (with_reducible repeat (first | apply Kd.R_alloc | apply Kd.R_drewN | apply Kd.R_drew)); exact HO_11.out) gb260 (Nat.le_of_eq hg.symm)) hb); have n1_ := Aside0.mk (Kd.R_below (Kd.R_elderB (by (with_reducible repeat (first | apply Kd.R_alloc | apply Kd.R_drewN | apply Kd.R_drew)); exact HO_12.out) gb260 (Nat.le_of_eq hg.symm)) hb); have n2_ := Aside0.mk (blk_below (g := gb246) (o := .cells #[.int .i64 a0_0, .int .i64 a0_1, .int .i64 a0_2, .int .i64 a0_3] 23 (0, 0)) (by (with_reducible repeat (first | refine blk_drewN ?_ _ | refine blk_drew ?_ | refine blk_alloc ?_ _)); exact BK246.out) hb); have n3_ := Aside0.mk (blk_below (g := gb252) (o := .cells #[.int .i64 t247, .int .i64 t248, .int .i64 t249, .int .i64 t250] 23 (0, 0)) (by (with_reducible repeat (first | refine blk_drewN ?_ _ | refine blk_drew ?_ | refine blk_alloc ?_ _)); exact BK252.out) hb); have n4_ := Aside0.mk (below_step (by repeat (first | (with_reducible first | exact HB.out | apply below_alloc | apply pw_below_drewN | apply below_drew1 | refine below_set ?_ GE246.out | refine below_set ?_ GE252.out) | exact HB.out)) hb); have n5_ := Aside0.mk (hbox); have n6_ := Aside0.mk ((by rw [hg]; exact (below_size (by repeat (first | (with_reducible first | exact HB.out | apply below_alloc | apply pw_below_drewN | apply below_drew1 | refine below_set ?_ GE246.out | refine below_set ?_ GE252.out) | exact HB.out))) : w.heap.size ≤ gb260)); have n7_ := Aside0.mk ((by rw [hg]; exact (below_size (by repeat (first | (with_reducible first | exact HB.out | apply below_alloc | apply pw_below_drewN | apply below_drew1 | refine below_set ?_ GE246.out | refine below_set ?_ GE252.out) | exact HB.out))) : w.heap.size ≤ gb260)); have n8_ := Aside0.mk ((by rw [hg]; exact Nat.ne_of_lt (blk_lt (g := gb246) (o := .cells #[.int .i64 a0_0, .int .i64 a0_1, .int .i64 a0_2, .int .i64 a0_3] 23 (0, 0)) (by (with_reducible repeat (first | refine blk_drewN ?_ _ | refine blk_drew ?_ | refine blk_alloc ?_ _)); exact BK246.out)) : gb246 ≠ gb260)); have n9_ := Aside0.mk ((by rw [hg]; exact Nat.ne_of_gt (blk_lt (g := gb246) (o := .cells #[.int .i64 a0_0, .int .i64 a0_1, .int .i64 a0_2, .int .i64 a0_3] 23 (0, 0)) (by (with_reducible repeat (first | refine blk_drewN ?_ _ | refine blk_drew ?_ | refine blk_alloc ?_ _)); exact BK246.out)) : gb260 ≠ gb246)); have n10_ := Aside0.mk ((by rw [hg]; exact Nat.ne_of_lt (blk_lt (g := gb252) (o := .cells #[.int .i64 t247, .int .i64 t248, .int .i64 t249, .int .i64 t250] 23 (0, 0)) (by (with_reducible repeat (first | refine blk_drewN ?_ _ | refine blk_drew ?_ | refine blk_alloc ?_ _)); exact BK252.out)) : gb252 ≠ gb260)); have n11_ := Aside0.mk ((by rw [hg]; exact Nat.ne_of_gt (blk_lt (g := gb252) (o := .cells #[.int .i64 t247, .int .i64 t248, .int .i64 t249, .int .i64 t250] 23 (0, 0)) (by (with_reducible repeat (first | refine blk_drewN ?_ _ | refine blk_drew ?_ | refine blk_alloc ?_ _)); exact BK252.out)) : gb260 ≠ gb252)); clear HO_11; clear HO_12; clear BK246; clear BK252; clear HB; have HO_11 := n0_; have HO_12 := n1_; have BK246 := n2_; have BK252 := n3_; have HB := n4_; have BK260 := n5_; have GW260 := n6_; have GE260 := n7_; have NB246_260 := n8_; have NB260_246 := n9_; have NB252_260 := n10_; have NB260_252 := n11_; clear n0_ n1_ n2_ n3_ n4_ n5_ n6_ n7_ n8_ n9_ n10_ n11_; clear hb hbox hg; have hnb44 := NB260_246.out; have hnc44 := NB246_260.out; have hnb45 := NB260_252.out; have hnc45 := NB252_260.out; have hcz46_0 : w43.cell? ⟨gb260, 0, none⟩ = some (.int .i64 0) := (blk_cell BK260.out 0).trans rfl; have hcz46_1 : w43.cell? ⟨gb260, 1, none⟩ = some (.int .i64 0) := (blk_cell BK260.out 1).trans rfl; have hcz46_2 : w43.cell? ⟨gb260, 2, none⟩ = some (.int .i64 0) := (blk_cell BK260.out 2).trans rfl; have hcz46_3 : w43.cell? ⟨gb260, 3, none⟩ = some (.int .i64 0) := (blk_cell BK260.out 3).trans rfl; have hfz46_0 := blk_frozen BK260.out 0; have hfz46_1 := blk_frozen BK260.out 1; have hfz46_2 := blk_frozen BK260.out 2; have hfz46_3 := blk_frozen BK260.out 3) | ((with_reducible refine gate_builtin (b := .append) (xs := #[.tmp 60, .tmp 62]) rfl ?_); (try (refine gate_guard (by rfl) ?_; dsimp only)); at_builtin; refine Kd.R_append k23 (w0 := w) w.heap.size rfl (.tmp 60) (.tmp 62) 42 23 (.agg #[(.int .i64 0), (.int .i64 0), (.int .i64 0), (.int .i64 0)]) 32 rfl Try.underlying42 info23 rfl (by decide) (by omega) u12 x12_2 (⟨t255, t256, t257, t258⟩ : S23) [.int .i64 t255, .int .i64 t256, .int .i64 t257, .int .i64 t258] (fun k_ => some k_ ≠ (u11 : Value).ownBlock ∧ k_ ≠ gb246 ∧ k_ ≠ gb252 ∧ k_ ≠ gb260) (fun _ => False) rfl (by first | (go_simp; done) | (go_simp; rfl)) ?aP (fun _ hk => hk.elim) ?aF ?aO ?aB ?aS ?aL ?_; (case aP => exact k23_mkM _ _ _ (⟨t255, t256, t257, t258⟩ : S23)); (case aB => exact (by repeat (first | (with_reducible first | exact HB.out | apply below_alloc | apply pw_below_drewN | apply below_drew1 | refine below_set ?_ GE246.out | refine below_set ?_ GE252.out | refine below_set ?_ GE260.out) | exact HB.out))); (case aF => exact (fun k_ hk => ⟨Kd.fresh' (Kd.R_lt (by (with_reducible repeat (first | apply Kd.R_alloc | apply Kd.R_drewN | apply Kd.R_drew)); exact (Kd.R_mono (Kd.R_far (p := ⟨gb260, 3, none⟩) (Kd.R_far (p := ⟨gb260, 2, none⟩) (Kd.R_far (p := ⟨gb260, 1, none⟩) (Kd.R_far (p := ⟨gb260, 0, none⟩) (Kd.R_mono HO_11.out (fun k_ hk => (⟨hk, hk.2⟩ : _ ∧ k_ ≠ gb260))) (fun _ hk => hk.2) (.int .i64 t255)) (fun _ hk => hk.2) (.int .i64 t256)) (fun _ hk => hk.2) (.int .i64 t257)) (fun _ hk => hk.2) (.int .i64 t258)) (fun _ h_ => h_.1)))) k_ hk, Kd.freshB (g := gb246) (o := .cells #[.int .i64 a0_0, .int .i64 a0_1, .int .i64 a0_2, .int .i64 a0_3] 23 (0, 0)) (by (with_reducible repeat (first | refine blk_drewN ?_ _ | refine blk_drew ?_ | refine blk_alloc ?_ _)); refine blk_far ?_ NB246_260.out _; (with_reducible repeat (first | refine blk_drewN ?_ _ | refine blk_drew ?_ | refine blk_alloc ?_ _)); refine blk_far ?_ NB246_260.out _; (with_reducible repeat (first | refine blk_drewN ?_ _ | refine blk_drew ?_ | refine blk_alloc ?_ _)); refine blk_far ?_ NB246_260.out _; (with_reducible repeat (first | refine blk_drewN ?_ _ | refine blk_drew ?_ | refine blk_alloc ?_ _)); refine blk_far ?_ NB246_260.out _; (with_reducible repeat (first | refine blk_drewN ?_ _ | refine blk_drew ?_ | refine blk_alloc ?_ _)); exact BK246.out) k_ hk, Kd.freshB (g := gb252) (o := .cells #[.int .i64 t247, .int .i64 t248, .int .i64 t249, .int .i64 t250] 23 (0, 0)) (by (with_reducible repeat (first | refine blk_drewN ?_ _ | refine blk_drew ?_ | refine blk_alloc ?_ _)); refine blk_far ?_ NB252_260.out _; (with_reducible repeat (first | refine blk_drewN ?_ _ | refine blk_drew ?_ | refine blk_alloc ?_ _)); refine blk_far ?_ NB252_260.out _; (with_reducible repeat (first | refine blk_drewN ?_ _ | refine blk_drew ?_ | refine blk_alloc ?_ _)); refine blk_far ?_ NB252_260.out _; (with_reducible repeat (first | refine blk_drewN ?_ _ | refine blk_drew ?_ | refine blk_alloc ?_ _)); refine blk_far ?_ NB252_260.out _; (with_reducible repeat (first | refine blk_drewN ?_ _ | refine blk_drew ?_ | refine blk_alloc ?_ _)); exact BK252.out) k_ hk, Kd.freshB (g := gb260) (o := .cells #[.int .i64 t255, .int .i64 t256, .int .i64 t257, .int .i64 t258] 23 (0, 0)) (by (with_reducible repeat (first | refine blk_drewN ?_ _ | refine blk_drew ?_ | refine blk_alloc ?_ _)); refine blk_put (cs := #[.int .i64 t255, .int .i64 t256, .int .i64 t257, .int .i64 0]) ?_ 3 _ rfl; (with_reducible repeat (first | refine blk_drewN ?_ _ | refine blk_drew ?_ | refine blk_alloc ?_ _)); refine blk_put (cs := #[.int .i64 t255, .int .i64 t256, .int .i64 0, .int .i64 0]) ?_ 2 _ rfl; (with_reducible repeat (first | refine blk_drewN ?_ _ | refine blk_drew ?_ | refine blk_alloc ?_ _)); refine blk_put (cs := #[.int .i64 t255, .int .i64 0, .int .i64 0, .int .i64 0]) ?_ 1 _ rfl; (with_reducible repeat (first | refine blk_drewN ?_ _ | refine blk_drew ?_ | refine blk_alloc ?_ _)); refine blk_put (cs := #[.int .i64 0, .int .i64 0, .int .i64 0, .int .i64 0]) ?_ 0 _ rfl; (with_reducible repeat (first | refine blk_drewN ?_ _ | refine blk_drew ?_ | refine blk_alloc ?_ _)); exact BK260.out) k_ hk⟩)); (case aO => exact (by (with_reducible repeat (first | apply Kd.R_alloc | apply Kd.R_drewN | apply Kd.R_drew)); exact Kd.R_mono (Kd.R_far (p := ⟨gb260, 3, none⟩) (Kd.R_far (p := ⟨gb260, 2, none⟩) (Kd.R_far (p := ⟨gb260, 1, none⟩) (Kd.R_far (p := ⟨gb260, 0, none⟩) (Kd.R_mono HO_12.out (fun k_ hk => (⟨hk, hk.2⟩ : _ ∧ k_ ≠ gb260))) (fun _ hk => hk.2) (.int .i64 t255)) (fun _ hk => hk.2) (.int .i64 t256)) (fun _ hk => hk.2) (.int .i64 t257)) (fun _ hk => hk.2) (.int .i64 t258)) (fun _ hk => ⟨hk.1.1.1, ⟨hk.1.1.2.1, ⟨hk.1.1.2.2, hk.1.2⟩⟩⟩))); (case aS => exact (below_size (by repeat (first | (with_reducible first | exact HB.out | apply below_alloc | apply pw_below_drewN | apply below_drew1 | refine below_set ?_ GE246.out | refine below_set ?_ GE252.out | refine below_set ?_ GE260.out) | exact HB.out)))); (case aL => have := LMc29.out; omega); intro v262 w47 ho hb hg hat; rw [← Ny261.out] at ho; have n0_ := Aside0.mk (Kd.R_after (ok := (fun k_ => k_ ≠ gb246 ∧ k_ ≠ gb252 ∧ k_ ≠ gb260)) (by (with_reducible repeat (first | apply Kd.R_alloc | apply Kd.R_drewN | apply Kd.R_drew)); exact Kd.R_mono (Kd.R_far (p := ⟨gb260, 3, none⟩) (Kd.R_far (p := ⟨gb260, 2, none⟩) (Kd.R_far (p := ⟨gb260, 1, none⟩) (Kd.R_far (p := ⟨gb260, 0, none⟩) (Kd.R_mono HO_11.out (fun k_ hk => (⟨hk, hk.2⟩ : _ ∧ k_ ≠ gb260))) (fun _ hk => hk.2) (.int .i64 t255)) (fun _ hk => hk.2) (.int .i64 t256)) (fun _ hk => hk.2) (.int .i64 t257)) (fun _ hk => hk.2) (.int .i64 t258)) (fun _ hk => ⟨⟨hk.1.1.2.1, ⟨hk.1.1.2.2, hk.1.2⟩⟩, hk.1.1.1⟩)) hg hat); have n1_ := Aside0.mk (blk_grown (g := gb246) (o := .cells #[.int .i64 a0_0, .int .i64 a0_1, .int .i64 a0_2, .int .i64 a0_3] 23 (0, 0)) (by (with_reducible repeat (first | refine blk_drewN ?_ _ | refine blk_drew ?_ | refine blk_alloc ?_ _)); refine blk_far ?_ NB246_260.out _; (with_reducible repeat (first | refine blk_drewN ?_ _ | refine blk_drew ?_ | refine blk_alloc ?_ _)); refine blk_far ?_ NB246_260.out _; (with_reducible repeat (first | refine blk_drewN ?_ _ | refine blk_drew ?_ | refine blk_alloc ?_ _)); refine blk_far ?_ NB246_260.out _; (with_reducible repeat (first | refine blk_drewN ?_ _ | refine blk_drew ?_ | refine blk_alloc ?_ _)); refine blk_far ?_ NB246_260.out _; (with_reducible repeat (first | refine blk_drewN ?_ _ | refine blk_drew ?_ | refine blk_alloc ?_ _)); exact BK246.out) hg (Kd.R_away HO_12.out (fun _ hk => hk.1.2.1))); have n2_ := Aside0.mk (blk_grown (g := gb252) (o := .cells #[.int .i64 t247, .int .i64 t248, .int .i64 t249, .int .i64 t250] 23 (0, 0)) (by (with_reducible repeat (first | refine blk_drewN ?_ _ | refine blk_drew ?_ | refine blk_alloc ?_ _)); refine blk_far ?_ NB252_260.out _; (with_reducible repeat (first | refine blk_drewN ?_ _ | refine blk_drew ?_ | refine blk_alloc ?_ _)); refine blk_far ?_ NB252_260.out _; (with_reducible repeat (first | refine blk_drewN ?_ _ | refine blk_drew ?_ | refine blk_alloc ?_ _)); refine blk_far ?_ NB252_260.out _; (with_reducible repeat (first | refine blk_drewN ?_ _ | refine blk_drew ?_ | refine blk_alloc ?_ _)); refine blk_far ?_ NB252_260.out _; (with_reducible repeat (first | refine blk_drewN ?_ _ | refine blk_drew ?_ | refine blk_alloc ?_ _)); exact BK252.out) hg (Kd.R_away HO_12.out (fun _ hk => hk.1.2.2))); have n3_ := Aside0.mk (blk_grown (g := gb260) (o := .cells #[.int .i64 t255, .int .i64 t256, .int .i64 t257, .int .i64 t258] 23 (0, 0)) (by (with_reducible repeat (first | refine blk_drewN ?_ _ | refine blk_drew ?_ | refine blk_alloc ?_ _)); refine blk_put (cs := #[.int .i64 t255, .int .i64 t256, .int .i64 t257, .int .i64 0]) ?_ 3 _ rfl; (with_reducible repeat (first | refine blk_drewN ?_ _ | refine blk_drew ?_ | refine blk_alloc ?_ _)); refine blk_put (cs := #[.int .i64 t255, .int .i64 t256, .int .i64 0, .int .i64 0]) ?_ 2 _ rfl; (with_reducible repeat (first | refine blk_drewN ?_ _ | refine blk_drew ?_ | refine blk_alloc ?_ _)); refine blk_put (cs := #[.int .i64 t255, .int .i64 0, .int .i64 0, .int .i64 0]) ?_ 1 _ rfl; (with_reducible repeat (first | refine blk_drewN ?_ _ | refine blk_drew ?_ | refine blk_alloc ?_ _)); refine blk_put (cs := #[.int .i64 0, .int .i64 0, .int .i64 0, .int .i64 0]) ?_ 0 _ rfl; (with_reducible repeat (first | refine blk_drewN ?_ _ | refine blk_drew ?_ | refine blk_alloc ?_ _)); exact BK260.out) hg (Kd.R_away HO_12.out (fun _ hk => hk.2))); have n4_ := Aside0.mk (hb); have n5_ := Aside0.mk (ho); clear HO_11; clear BK246; clear BK252; clear BK260; clear HB; clear HO_12; have HO_11 := n0_; have BK246 := n1_; have BK252 := n2_; have BK260 := n3_; have HB := n4_; have HO263 := n5_; clear n0_ n1_ n2_ n3_ n4_ n5_; clear ho hb hg hat; have hcz48_0 : w47.cell? ⟨gb252, 0, none⟩ = some (.int .i64 t247) := (blk_cell BK252.out 0).trans rfl; have hcz48_1 : w47.cell? ⟨gb252, 1, none⟩ = some (.int .i64 t248) := (blk_cell BK252.out 1).trans rfl; have hcz48_2 : w47.cell? ⟨gb252, 2, none⟩ = some (.int .i64 t249) := (blk_cell BK252.out 2).trans rfl; have hcz48_3 : w47.cell? ⟨gb252, 3, none⟩ = some (.int .i64 t250) := (blk_cell BK252.out 3).trans rfl; have hfz48_0 := blk_frozen BK252.out 0; have hfz48_1 := blk_frozen BK252.out 1; have hfz48_2 := blk_frozen BK252.out 2; have hfz48_3 := blk_frozen BK252.out 3))
             go_ret3
             exact ⟨_, _, by first | rfl | (simp [errW_none, errW_some] <;> rfl) | (simp [*, errW_none, errW_some] <;> rfl), by first | exact Kd.R_nil _ _ _ _ _ | exact Kd.N_nil _ _ _ _ _ | exact Kd.V_nil _ _ _ _ _ | exact Kd.Q_nil _ _ _ _ _ | exact Kd.S_nil _ _ _ _ _, by first | exact Kd.R_nil _ _ _ _ _ | exact Kd.N_nil _ _ _ _ _ | exact Kd.V_nil _ _ _ _ _ | exact Kd.Q_nil _ _ _ _ _ | exact Kd.S_nil _ _ _ _ _, by repeat (first | (with_reducible first | exact HB.out | apply below_alloc | apply pw_below_drewN | apply below_drew1 | refine below_set ?_ GE246.out | refine below_set ?_ GE252.out | refine below_set ?_ GE260.out) | exact HB.out)⟩
            ·rw [if_neg c39] at H
             have c39b0 : decide ((wrap64 ((wrap64 (t247 + t249)) - (wrap64 (x13_2 + 1)))) < (rd l2 x42_2)) = false := decide_eq_false c39
             clear c39
             replace H := Option.bind_eq_some_iff.mp H
             obtain ⟨⟨t264, t265, t266, t267, t268⟩, A490, H⟩ := H
             replace H : (if x11_2.length < 4398046511104 then (rect_Cut.l0 k2 a1 (x11_2 ++ [(⟨t264, t265, t266, t267⟩ : S23)]) y261 (wrap64 ((wrap64 (x13_2 + 1)) + (rd l2 x42_2))) l2 (l2.length : Int) (wrap64 (x42_2 + 1)) t247 t248 t249 t250) else (none)) = some (r1, r2, r3) := H
             have A49 := Aside0.mk A490
             clear A490
             by_cases c50 : x11_2.length < 4398046511104
             ·rw [if_pos c50] at H
              have LMc50 := Aside0.mk c50
              clear c50
              obtain ⟨y270, hy270⟩ : ∃ y_ : List (S23), y_ = (x11_2 ++ [(⟨t264, t265, t266, t267⟩ : S23)]) := ⟨_, rfl⟩
              replace H : (rect_Cut.l0 k2 a1 y270 y261 (wrap64 ((wrap64 (x13_2 + 1)) + (rd l2 x42_2))) l2 (l2.length : Int) (wrap64 (x42_2 + 1)) t247 t248 t249 t250) = some (r1, r2, r3) := by first | (rw [hy270]; with_reducible exact H) | (have H2_ := (Option.bind_some _ _).symm.trans H; rw [hy270]; with_reducible exact H2_) | (have H2_ := (Option.bind_some _ _).symm.trans H; with_reducible exact H2_) | with_reducible exact H | (rw [hy270]; exact H) | exact H
              have Ny270 := Aside0.mk hy270
              clear hy270
              have H' := Aside0.mk H
              clear H
              have p254 : 0 ≤ (x42_2 : Int) := of_decide_eq_true (by first | (with_reducible assumption) | assumption)
              have q254 : x42_2 < (l2.length : Int) := of_decide_eq_true (by first | (with_reducible assumption) | assumption)
              obtain ⟨ad254, e254, hx254_0⟩ := Kd.at_int HR2.out x42_2 p254 q254
              cases e254
              replace hx254_0 := (HB.out.cell (World.block_lt_of_cell? w _ hx254_0)).trans hx254_0
              replace p254 := eq_true p254
              replace q254 := eq_true q254
              have hnb51 := NB252_246.out
              have hnc51 := NB246_252.out
              have hcz52_0 : wr.cell? ⟨gb252, 0, none⟩ = some (.int .i64 t247) := (blk_cell BK252.out 0).trans rfl
              have hcz52_1 : wr.cell? ⟨gb252, 1, none⟩ = some (.int .i64 t248) := (blk_cell BK252.out 1).trans rfl
              have hcz52_2 : wr.cell? ⟨gb252, 2, none⟩ = some (.int .i64 t249) := (blk_cell BK252.out 2).trans rfl
              have hcz52_3 : wr.cell? ⟨gb252, 3, none⟩ = some (.int .i64 t250) := (blk_cell BK252.out 3).trans rfl
              have hfz52_0 := blk_frozen BK252.out 0
              have hfz52_1 := blk_frozen BK252.out 1
              have hfz52_2 := blk_frozen BK252.out 2
              have hfz52_3 := blk_frozen BK252.out 3
              go_wp2_with (first | ((with_reducible refine gate_callee (f := 127) rfl ?_); refine goesL_ (some 57) rfl rfl Try.func127 (by kernel_rfl) rfl #[.agg #[.int .i64 x13_2, .int .i64 t248, .int .i64 1, .int .i64 t250], .int .u8 a1] rfl (by (try simp only [List.map_toArray, List.map_cons, List.map_nil]); first | done | rfl | (simp only [List.length_drop, List.length_take]; rfl)) ?_; (with_reducible refine (rect_turned.calls x13_2 t248 1 t250 a1 t255 t256 t257 t258 t259 _ A28.out).mono ?_); rintro e w53 ⟨rfl, hb⟩; refine ⟨_, rfl, ?_⟩; have n0_ := Aside0.mk (Kd.R_below (by (with_reducible repeat (first | apply Kd.R_alloc | apply Kd.R_drewN | apply Kd.R_drew)); exact HO_11.out) hb); have n1_ := Aside0.mk (Kd.R_below (by (with_reducible repeat (first | apply Kd.R_alloc | apply Kd.R_drewN | apply Kd.R_drew)); exact HO_12.out) hb); have n2_ := Aside0.mk (blk_below (g := gb246) (o := .cells #[.int .i64 a0_0, .int .i64 a0_1, .int .i64 a0_2, .int .i64 a0_3] 23 (0, 0)) (by (with_reducible repeat (first | refine blk_drewN ?_ _ | refine blk_drew ?_ | refine blk_alloc ?_ _)); exact BK246.out) hb); have n3_ := Aside0.mk (blk_below (g := gb252) (o := .cells #[.int .i64 t247, .int .i64 t248, .int .i64 t249, .int .i64 t250] 23 (0, 0)) (by (with_reducible repeat (first | refine blk_drewN ?_ _ | refine blk_drew ?_ | refine blk_alloc ?_ _)); exact BK252.out) hb); have n4_ := Aside0.mk (below_step (by repeat (first | (with_reducible first | exact HB.out | apply below_alloc | apply pw_below_drewN | apply below_drew1 | refine below_set ?_ GE246.out | refine below_set ?_ GE252.out) | exact HB.out)) hb); clear HO_11; clear HO_12; clear BK246; clear BK252; clear HB; have HO_11 := n0_; have HO_12 := n1_; have BK246 := n2_; have BK252 := n3_; have HB := n4_; clear n0_ n1_ n2_ n3_ n4_; (try clear hb); (try clear hb2); (try clear hk); (try clear hi)) | ((with_reducible refine gate_dst (N := 16) rfl ?_); (try (refine gate_guard (by rfl) ?_; dsimp only)); refine box_event ?hg (N := 16) ?hd (cs := #[.int .i64 0, .int .i64 0, .int .i64 0, .int .i64 0]) (t := 23) ?hr ?_; (case hd => rfl); (case hg => rfl); (case hr => first | (go_simp; done) | (go_simp; rfl)); intro gb260 hg w54 hbox hb; have n0_ := Aside0.mk (Kd.R_below (Kd.R_elderB (by (with_reducible repeat (first | apply Kd.R_alloc | apply Kd.R_drewN | apply Kd.R_drew)); exact HO_11.out) gb260 (Nat.le_of_eq hg.symm)) hb); have n1_ := Aside0.mk (Kd.R_below (Kd.R_elderB (by (with_reducible repeat (first | apply Kd.R_alloc | apply Kd.R_drewN | apply Kd.R_drew)); exact HO_12.out) gb260 (Nat.le_of_eq hg.symm)) hb); have n2_ := Aside0.mk (blk_below (g := gb246) (o := .cells #[.int .i64 a0_0, .int .i64 a0_1, .int .i64 a0_2, .int .i64 a0_3] 23 (0, 0)) (by (with_reducible repeat (first | refine blk_drewN ?_ _ | refine blk_drew ?_ | refine blk_alloc ?_ _)); exact BK246.out) hb); have n3_ := Aside0.mk (blk_below (g := gb252) (o := .cells #[.int .i64 t247, .int .i64 t248, .int .i64 t249, .int .i64 t250] 23 (0, 0)) (by (with_reducible repeat (first | refine blk_drewN ?_ _ | refine blk_drew ?_ | refine blk_alloc ?_ _)); exact BK252.out) hb); have n4_ := Aside0.mk (below_step (by repeat (first | (with_reducible first | exact HB.out | apply below_alloc | apply pw_below_drewN | apply below_drew1 | refine below_set ?_ GE246.out | refine below_set ?_ GE252.out) | exact HB.out)) hb); have n5_ := Aside0.mk (hbox); have n6_ := Aside0.mk ((by rw [hg]; exact (below_size (by repeat (first | (with_reducible first | exact HB.out | apply below_alloc | apply pw_below_drewN | apply below_drew1 | refine below_set ?_ GE246.out | refine below_set ?_ GE252.out) | exact HB.out))) : w.heap.size ≤ gb260)); have n7_ := Aside0.mk ((by rw [hg]; exact (below_size (by repeat (first | (with_reducible first | exact HB.out | apply below_alloc | apply pw_below_drewN | apply below_drew1 | refine below_set ?_ GE246.out | refine below_set ?_ GE252.out) | exact HB.out))) : w.heap.size ≤ gb260)); have n8_ := Aside0.mk ((by rw [hg]; exact Nat.ne_of_lt (blk_lt (g := gb246) (o := .cells #[.int .i64 a0_0, .int .i64 a0_1, .int .i64 a0_2, .int .i64 a0_3] 23 (0, 0)) (by (with_reducible repeat (first | refine blk_drewN ?_ _ | refine blk_drew ?_ | refine blk_alloc ?_ _)); exact BK246.out)) : gb246 ≠ gb260)); have n9_ := Aside0.mk ((by rw [hg]; exact Nat.ne_of_gt (blk_lt (g := gb246) (o := .cells #[.int .i64 a0_0, .int .i64 a0_1, .int .i64 a0_2, .int .i64 a0_3] 23 (0, 0)) (by (with_reducible repeat (first | refine blk_drewN ?_ _ | refine blk_drew ?_ | refine blk_alloc ?_ _)); exact BK246.out)) : gb260 ≠ gb246)); have n10_ := Aside0.mk ((by rw [hg]; exact Nat.ne_of_lt (blk_lt (g := gb252) (o := .cells #[.int .i64 t247, .int .i64 t248, .int .i64 t249, .int .i64 t250] 23 (0, 0)) (by (with_reducible repeat (first | refine blk_drewN ?_ _ | refine blk_drew ?_ | refine blk_alloc ?_ _)); exact BK252.out)) : gb252 ≠ gb260)); have n11_ := Aside0.mk ((by rw [hg]; exact Nat.ne_of_gt (blk_lt (g := gb252) (o := .cells #[.int .i64 t247, .int .i64 t248, .int .i64 t249, .int .i64 t250] 23 (0, 0)) (by (with_reducible repeat (first | refine blk_drewN ?_ _ | refine blk_drew ?_ | refine blk_alloc ?_ _)); exact BK252.out)) : gb260 ≠ gb252)); clear HO_11; clear HO_12; clear BK246; clear BK252; clear HB; have HO_11 := n0_; have HO_12 := n1_; have BK246 := n2_; have BK252 := n3_; have HB := n4_; have BK260 := n5_; have GW260 := n6_; have GE260 := n7_; have NB246_260 := n8_; have NB260_246 := n9_; have NB252_260 := n10_; have NB260_252 := n11_; clear n0_ n1_ n2_ n3_ n4_ n5_ n6_ n7_ n8_ n9_ n10_ n11_; clear hb hbox hg; have hnb55 := NB260_246.out; have hnc55 := NB246_260.out; have hnb56 := NB260_252.out; have hnc56 := NB252_260.out; have hcz57_0 : w54.cell? ⟨gb260, 0, none⟩ = some (.int .i64 0) := (blk_cell BK260.out 0).trans rfl; have hcz57_1 : w54.cell? ⟨gb260, 1, none⟩ = some (.int .i64 0) := (blk_cell BK260.out 1).trans rfl; have hcz57_2 : w54.cell? ⟨gb260, 2, none⟩ = some (.int .i64 0) := (blk_cell BK260.out 2).trans rfl; have hcz57_3 : w54.cell? ⟨gb260, 3, none⟩ = some (.int .i64 0) := (blk_cell BK260.out 3).trans rfl; have hfz57_0 := blk_frozen BK260.out 0; have hfz57_1 := blk_frozen BK260.out 1; have hfz57_2 := blk_frozen BK260.out 2; have hfz57_3 := blk_frozen BK260.out 3) | ((with_reducible refine gate_builtin (b := .append) (xs := #[.tmp 60, .tmp 62]) rfl ?_); (try (refine gate_guard (by rfl) ?_; dsimp only)); at_builtin; refine Kd.R_append k23 (w0 := w) w.heap.size rfl (.tmp 60) (.tmp 62) 42 23 (.agg #[(.int .i64 0), (.int .i64 0), (.int .i64 0), (.int .i64 0)]) 32 rfl Try.underlying42 info23 rfl (by decide) (by omega) u12 x12_2 (⟨t255, t256, t257, t258⟩ : S23) [.int .i64 t255, .int .i64 t256, .int .i64 t257, .int .i64 t258] (fun k_ => some k_ ≠ (u11 : Value).ownBlock ∧ k_ ≠ gb246 ∧ k_ ≠ gb252 ∧ k_ ≠ gb260) (fun _ => False) rfl (by first | (go_simp; done) | (go_simp; rfl)) ?aP (fun _ hk => hk.elim) ?aF ?aO ?aB ?aS ?aL ?_; (case aP => exact k23_mkM _ _ _ (⟨t255, t256, t257, t258⟩ : S23)); (case aB => exact (by repeat (first | (with_reducible first | exact HB.out | apply below_alloc | apply pw_below_drewN | apply below_drew1 | refine below_set ?_ GE246.out | refine below_set ?_ GE252.out | refine below_set ?_ GE260.out) | exact HB.out))); (case aF => exact (fun k_ hk => ⟨Kd.fresh' (Kd.R_lt (by (with_reducible repeat (first | apply Kd.R_alloc | apply Kd.R_drewN | apply Kd.R_drew)); exact (Kd.R_mono (Kd.R_far (p := ⟨gb260, 3, none⟩) (Kd.R_far (p := ⟨gb260, 2, none⟩) (Kd.R_far (p := ⟨gb260, 1, none⟩) (Kd.R_far (p := ⟨gb260, 0, none⟩) (Kd.R_mono HO_11.out (fun k_ hk => (⟨hk, hk.2⟩ : _ ∧ k_ ≠ gb260))) (fun _ hk => hk.2) (.int .i64 t255)) (fun _ hk => hk.2) (.int .i64 t256)) (fun _ hk => hk.2) (.int .i64 t257)) (fun _ hk => hk.2) (.int .i64 t258)) (fun _ h_ => h_.1)))) k_ hk, Kd.freshB (g := gb246) (o := .cells #[.int .i64 a0_0, .int .i64 a0_1, .int .i64 a0_2, .int .i64 a0_3] 23 (0, 0)) (by (with_reducible repeat (first | refine blk_drewN ?_ _ | refine blk_drew ?_ | refine blk_alloc ?_ _)); refine blk_far ?_ NB246_260.out _; (with_reducible repeat (first | refine blk_drewN ?_ _ | refine blk_drew ?_ | refine blk_alloc ?_ _)); refine blk_far ?_ NB246_260.out _; (with_reducible repeat (first | refine blk_drewN ?_ _ | refine blk_drew ?_ | refine blk_alloc ?_ _)); refine blk_far ?_ NB246_260.out _; (with_reducible repeat (first | refine blk_drewN ?_ _ | refine blk_drew ?_ | refine blk_alloc ?_ _)); refine blk_far ?_ NB246_260.out _; (with_reducible repeat (first | refine blk_drewN ?_ _ | refine blk_drew ?_ | refine blk_alloc ?_ _)); exact BK246.out) k_ hk, Kd.freshB (g := gb252) (o := .cells #[.int .i64 t247, .int .i64 t248, .int .i64 t249, .int .i64 t250] 23 (0, 0)) (by (with_reducible repeat (first | refine blk_drewN ?_ _ | refine blk_drew ?_ | refine blk_alloc ?_ _)); refine blk_far ?_ NB252_260.out _; (with_reducible repeat (first | refine blk_drewN ?_ _ | refine blk_drew ?_ | refine blk_alloc ?_ _)); refine blk_far ?_ NB252_260.out _; (with_reducible repeat (first | refine blk_drewN ?_ _ | refine blk_drew ?_ | refine blk_alloc ?_ _)); refine blk_far ?_ NB252_260.out _; (with_reducible repeat (first | refine blk_drewN ?_ _ | refine blk_drew ?_ | refine blk_alloc ?_ _)); refine blk_far ?_ NB252_260.out _; (with_reducible repeat (first | refine blk_drewN ?_ _ | refine blk_drew ?_ | refine blk_alloc ?_ _)); exact BK252.out) k_ hk, Kd.freshB (g := gb260) (o := .cells #[.int .i64 t255, .int .i64 t256, .int .i64 t257, .int .i64 t258] 23 (0, 0)) (by (with_reducible repeat (first | refine blk_drewN ?_ _ | refine blk_drew ?_ | refine blk_alloc ?_ _)); refine blk_put (cs := #[.int .i64 t255, .int .i64 t256, .int .i64 t257, .int .i64 0]) ?_ 3 _ rfl; (with_reducible repeat (first | refine blk_drewN ?_ _ | refine blk_drew ?_ | refine blk_alloc ?_ _)); refine blk_put (cs := #[.int .i64 t255, .int .i64 t256, .int .i64 0, .int .i64 0]) ?_ 2 _ rfl; (with_reducible repeat (first | refine blk_drewN ?_ _ | refine blk_drew ?_ | refine blk_alloc ?_ _)); refine blk_put (cs := #[.int .i64 t255, .int .i64 0, .int .i64 0, .int .i64 0]) ?_ 1 _ rfl; (with_reducible repeat (first | refine blk_drewN ?_ _ | refine blk_drew ?_ | refine blk_alloc ?_ _)); refine blk_put (cs := #[.int .i64 0, .int .i64 0, .int .i64 0, .int .i64 0]) ?_ 0 _ rfl; (with_reducible repeat (first | refine blk_drewN ?_ _ | refine blk_drew ?_ | refine blk_alloc ?_ _)); exact BK260.out) k_ hk⟩)); (case aO => exact (by (with_reducible repeat (first | apply Kd.R_alloc | apply Kd.R_drewN | apply Kd.R_drew)); exact Kd.R_mono (Kd.R_far (p := ⟨gb260, 3, none⟩) (Kd.R_far (p := ⟨gb260, 2, none⟩) (Kd.R_far (p := ⟨gb260, 1, none⟩) (Kd.R_far (p := ⟨gb260, 0, none⟩) (Kd.R_mono HO_12.out (fun k_ hk => (⟨hk, hk.2⟩ : _ ∧ k_ ≠ gb260))) (fun _ hk => hk.2) (.int .i64 t255)) (fun _ hk => hk.2) (.int .i64 t256)) (fun _ hk => hk.2) (.int .i64 t257)) (fun _ hk => hk.2) (.int .i64 t258)) (fun _ hk => ⟨hk.1.1.1, ⟨hk.1.1.2.1, ⟨hk.1.1.2.2, hk.1.2⟩⟩⟩))); (case aS => exact (below_size (by repeat (first | (with_reducible first | exact HB.out | apply below_alloc | apply pw_below_drewN | apply below_drew1 | refine below_set ?_ GE246.out | refine below_set ?_ GE252.out | refine below_set ?_ GE260.out) | exact HB.out)))); (case aL => have := LMc29.out; omega); intro v262 w58 ho hb hg hat; rw [← Ny261.out] at ho; have n0_ := Aside0.mk (Kd.R_after (ok := (fun k_ => k_ ≠ gb246 ∧ k_ ≠ gb252 ∧ k_ ≠ gb260)) (by (with_reducible repeat (first | apply Kd.R_alloc | apply Kd.R_drewN | apply Kd.R_drew)); exact Kd.R_mono (Kd.R_far (p := ⟨gb260, 3, none⟩) (Kd.R_far (p := ⟨gb260, 2, none⟩) (Kd.R_far (p := ⟨gb260, 1, none⟩) (Kd.R_far (p := ⟨gb260, 0, none⟩) (Kd.R_mono HO_11.out (fun k_ hk => (⟨hk, hk.2⟩ : _ ∧ k_ ≠ gb260))) (fun _ hk => hk.2) (.int .i64 t255)) (fun _ hk => hk.2) (.int .i64 t256)) (fun _ hk => hk.2) (.int .i64 t257)) (fun _ hk => hk.2) (.int .i64 t258)) (fun _ hk => ⟨⟨hk.1.1.2.1, ⟨hk.1.1.2.2, hk.1.2⟩⟩, hk.1.1.1⟩)) hg hat); have n1_ := Aside0.mk (blk_grown (g := gb246) (o := .cells #[.int .i64 a0_0, .int .i64 a0_1, .int .i64 a0_2, .int .i64 a0_3] 23 (0, 0)) (by (with_reducible repeat (first | refine blk_drewN ?_ _ | refine blk_drew ?_ | refine blk_alloc ?_ _)); refine blk_far ?_ NB246_260.out _; (with_reducible repeat (first | refine blk_drewN ?_ _ | refine blk_drew ?_ | refine blk_alloc ?_ _)); refine blk_far ?_ NB246_260.out _; (with_reducible repeat (first | refine blk_drewN ?_ _ | refine blk_drew ?_ | refine blk_alloc ?_ _)); refine blk_far ?_ NB246_260.out _; (with_reducible repeat (first | refine blk_drewN ?_ _ | refine blk_drew ?_ | refine blk_alloc ?_ _)); refine blk_far ?_ NB246_260.out _; (with_reducible repeat (first | refine blk_drewN ?_ _ | refine blk_drew ?_ | refine blk_alloc ?_ _)); exact BK246.out) hg (Kd.R_away HO_12.out (fun _ hk => hk.1.2.1))); have n2_ := Aside0.mk (blk_grown (g := gb252) (o := .cells #[.int .i64 t247, .int .i64 t248, .int .i64 t249, .int .i64 t250] 23 (0, 0)) (by (with_reducible repeat (first | refine blk_drewN ?_ _ | refine blk_drew ?_ | refine blk_alloc ?_ _)); refine blk_far ?_ NB252_260.out _; (with_reducible repeat (first | refine blk_drewN ?_ _ | refine blk_drew ?_ | refine blk_alloc ?_ _)); refine blk_far ?_ NB252_260.out _; (with_reducible repeat (first | refine blk_drewN ?_ _ | refine blk_drew ?_ | refine blk_alloc ?_ _)); refine blk_far ?_ NB252_260.out _; (with_reducible repeat (first | refine blk_drewN ?_ _ | refine blk_drew ?_ | refine blk_alloc ?_ _)); refine blk_far ?_ NB252_260.out _; (with_reducible repeat (first | refine blk_drewN ?_ _ | refine blk_drew ?_ | refine blk_alloc ?_ _)); exact BK252.out) hg (Kd.R_away HO_12.out (fun _ hk => hk.1.2.2))); have n3_ := Aside0.mk (blk_grown (g := gb260) (o := .cells #[.int .i64 t255, .int .i64 t256, .int .i64 t257, .int .i64 t258] 23 (0, 0)) (by (with_reducible repeat (first | refine blk_drewN ?_ _ | refine blk_drew ?_ | refine blk_alloc ?_ _)); refine blk_put (cs := #[.int .i64 t255, .int .i64 t256, .int .i64 t257, .int .i64 0]) ?_ 3 _ rfl; (with_reducible repeat (first | refine blk_drewN ?_ _ | refine blk_drew ?_ | refine blk_alloc ?_ _)); refine blk_put (cs := #[.int .i64 t255, .int .i64 t256, .int .i64 0, .int .i64 0]) ?_ 2 _ rfl; (with_reducible repeat (first | refine blk_drewN ?_ _ | refine blk_drew ?_ | refine blk_alloc ?_ _)); refine blk_put (cs := #[.int .i64 t255, .int .i64 0, .int .i64 0, .int .i64 0]) ?_ 1 _ rfl; (with_reducible repeat (first | refine blk_drewN ?_ _ | refine blk_drew ?_ | refine blk_alloc ?_ _)); refine blk_put (cs := #[.int .i64 0, .int .i64 0, .int .i64 0, .int .i64 0]) ?_ 0 _ rfl; (with_reducible repeat (first | refine blk_drewN ?_ _ | refine blk_drew ?_ | refine blk_alloc ?_ _)); exact BK260.out) hg (Kd.R_away HO_12.out (fun _ hk => hk.2))); have n4_ := Aside0.mk (hb); have n5_ := Aside0.mk (ho); clear HO_11; clear BK246; clear BK252; clear BK260; clear HB; clear HO_12; have HO_11 := n0_; have BK246 := n1_; have BK252 := n2_; have BK260 := n3_; have HB := n4_; have HO263 := n5_; clear n0_ n1_ n2_ n3_ n4_ n5_; clear ho hb hg hat; have hcz59_0 : w58.cell? ⟨gb252, 0, none⟩ = some (.int .i64 t247) := (blk_cell BK252.out 0).trans rfl; have hcz59_1 : w58.cell? ⟨gb252, 1, none⟩ = some (.int .i64 t248) := (blk_cell BK252.out 1).trans rfl; have hcz59_2 : w58.cell? ⟨gb252, 2, none⟩ = some (.int .i64 t249) := (blk_cell BK252.out 2).trans rfl; have hcz59_3 : w58.cell? ⟨gb252, 3, none⟩ = some (.int .i64 t250) := (blk_cell BK252.out 3).trans rfl; have hfz59_0 := blk_frozen BK252.out 0; have hfz59_1 := blk_frozen BK252.out 1; have hfz59_2 := blk_frozen BK252.out 2; have hfz59_3 := blk_frozen BK252.out 3) | ((with_reducible refine gate_callee (f := 127) rfl ?_); refine goesL_ (some 88) rfl rfl Try.func127 (by kernel_rfl) rfl #[.agg #[.int .i64 (wrap64 (x13_2 + 1)), .int .i64 t248, .int .i64 (rd l2 x42_2), .int .i64 t250], .int .u8 a1] rfl (by (try simp only [List.map_toArray, List.map_cons, List.map_nil]); first | done | rfl | (simp only [List.length_drop, List.length_take]; rfl)) ?_; (with_reducible refine (rect_turned.calls (wrap64 (x13_2 + 1)) t248 (rd l2 x42_2) t250 a1 t264 t265 t266 t267 t268 _ A49.out).mono ?_); rintro e w60 ⟨rfl, hb⟩; refine ⟨_, rfl, ?_⟩; have n0_ := Aside0.mk (Kd.R_below (by (with_reducible repeat (first | apply Kd.R_alloc | apply Kd.R_drewN | apply Kd.R_drew)); exact HO_11.out) hb); have n1_ := Aside0.mk (Kd.R_below (by (with_reducible repeat (first | apply Kd.R_alloc | apply Kd.R_drewN | apply Kd.R_drew)); exact HO263.out) hb); have n2_ := Aside0.mk (blk_below (g := gb246) (o := .cells #[.int .i64 a0_0, .int .i64 a0_1, .int .i64 a0_2, .int .i64 a0_3] 23 (0, 0)) (by (with_reducible repeat (first | refine blk_drewN ?_ _ | refine blk_drew ?_ | refine blk_alloc ?_ _)); exact BK246.out) hb); have n3_ := Aside0.mk (blk_below (g := gb252) (o := .cells #[.int .i64 t247, .int .i64 t248, .int .i64 t249, .int .i64 t250] 23 (0, 0)) (by (with_reducible repeat (first | refine blk_drewN ?_ _ | refine blk_drew ?_ | refine blk_alloc ?_ _)); exact BK252.out) hb); have n4_ := Aside0.mk (blk_below (g := gb260) (o := .cells #[.int .i64 t255, .int .i64 t256, .int .i64 t257, .int .i64 t258] 23 (0, 0)) (by (with_reducible repeat (first | refine blk_drewN ?_ _ | refine blk_drew ?_ | refine blk_alloc ?_ _)); exact BK260.out) hb); have n5_ := Aside0.mk (below_step (by repeat (first | (with_reducible first | exact HB.out | apply below_alloc | apply pw_below_drewN | apply below_drew1 | refine below_set ?_ GE246.out | refine below_set ?_ GE252.out | refine below_set ?_ GE260.out) | exact HB.out)) hb); clear HO_11; clear HO263; clear BK246; clear BK252; clear BK260; clear HB; have HO_11 := n0_; have HO263 := n1_; have BK246 := n2_; have BK252 := n3_; have BK260 := n4_; have HB := n5_; clear n0_ n1_ n2_ n3_ n4_ n5_; (try clear hb); (try clear hb2); (try clear hk); (try clear hi)) | ((with_reducible refine gate_dst (N := 18) rfl ?_); (try (refine gate_guard (by rfl) ?_; dsimp only)); refine box_event ?hg (N := 18) ?hd (cs := #[.int .i64 0, .int .i64 0, .int .i64 0, .int .i64 0]) (t := 23) ?hr ?_; (case hd => rfl); (case hg => rfl); (case hr => first | (go_simp; done) | (go_simp; rfl)); intro gb269 hg w61 hbox hb; have n0_ := Aside0.mk (Kd.R_below (Kd.R_elderB (by (with_reducible repeat (first | apply Kd.R_alloc | apply Kd.R_drewN | apply Kd.R_drew)); exact HO_11.out) gb269 (Nat.le_of_eq hg.symm)) hb); have n1_ := Aside0.mk (Kd.R_below (Kd.R_elderB (by (with_reducible repeat (first | apply Kd.R_alloc | apply Kd.R_drewN | apply Kd.R_drew)); exact HO263.out) gb269 (Nat.le_of_eq hg.symm)) hb); have n2_ := Aside0.mk (blk_below (g := gb246) (o := .cells #[.int .i64 a0_0, .int .i64 a0_1, .int .i64 a0_2, .int .i64 a0_3] 23 (0, 0)) (by (with_reducible repeat (first | refine blk_drewN ?_ _ | refine blk_drew ?_ | refine blk_alloc ?_ _)); exact BK246.out) hb); have n3_ := Aside0.mk (blk_below (g := gb252) (o := .cells #[.int .i64 t247, .int .i64 t248, .int .i64 t249, .int .i64 t250] 23 (0, 0)) (by (with_reducible repeat (first | refine blk_drewN ?_ _ | refine blk_drew ?_ | refine blk_alloc ?_ _)); exact BK252.out) hb); have n4_ := Aside0.mk (blk_below (g := gb260) (o := .cells #[.int .i64 t255, .int .i64 t256, .int .i64 t257, .int .i64 t258] 23 (0, 0)) (by (with_reducible repeat (first | refine blk_drewN ?_ _ | refine blk_drew ?_ | refine blk_alloc ?_ _)); exact BK260.out) hb); have n5_ := Aside0.mk (below_step (by repeat (first | (with_reducible first | exact HB.out | apply below_alloc | apply pw_below_drewN | apply below_drew1 | refine below_set ?_ GE246.out | refine below_set ?_ GE252.out | refine below_set ?_ GE260.out) | exact HB.out)) hb); have n6_ := Aside0.mk (hbox); have n7_ := Aside0.mk ((by rw [hg]; exact (below_size (by repeat (first | (with_reducible first | exact HB.out | apply below_alloc | apply pw_below_drewN | apply below_drew1 | refine below_set ?_ GE246.out | refine below_set ?_ GE252.out | refine below_set ?_ GE260.out) | exact HB.out))) : w.heap.size ≤ gb269)); have n8_ := Aside0.mk ((by rw [hg]; exact (below_size (by repeat (first | (with_reducible first | exact HB.out | apply below_alloc | apply pw_below_drewN | apply below_drew1 | refine below_set ?_ GE246.out | refine below_set ?_ GE252.out | refine below_set ?_ GE260.out) | exact HB.out))) : w.heap.size ≤ gb269)); have n9_ := Aside0.mk ((by rw [hg]; exact Nat.ne_of_lt (blk_lt (g := gb246) (o := .cells #[.int .i64 a0_0, .int .i64 a0_1, .int .i64 a0_2, .int .i64 a0_3] 23 (0, 0)) (by (with_reducible repeat (first | refine blk_drewN ?_ _ | refine blk_drew ?_ | refine blk_alloc ?_ _)); exact BK246.out)) : gb246 ≠ gb269)); have n10_ := Aside0.mk ((by rw [hg]; exact Nat.ne_of_gt (blk_lt (g := gb246) (o := .cells #[.int .i64 a0_0, .int .i64 a0_1, .int .i64 a0_2, .int .i64 a0_3] 23 (0, 0)) (by (with_reducible repeat (first | refine blk_drewN ?_ _ | refine blk_drew ?_ | refine blk_alloc ?_ _)); exact BK246.out)) : gb269 ≠ gb246)); have n11_ := Aside0.mk ((by rw [hg]; exact Nat.ne_of_lt (blk_lt (g := gb252) (o := .cells #[.int .i64 t247, .int .i64 t248, .int .i64 t249, .int .i64 t250] 23 (0, 0)) (by (with_reducible repeat (first | refine blk_drewN ?_ _ | refine blk_drew ?_ | refine blk_alloc ?_ _)); exact BK252.out)) : gb252 ≠ gb269)); have n12_ := Aside0.mk ((by rw [hg]; exact Nat.ne_of_gt (blk_lt (g := gb252) (o := .cells #[.int .i64 t247, .int .i64 t248, .int .i64 t249, .int .i64 t250] 23 (0, 0)) (by (with_reducible repeat (first | refine blk_drewN ?_ _ | refine blk_drew ?_ | refine blk_alloc ?_ _)); exact BK252.out)) : gb269 ≠ gb252)); have n13_ := Aside0.mk ((by rw [hg]; exact Nat.ne_of_lt (blk_lt (g := gb260) (o := .cells #[.int .i64 t255, .int .i64 t256, .int .i64 t257, .int .i64 t258] 23 (0, 0)) (by (with_reducible repeat (first | refine blk_drewN ?_ _ | refine blk_drew ?_ | refine blk_alloc ?_ _)); exact BK260.out)) : gb260 ≠ gb269)); have n14_ := Aside0.mk ((by rw [hg]; exact Nat.ne_of_gt (blk_lt (g := gb260) (o := .cells #[.int .i64 t255, .int .i64 t256, .int .i64 t257, .int .i64 t258] 23 (0, 0)) (by (with_reducible repeat (first | refine blk_drewN ?_ _ | refine blk_drew ?_ | refine blk_alloc ?_ _)); exact BK260.out)) : gb269 ≠ gb260)); clear HO_11; clear HO263; clear BK246; clear BK252; clear BK260; clear HB; have HO_11 := n0_; have HO263 := n1_; have BK246 := n2_; have BK252 := n3_; have BK260 := n4_; have HB := n5_; have BK269 := n6_; have GW269 := n7_; have GE269 := n8_; have NB246_269 := n9_; have NB269_246 := n10_; have NB252_269 := n11_; have NB269_252 := n12_; have NB260_269 := n13_; have NB269_260 := n14_; clear n0_ n1_ n2_ n3_ n4_ n5_ n6_ n7_ n8_ n9_ n10_ n11_ n12_ n13_ n14_; clear hb hbox hg; have hnb62 := NB269_246.out; have hnc62 := NB246_269.out; have hnb63 := NB269_252.out; have hnc63 := NB252_269.out; have hnb64 := NB269_260.out; have hnc64 := NB260_269.out; have hcz65_0 : w61.cell? ⟨gb269, 0, none⟩ = some (.int .i64 0) := (blk_cell BK269.out 0).trans rfl; have hcz65_1 : w61.cell? ⟨gb269, 1, none⟩ = some (.int .i64 0) := (blk_cell BK269.out 1).trans rfl; have hcz65_2 : w61.cell? ⟨gb269, 2, none⟩ = some (.int .i64 0) := (blk_cell BK269.out 2).trans rfl; have hcz65_3 : w61.cell? ⟨gb269, 3, none⟩ = some (.int .i64 0) := (blk_cell BK269.out 3).trans rfl; have hfz65_0 := blk_frozen BK269.out 0; have hfz65_1 := blk_frozen BK269.out 1; have hfz65_2 := blk_frozen BK269.out 2; have hfz65_3 := blk_frozen BK269.out 3) | ((with_reducible refine gate_builtin (b := .append) (xs := #[.tmp 91, .tmp 93]) rfl ?_); (try (refine gate_guard (by rfl) ?_; dsimp only)); at_builtin; refine Kd.R_append k23 (w0 := w) w.heap.size rfl (.tmp 91) (.tmp 93) 42 23 (.agg #[(.int .i64 0), (.int .i64 0), (.int .i64 0), (.int .i64 0)]) 32 rfl Try.underlying42 info23 rfl (by decide) (by omega) u11 x11_2 (⟨t264, t265, t266, t267⟩ : S23) [.int .i64 t264, .int .i64 t265, .int .i64 t266, .int .i64 t267] (fun k_ => some k_ ≠ (v262 : Value).ownBlock ∧ k_ ≠ gb246 ∧ k_ ≠ gb252 ∧ k_ ≠ gb260 ∧ k_ ≠ gb269) (fun _ => False) rfl (by first | (go_simp; done) | (go_simp; rfl)) ?aP (fun _ hk => hk.elim) ?aF ?aO ?aB ?aS ?aL ?_; (case aP => exact k23_mkM _ _ _ (⟨t264, t265, t266, t267⟩ : S23)); (case aB => exact (by repeat (first | (with_reducible first | exact HB.out | apply below_alloc | apply pw_below_drewN | apply below_drew1 | refine below_set ?_ GE246.out | refine below_set ?_ GE252.out | refine below_set ?_ GE260.out | refine below_set ?_ GE269.out) | exact HB.out))); (case aF => exact (fun k_ hk => ⟨Kd.fresh' (Kd.R_lt (by (with_reducible repeat (first | apply Kd.R_alloc | apply Kd.R_drewN | apply Kd.R_drew)); exact (Kd.R_mono (Kd.R_far (p := ⟨gb269, 3, none⟩) (Kd.R_far (p := ⟨gb269, 2, none⟩) (Kd.R_far (p := ⟨gb269, 1, none⟩) (Kd.R_far (p := ⟨gb269, 0, none⟩) (Kd.R_mono HO263.out (fun k_ hk => (⟨hk, hk.2⟩ : _ ∧ k_ ≠ gb269))) (fun _ hk => hk.2) (.int .i64 t264)) (fun _ hk => hk.2) (.int .i64 t265)) (fun _ hk => hk.2) (.int .i64 t266)) (fun _ hk => hk.2) (.int .i64 t267)) (fun _ h_ => h_.1)))) k_ hk, Kd.freshB (g := gb246) (o := .cells #[.int .i64 a0_0, .int .i64 a0_1, .int .i64 a0_2, .int .i64 a0_3] 23 (0, 0)) (by (with_reducible repeat (first | refine blk_drewN ?_ _ | refine blk_drew ?_ | refine blk_alloc ?_ _)); refine blk_far ?_ NB246_269.out _; (with_reducible repeat (first | refine blk_drewN ?_ _ | refine blk_drew ?_ | refine blk_alloc ?_ _)); refine blk_far ?_ NB246_269.out _; (with_reducible repeat (first | refine blk_drewN ?_ _ | refine blk_drew ?_ | refine blk_alloc ?_ _)); refine blk_far ?_ NB246_269.out _; (with_reducible repeat (first | refine blk_drewN ?_ _ | refine blk_drew ?_ | refine blk_alloc ?_ _)); refine blk_far ?_ NB246_269.out _; (with_reducible repeat (first | refine blk_drewN ?_ _ | refine blk_drew ?_ | refine blk_alloc ?_ _)); exact BK246.out) k_ hk, Kd.freshB (g := gb252) (o := .cells #[.int .i64 t247, .int .i64 t248, .int .i64 t249, .int .i64 t250] 23 (0, 0)) (by (with_reducible repeat (first | refine blk_drewN ?_ _ | refine blk_drew ?_ | refine blk_alloc ?_ _)); refine blk_far ?_ NB252_269.out _; (with_reducible repeat (first | refine blk_drewN ?_ _ | refine blk_drew ?_ | refine blk_alloc ?_ _)); refine blk_far ?_ NB252_269.out _; (with_reducible repeat (first | refine blk_drewN ?_ _ | refine blk_drew ?_ | refine blk_alloc ?_ _)); refine blk_far ?_ NB252_269.out _; (with_reducible repeat (first | refine blk_drewN ?_ _ | refine blk_drew ?_ | refine blk_alloc ?_ _)); refine blk_far ?_ NB252_269.out _; (with_reducible repeat (first | refine blk_drewN ?_ _ | refine blk_drew ?_ | refine blk_alloc ?_ _)); exact BK252.out) k_ hk, Kd.freshB (g := gb260) (o := .cells #[.int .i64 t255, .int .i64 t256, .int .i64 t257, .int .i64 t258] 23 (0, 0)) (by (with_reducible repeat (first | refine blk_drewN ?_ _ | refine blk_drew ?_ | refine blk_alloc ?_ _)); refine blk_far ?_ NB260_269.out _; (with_reducible repeat (first | refine blk_drewN ?_ _ | refine blk_drew ?_ | refine blk_alloc ?_ _)); refine blk_far ?_ NB260_269.out _; (with_reducible repeat (first | refine blk_drewN ?_ _ | refine blk_drew ?_ | refine blk_alloc ?_ _)); refine blk_far ?_ NB260_269.out _; (with_reducible repeat (first | refine blk_drewN ?_ _ | refine blk_drew ?_ | refine blk_alloc ?_ _)); refine blk_far ?_ NB260_269.out _; (with_reducible repeat (first | refine blk_drewN ?_ _ | refine blk_drew ?_ | refine blk_alloc ?_ _)); exact BK260.out) k_ hk, Kd.freshB (g := gb269) (o := .cells #[.int .i64 t264, .int .i64 t265, .int .i64 t266, .int .i64 t267] 23 (0, 0)) (by (with_reducible repeat (first | refine blk_drewN ?_ _ | refine blk_drew ?_ | refine blk_alloc ?_ _)); refine blk_put (cs := #[.int .i64 t264, .int .i64 t265, .int .i64 t266, .int .i64 0]) ?_ 3 _ rfl; (with_reducible repeat (first | refine blk_drewN ?_ _ | refine blk_drew ?_ | refine blk_alloc ?_ _)); refine blk_put (cs := #[.int .i64 t264, .int .i64 t265, .int .i64 0, .int .i64 0]) ?_ 2 _ rfl; (with_reducible repeat (first | refine blk_drewN ?_ _ | refine blk_drew ?_ | refine blk_alloc ?_ _)); refine blk_put (cs := #[.int .i64 t264, .int .i64 0, .int .i64 0, .int .i64 0]) ?_ 1 _ rfl; (with_reducible repeat (first | refine blk_drewN ?_ _ | refine blk_drew ?_ | refine blk_alloc ?_ _)); refine blk_put (cs := #[.int .i64 0, .int .i64 0, .int .i64 0, .int .i64 0]) ?_ 0 _ rfl; (with_reducible repeat (first | refine blk_drewN ?_ _ | refine blk_drew ?_ | refine blk_alloc ?_ _)); exact BK269.out) k_ hk⟩)); (case aO => exact (by (with_reducible repeat (first | apply Kd.R_alloc | apply Kd.R_drewN | apply Kd.R_drew)); exact Kd.R_mono (Kd.R_far (p := ⟨gb269, 3, none⟩) (Kd.R_far (p := ⟨gb269, 2, none⟩) (Kd.R_far (p := ⟨gb269, 1, none⟩) (Kd.R_far (p := ⟨gb269, 0, none⟩) (Kd.R_mono HO_11.out (fun k_ hk => (⟨hk, hk.2⟩ : _ ∧ k_ ≠ gb269))) (fun _ hk => hk.2) (.int .i64 t264)) (fun _ hk => hk.2) (.int .i64 t265)) (fun _ hk => hk.2) (.int .i64 t266)) (fun _ hk => hk.2) (.int .i64 t267)) (fun _ hk => ⟨hk.1.1.2, ⟨hk.1.1.1.1, ⟨hk.1.1.1.2.1, ⟨hk.1.1.1.2.2, hk.1.2⟩⟩⟩⟩))); (case aS => exact (below_size (by repeat (first | (with_reducible first | exact HB.out | apply below_alloc | apply pw_below_drewN | apply below_drew1 | refine below_set ?_ GE246.out | refine below_set ?_ GE252.out | refine below_set ?_ GE260.out | refine below_set ?_ GE269.out) | exact HB.out)))); (case aL => have := LMc50.out; omega); intro v271 w66 ho hb hg hat; rw [← Ny270.out] at ho; have n0_ := Aside0.mk (blk_grown (g := gb246) (o := .cells #[.int .i64 a0_0, .int .i64 a0_1, .int .i64 a0_2, .int .i64 a0_3] 23 (0, 0)) (by (with_reducible repeat (first | refine blk_drewN ?_ _ | refine blk_drew ?_ | refine blk_alloc ?_ _)); refine blk_far ?_ NB246_269.out _; (with_reducible repeat (first | refine blk_drewN ?_ _ | refine blk_drew ?_ | refine blk_alloc ?_ _)); refine blk_far ?_ NB246_269.out _; (with_reducible repeat (first | refine blk_drewN ?_ _ | refine blk_drew ?_ | refine blk_alloc ?_ _)); refine blk_far ?_ NB246_269.out _; (with_reducible repeat (first | refine blk_drewN ?_ _ | refine blk_drew ?_ | refine blk_alloc ?_ _)); refine blk_far ?_ NB246_269.out _; (with_reducible repeat (first | refine blk_drewN ?_ _ | refine blk_drew ?_ | refine blk_alloc ?_ _)); exact BK246.out) hg (Kd.R_away HO_11.out (fun _ hk => hk.1.1.1))); have n1_ := Aside0.mk (blk_grown (g := gb252) (o := .cells #[.int .i64 t247, .int .i64 t248, .int .i64 t249, .int .i64 t250] 23 (0, 0)) (by (with_reducible repeat (first | refine blk_drewN ?_ _ | refine blk_drew ?_ | refine blk_alloc ?_ _)); refine blk_far ?_ NB252_269.out _; (with_reducible repeat (first | refine blk_drewN ?_ _ | refine blk_drew ?_ | refine blk_alloc ?_ _)); refine blk_far ?_ NB252_269.out _; (with_reducible repeat (first | refine blk_drewN ?_ _ | refine blk_drew ?_ | refine blk_alloc ?_ _)); refine blk_far ?_ NB252_269.out _; (with_reducible repeat (first | refine blk_drewN ?_ _ | refine blk_drew ?_ | refine blk_alloc ?_ _)); refine blk_far ?_ NB252_269.out _; (with_reducible repeat (first | refine blk_drewN ?_ _ | refine blk_drew ?_ | refine blk_alloc ?_ _)); exact BK252.out) hg (Kd.R_away HO_11.out (fun _ hk => hk.1.1.2.1))); have n2_ := Aside0.mk (blk_grown (g := gb260) (o := .cells #[.int .i64 t255, .int .i64 t256, .int .i64 t257, .int .i64 t258] 23 (0, 0)) (by (with_reducible repeat (first | refine blk_drewN ?_ _ | refine blk_drew ?_ | refine blk_alloc ?_ _)); refine blk_far ?_ NB260_269.out _; (with_reducible repeat (first | refine blk_drewN ?_ _ | refine blk_drew ?_ | refine blk_alloc ?_ _)); refine blk_far ?_ NB260_269.out _; (with_reducible repeat (first | refine blk_drewN ?_ _ | refine blk_drew ?_ | refine blk_alloc ?_ _)); refine blk_far ?_ NB260_269.out _; (with_reducible repeat (first | refine blk_drewN ?_ _ | refine blk_drew ?_ | refine blk_alloc ?_ _)); refine blk_far ?_ NB260_269.out _; (with_reducible repeat (first | refine blk_drewN ?_ _ | refine blk_drew ?_ | refine blk_alloc ?_ _)); exact BK260.out) hg (Kd.R_away HO_11.out (fun _ hk => hk.1.1.2.2))); have n3_ := Aside0.mk (Kd.R_after (ok := (fun k_ => k_ ≠ gb246 ∧ k_ ≠ gb252 ∧ k_ ≠ gb260 ∧ k_ ≠ gb269)) (by (with_reducible repeat (first | apply Kd.R_alloc | apply Kd.R_drewN | apply Kd.R_drew)); exact Kd.R_mono (Kd.R_far (p := ⟨gb269, 3, none⟩) (Kd.R_far (p := ⟨gb269, 2, none⟩) (Kd.R_far (p := ⟨gb269, 1, none⟩) (Kd.R_far (p := ⟨gb269, 0, none⟩) (Kd.R_mono HO263.out (fun k_ hk => (⟨hk, hk.2⟩ : _ ∧ k_ ≠ gb269))) (fun _ hk => hk.2) (.int .i64 t264)) (fun _ hk => hk.2) (.int .i64 t265)) (fun _ hk => hk.2) (.int .i64 t266)) (fun _ hk => hk.2) (.int .i64 t267)) (fun _ hk => ⟨⟨hk.1.1.2.1, ⟨hk.1.1.2.2.1, ⟨hk.1.1.2.2.2, hk.1.2⟩⟩⟩, hk.1.1.1⟩)) hg hat); have n4_ := Aside0.mk (blk_grown (g := gb269) (o := .cells #[.int .i64 t264, .int .i64 t265, .int .i64 t266, .int .i64 t267] 23 (0, 0)) (by (with_reducible repeat (first | refine blk_drewN ?_ _ | refine blk_drew ?_ | refine blk_alloc ?_ _)); refine blk_put (cs := #[.int .i64 t264, .int .i64 t265, .int .i64 t266, .int .i64 0]) ?_ 3 _ rfl; (with_reducible repeat (first | refine blk_drewN ?_ _ | refine blk_drew ?_ | refine blk_alloc ?_ _)); refine blk_put (cs := #[.int .i64 t264, .int .i64 t265, .int .i64 0, .int .i64 0]) ?_ 2 _ rfl; (with_reducible repeat (first | refine blk_drewN ?_ _ | refine blk_drew ?_ | refine blk_alloc ?_ _)); refine blk_put (cs := #[.int .i64 t264, .int .i64 0, .int .i64 0, .int .i64 0]) ?_ 1 _ rfl; (with_reducible repeat (first | refine blk_drewN ?_ _ | refine blk_drew ?_ | refine blk_alloc ?_ _)); refine blk_put (cs := #[.int .i64 0, .int .i64 0, .int .i64 0, .int .i64 0]) ?_ 0 _ rfl; (with_reducible repeat (first | refine blk_drewN ?_ _ | refine blk_drew ?_ | refine blk_alloc ?_ _)); exact BK269.out) hg (Kd.R_away HO_11.out (fun _ hk => hk.2))); have n5_ := Aside0.mk (hb); have n6_ := Aside0.mk (ho); clear BK246; clear BK252; clear BK260; clear HO263; clear BK269; clear HB; clear HO_11; have BK246 := n0_; have BK252 := n1_; have BK260 := n2_; have HO263 := n3_; have BK269 := n4_; have HB := n5_; have HO272 := n6_; clear n0_ n1_ n2_ n3_ n4_ n5_ n6_; clear ho hb hg hat))
              go_roundg k2
              case measure => have := HJ4.out; have := HK2.out; omega
              case rel => exact ⟨(y270), (y261), (wrap64 ((wrap64 (x13_2 + 1)) + (rd l2 x42_2))), (wrap64 (x42_2 + 1)), (by first | rfl | (simp; done) | (simp [*]; done)), (by first | rfl | (simp; done) | (simp [*]; done)), H', ⟨by have := HJ4.out; have := HK2.out; omega⟩, ⟨by (with_reducible repeat (first | apply Kd.R_alloc | apply Kd.R_drewN | apply Kd.R_drew)); exact Kd.R_mono HO272.out (fun _ hk => ⟨hk.1, ⟨hk.2.1, hk.2.2.1⟩⟩)⟩, ⟨by (with_reducible repeat (first | apply Kd.R_alloc | apply Kd.R_drewN | apply Kd.R_drew)); exact Kd.R_mono HO263.out (fun _ hk => ⟨hk.2, ⟨hk.1.1, hk.1.2.1⟩⟩)⟩, ⟨by (with_reducible repeat (first | refine blk_drewN ?_ _ | refine blk_drew ?_ | refine blk_alloc ?_ _)); exact BK246.out⟩, ⟨by (with_reducible repeat (first | refine blk_drewN ?_ _ | refine blk_drew ?_ | refine blk_alloc ?_ _)); exact BK252.out⟩, ⟨by repeat (first | (with_reducible first | exact HB.out | apply below_alloc | apply pw_below_drewN | apply below_drew1 | refine below_set ?_ GE246.out | refine below_set ?_ GE252.out | refine below_set ?_ GE260.out | refine below_set ?_ GE269.out) | exact HB.out)⟩⟩
             ·rw [if_neg c50] at H
              exact absurd H (by simp)
          ·rw [if_neg c29] at H
           exact absurd H (by simp)
         ·rw [if_neg c27] at H
          have c27b0 : decide (0 < x42_2) = false := decide_eq_false c27
          clear c27
          by_cases c67 : (rd l2 x42_2) < 1
          ·rw [if_pos c67] at H
           have c67b0 : decide ((rd l2 x42_2) < 1) = true := decide_eq_true c67
           clear c67
           simp only [Option.some.injEq, Prod.mk.injEq] at H
           obtain ⟨rfl, rfl, rfl⟩ := H
           have p254 : 0 ≤ (x42_2 : Int) := of_decide_eq_true (by first | (with_reducible assumption) | assumption)
           have q254 : x42_2 < (l2.length : Int) := of_decide_eq_true (by first | (with_reducible assumption) | assumption)
           obtain ⟨ad254, e254, hx254_0⟩ := Kd.at_int HR2.out x42_2 p254 q254
           cases e254
           replace hx254_0 := (HB.out.cell (World.block_lt_of_cell? w _ hx254_0)).trans hx254_0
           replace p254 := eq_true p254
           replace q254 := eq_true q254
           go_wp2
           go_ret3
           exact ⟨_, _, by first | rfl | (simp [errW_none, errW_some] <;> rfl) | (simp [*, errW_none, errW_some] <;> rfl), by first | exact Kd.R_nil _ _ _ _ _ | exact Kd.N_nil _ _ _ _ _ | exact Kd.V_nil _ _ _ _ _ | exact Kd.Q_nil _ _ _ _ _ | exact Kd.S_nil _ _ _ _ _, by first | exact Kd.R_nil _ _ _ _ _ | exact Kd.N_nil _ _ _ _ _ | exact Kd.V_nil _ _ _ _ _ | exact Kd.Q_nil _ _ _ _ _ | exact Kd.S_nil _ _ _ _ _, by repeat (first | (with_reducible first | exact HB.out | apply below_alloc | apply pw_below_drewN | apply below_drew1 | refine below_set ?_ GE246.out | refine below_set ?_ GE252.out) | exact HB.out)⟩
          ·rw [if_neg c67] at H
           have c67b0 : decide ((rd l2 x42_2) < 1) = false := decide_eq_false c67
           clear c67
           by_cases c68 : (rd l2 x42_2) > (wrap64 ((wrap64 (t247 + t249)) - x13_2))
           ·rw [if_pos c68] at H
            have c68b0 : decide ((wrap64 ((wrap64 (t247 + t249)) - x13_2)) < (rd l2 x42_2)) = true := decide_eq_true c68
            clear c68
            simp only [Option.some.injEq, Prod.mk.injEq] at H
            obtain ⟨rfl, rfl, rfl⟩ := H
            have p254 : 0 ≤ (x42_2 : Int) := of_decide_eq_true (by first | (with_reducible assumption) | assumption)
            have q254 : x42_2 < (l2.length : Int) := of_decide_eq_true (by first | (with_reducible assumption) | assumption)
            obtain ⟨ad254, e254, hx254_0⟩ := Kd.at_int HR2.out x42_2 p254 q254
            cases e254
            replace hx254_0 := (HB.out.cell (World.block_lt_of_cell? w _ hx254_0)).trans hx254_0
            replace p254 := eq_true p254
            replace q254 := eq_true q254
            have hnb69 := NB252_246.out
            have hnc69 := NB246_252.out
            have hcz70_0 : wr.cell? ⟨gb252, 0, none⟩ = some (.int .i64 t247) := (blk_cell BK252.out 0).trans rfl
            have hcz70_1 : wr.cell? ⟨gb252, 1, none⟩ = some (.int .i64 t248) := (blk_cell BK252.out 1).trans rfl
            have hcz70_2 : wr.cell? ⟨gb252, 2, none⟩ = some (.int .i64 t249) := (blk_cell BK252.out 2).trans rfl
            have hcz70_3 : wr.cell? ⟨gb252, 3, none⟩ = some (.int .i64 t250) := (blk_cell BK252.out 3).trans rfl
            have hfz70_0 := blk_frozen BK252.out 0
            have hfz70_1 := blk_frozen BK252.out 1
            have hfz70_2 := blk_frozen BK252.out 2
            have hfz70_3 := blk_frozen BK252.out 3
            go_wp2
            go_ret3
            exact ⟨_, _, by first | rfl | (simp [errW_none, errW_some] <;> rfl) | (simp [*, errW_none, errW_some] <;> rfl), by first | exact Kd.R_nil _ _ _ _ _ | exact Kd.N_nil _ _ _ _ _ | exact Kd.V_nil _ _ _ _ _ | exact Kd.Q_nil _ _ _ _ _ | exact Kd.S_nil _ _ _ _ _, by first | exact Kd.R_nil _ _ _ _ _ | exact Kd.N_nil _ _ _ _ _ | exact Kd.V_nil _ _ _ _ _ | exact Kd.Q_nil _ _ _ _ _ | exact Kd.S_nil _ _ _ _ _, by repeat (first | (with_reducible first | exact HB.out | apply below_alloc | apply pw_below_drewN | apply below_drew1 | refine below_set ?_ GE246.out | refine below_set ?_ GE252.out) | exact HB.out)⟩
           ·rw [if_neg c68] at H
            have c68b0 : decide ((wrap64 ((wrap64 (t247 + t249)) - x13_2)) < (rd l2 x42_2)) = false := decide_eq_false c68
            clear c68
            replace H := Option.bind_eq_some_iff.mp H
            obtain ⟨⟨t273, t274, t275, t276, t277⟩, A710, H⟩ := H
            replace H : (if x11_2.length < 4398046511104 then (rect_Cut.l0 k2 a1 (x11_2 ++ [(⟨t273, t274, t275, t276⟩ : S23)]) x12_2 (wrap64 (x13_2 + (rd l2 x42_2))) l2 (l2.length : Int) (wrap64 (x42_2 + 1)) t247 t248 t249 t250) else (none)) = some (r1, r2, r3) := H
            have A71 := Aside0.mk A710
            clear A710
            by_cases c72 : x11_2.length < 4398046511104
            ·rw [if_pos c72] at H
             have LMc72 := Aside0.mk c72
             clear c72
             obtain ⟨y279, hy279⟩ : ∃ y_ : List (S23), y_ = (x11_2 ++ [(⟨t273, t274, t275, t276⟩ : S23)]) := ⟨_, rfl⟩
             replace H : (rect_Cut.l0 k2 a1 y279 x12_2 (wrap64 (x13_2 + (rd l2 x42_2))) l2 (l2.length : Int) (wrap64 (x42_2 + 1)) t247 t248 t249 t250) = some (r1, r2, r3) := by first | (rw [hy279]; with_reducible exact H) | (have H2_ := (Option.bind_some _ _).symm.trans H; rw [hy279]; with_reducible exact H2_) | (have H2_ := (Option.bind_some _ _).symm.trans H; with_reducible exact H2_) | with_reducible exact H | (rw [hy279]; exact H) | exact H
             have Ny279 := Aside0.mk hy279
             clear hy279
             have H' := Aside0.mk H
             clear H
             have p254 : 0 ≤ (x42_2 : Int) := of_decide_eq_true (by first | (with_reducible assumption) | assumption)
             have q254 : x42_2 < (l2.length : Int) := of_decide_eq_true (by first | (with_reducible assumption) | assumption)
             obtain ⟨ad254, e254, hx254_0⟩ := Kd.at_int HR2.out x42_2 p254 q254
             cases e254
             replace hx254_0 := (HB.out.cell (World.block_lt_of_cell? w _ hx254_0)).trans hx254_0
             replace p254 := eq_true p254
             replace q254 := eq_true q254
             have hnb73 := NB252_246.out
             have hnc73 := NB246_252.out
             have hcz74_0 : wr.cell? ⟨gb252, 0, none⟩ = some (.int .i64 t247) := (blk_cell BK252.out 0).trans rfl
             have hcz74_1 : wr.cell? ⟨gb252, 1, none⟩ = some (.int .i64 t248) := (blk_cell BK252.out 1).trans rfl
             have hcz74_2 : wr.cell? ⟨gb252, 2, none⟩ = some (.int .i64 t249) := (blk_cell BK252.out 2).trans rfl
             have hcz74_3 : wr.cell? ⟨gb252, 3, none⟩ = some (.int .i64 t250) := (blk_cell BK252.out 3).trans rfl
             have hfz74_0 := blk_frozen BK252.out 0
             have hfz74_1 := blk_frozen BK252.out 1
             have hfz74_2 := blk_frozen BK252.out 2
             have hfz74_3 := blk_frozen BK252.out 3
             go_wp2_with (first | ((with_reducible refine gate_callee (f := 127) rfl ?_); refine goesL_ (some 88) rfl rfl Try.func127 (by kernel_rfl) rfl #[.agg #[.int .i64 x13_2, .int .i64 t248, .int .i64 (rd l2 x42_2), .int .i64 t250], .int .u8 a1] rfl (by (try simp only [List.map_toArray, List.map_cons, List.map_nil]); first | done | rfl | (simp only [List.length_drop, List.length_take]; rfl)) ?_; (with_reducible refine (rect_turned.calls x13_2 t248 (rd l2 x42_2) t250 a1 t273 t274 t275 t276 t277 _ A71.out).mono ?_); rintro e w75 ⟨rfl, hb⟩; refine ⟨_, rfl, ?_⟩; have n0_ := Aside0.mk (Kd.R_below (by (with_reducible repeat (first | apply Kd.R_alloc | apply Kd.R_drewN | apply Kd.R_drew)); exact HO_11.out) hb); have n1_ := Aside0.mk (Kd.R_below (by (with_reducible repeat (first | apply Kd.R_alloc | apply Kd.R_drewN | apply Kd.R_drew)); exact HO_12.out) hb); have n2_ := Aside0.mk (blk_below (g := gb246) (o := .cells #[.int .i64 a0_0, .int .i64 a0_1, .int .i64 a0_2, .int .i64 a0_3] 23 (0, 0)) (by (with_reducible repeat (first | refine blk_drewN ?_ _ | refine blk_drew ?_ | refine blk_alloc ?_ _)); exact BK246.out) hb); have n3_ := Aside0.mk (blk_below (g := gb252) (o := .cells #[.int .i64 t247, .int .i64 t248, .int .i64 t249, .int .i64 t250] 23 (0, 0)) (by (with_reducible repeat (first | refine blk_drewN ?_ _ | refine blk_drew ?_ | refine blk_alloc ?_ _)); exact BK252.out) hb); have n4_ := Aside0.mk (below_step (by repeat (first | (with_reducible first | exact HB.out | apply below_alloc | apply pw_below_drewN | apply below_drew1 | refine below_set ?_ GE246.out | refine below_set ?_ GE252.out) | exact HB.out)) hb); clear HO_11; clear HO_12; clear BK246; clear BK252; clear HB; have HO_11 := n0_; have HO_12 := n1_; have BK246 := n2_; have BK252 := n3_; have HB := n4_; clear n0_ n1_ n2_ n3_ n4_; (try clear hb); (try clear hb2); (try clear hk); (try clear hi)) | ((with_reducible refine gate_dst (N := 18) rfl ?_); (try (refine gate_guard (by rfl) ?_; dsimp only)); refine box_event ?hg (N := 18) ?hd (cs := #[.int .i64 0, .int .i64 0, .int .i64 0, .int .i64 0]) (t := 23) ?hr ?_; (case hd => rfl); (case hg => rfl); (case hr => first | (go_simp; done) | (go_simp; rfl)); intro gb278 hg w76 hbox hb; have n0_ := Aside0.mk (Kd.R_below (Kd.R_elderB (by (with_reducible repeat (first | apply Kd.R_alloc | apply Kd.R_drewN | apply Kd.R_drew)); exact HO_11.out) gb278 (Nat.le_of_eq hg.symm)) hb); have n1_ := Aside0.mk (Kd.R_below (Kd.R_elderB (by (with_reducible repeat (first | apply Kd.R_alloc | apply Kd.R_drewN | apply Kd.R_drew)); exact HO_12.out) gb278 (Nat.le_of_eq hg.symm)) hb); have n2_ := Aside0.mk (blk_below (g := gb246) (o := .cells #[.int .i64 a0_0, .int .i64 a0_1, .int .i64 a0_2, .int .i64 a0_3] 23 (0, 0)) (by (with_reducible repeat (first | refine blk_drewN ?_ _ | refine blk_drew ?_ | refine blk_alloc ?_ _)); exact BK246.out) hb); have n3_ := Aside0.mk (blk_below (g := gb252) (o := .cells #[.int .i64 t247, .int .i64 t248, .int .i64 t249, .int .i64 t250] 23 (0, 0)) (by (with_reducible repeat (first | refine blk_drewN ?_ _ | refine blk_drew ?_ | refine blk_alloc ?_ _)); exact BK252.out) hb); have n4_ := Aside0.mk (below_step (by repeat (first | (with_reducible first | exact HB.out | apply below_alloc | apply pw_below_drewN | apply below_drew1 | refine below_set ?_ GE246.out | refine below_set ?_ GE252.out) | exact HB.out)) hb); have n5_ := Aside0.mk (hbox); have n6_ := Aside0.mk ((by rw [hg]; exact (below_size (by repeat (first | (with_reducible first | exact HB.out | apply below_alloc | apply pw_below_drewN | apply below_drew1 | refine below_set ?_ GE246.out | refine below_set ?_ GE252.out) | exact HB.out))) : w.heap.size ≤ gb278)); have n7_ := Aside0.mk ((by rw [hg]; exact (below_size (by repeat (first | (with_reducible first | exact HB.out | apply below_alloc | apply pw_below_drewN | apply below_drew1 | refine below_set ?_ GE246.out | refine below_set ?_ GE252.out) | exact HB.out))) : w.heap.size ≤ gb278)); have n8_ := Aside0.mk ((by rw [hg]; exact Nat.ne_of_lt (blk_lt (g := gb246) (o := .cells #[.int .i64 a0_0, .int .i64 a0_1, .int .i64 a0_2, .int .i64 a0_3] 23 (0, 0)) (by (with_reducible repeat (first | refine blk_drewN ?_ _ | refine blk_drew ?_ | refine blk_alloc ?_ _)); exact BK246.out)) : gb246 ≠ gb278)); have n9_ := Aside0.mk ((by rw [hg]; exact Nat.ne_of_gt (blk_lt (g := gb246) (o := .cells #[.int .i64 a0_0, .int .i64 a0_1, .int .i64 a0_2, .int .i64 a0_3] 23 (0, 0)) (by (with_reducible repeat (first | refine blk_drewN ?_ _ | refine blk_drew ?_ | refine blk_alloc ?_ _)); exact BK246.out)) : gb278 ≠ gb246)); have n10_ := Aside0.mk ((by rw [hg]; exact Nat.ne_of_lt (blk_lt (g := gb252) (o := .cells #[.int .i64 t247, .int .i64 t248, .int .i64 t249, .int .i64 t250] 23 (0, 0)) (by (with_reducible repeat (first | refine blk_drewN ?_ _ | refine blk_drew ?_ | refine blk_alloc ?_ _)); exact BK252.out)) : gb252 ≠ gb278)); have n11_ := Aside0.mk ((by rw [hg]; exact Nat.ne_of_gt (blk_lt (g := gb252) (o := .cells #[.int .i64 t247, .int .i64 t248, .int .i64 t249, .int .i64 t250] 23 (0, 0)) (by (with_reducible repeat (first | refine blk_drewN ?_ _ | refine blk_drew ?_ | refine blk_alloc ?_ _)); exact BK252.out)) : gb278 ≠ gb252)); clear HO_11; clear HO_12; clear BK246; clear BK252; clear HB; have HO_11 := n0_; have HO_12 := n1_; have BK246 := n2_; have BK252 := n3_; have HB := n4_; have BK278 := n5_; have GW278 := n6_; have GE278 := n7_; have NB246_278 := n8_; have NB278_246 := n9_; have NB252_278 := n10_; have NB278_252 := n11_; clear n0_ n1_ n2_ n3_ n4_ n5_ n6_ n7_ n8_ n9_ n10_ n11_; clear hb hbox hg; have hnb77 := NB278_246.out; have hnc77 := NB246_278.out; have hnb78 := NB278_252.out; have hnc78 := NB252_278.out; have hcz79_0 : w76.cell? ⟨gb278, 0, none⟩ = some (.int .i64 0) := (blk_cell BK278.out 0).trans rfl; have hcz79_1 : w76.cell? ⟨gb278, 1, none⟩ = some (.int .i64 0) := (blk_cell BK278.out 1).trans rfl; have hcz79_2 : w76.cell? ⟨gb278, 2, none⟩ = some (.int .i64 0) := (blk_cell BK278.out 2).trans rfl; have hcz79_3 : w76.cell? ⟨gb278, 3, none⟩ = some (.int .i64 0) := (blk_cell BK278.out 3).trans rfl; have hfz79_0 := blk_frozen BK278.out 0; have hfz79_1 := blk_frozen BK278.out 1; have hfz79_2 := blk_frozen BK278.out 2; have hfz79_3 := blk_frozen BK278.out 3) | ((with_reducible refine gate_builtin (b := .append) (xs := #[.tmp 91, .tmp 93]) rfl ?_); (try (refine gate_guard (by rfl) ?_; dsimp only)); at_builtin; refine Kd.R_append k23 (w0 := w) w.heap.size rfl (.tmp 91) (.tmp 93) 42 23 (.agg #[(.int .i64 0), (.int .i64 0), (.int .i64 0), (.int .i64 0)]) 32 rfl Try.underlying42 info23 rfl (by decide) (by omega) u11 x11_2 (⟨t273, t274, t275, t276⟩ : S23) [.int .i64 t273, .int .i64 t274, .int .i64 t275, .int .i64 t276] (fun k_ => some k_ ≠ (u12 : Value).ownBlock ∧ k_ ≠ gb246 ∧ k_ ≠ gb252 ∧ k_ ≠ gb278) (fun _ => False) rfl (by first | (go_simp; done) | (go_simp; rfl)) ?aP (fun _ hk => hk.elim) ?aF ?aO ?aB ?aS ?aL ?_; (case aP => exact k23_mkM _ _ _ (⟨t273, t274, t275, t276⟩ : S23)); (case aB => exact (by repeat (first | (with_reducible first | exact HB.out | apply below_alloc | apply pw_below_drewN | apply below_drew1 | refine below_set ?_ GE246.out | refine below_set ?_ GE252.out | refine below_set ?_ GE278.out) | exact HB.out))); (case aF => exact (fun k_ hk => ⟨Kd.fresh' (Kd.R_lt (by (with_reducible repeat (first | apply Kd.R_alloc | apply Kd.R_drewN | apply Kd.R_drew)); exact (Kd.R_mono (Kd.R_far (p := ⟨gb278, 3, none⟩) (Kd.R_far (p := ⟨gb278, 2, none⟩) (Kd.R_far (p := ⟨gb278, 1, none⟩) (Kd.R_far (p := ⟨gb278, 0, none⟩) (Kd.R_mono HO_12.out (fun k_ hk => (⟨hk, hk.2⟩ : _ ∧ k_ ≠ gb278))) (fun _ hk => hk.2) (.int .i64 t273)) (fun _ hk => hk.2) (.int .i64 t274)) (fun _ hk => hk.2) (.int .i64 t275)) (fun _ hk => hk.2) (.int .i64 t276)) (fun _ h_ => h_.1)))) k_ hk, Kd.freshB (g := gb246) (o := .cells #[.int .i64 a0_0, .int .i64 a0_1, .int .i64 a0_2, .int .i64 a0_3] 23 (0, 0)) (by (with_reducible repeat (first | refine blk_drewN ?_ _ | refine blk_drew ?_ | refine blk_alloc ?_ _)); refine blk_far ?_ NB246_278.out _; (with_reducible repeat (first | refine blk_drewN ?_ _ | refine blk_drew ?_ | refine blk_alloc ?_ _)); refine blk_far ?_ NB246_278.out _; (with_reducible repeat (first | refine blk_drewN ?_ _ | refine blk_drew ?_ | refine blk_alloc ?_ _)); refine blk_far ?_ NB246_278.out _; (with_reducible repeat (first | refine blk_drewN ?_ _ | refine blk_drew ?_ | refine blk_alloc ?_ _)); refine blk_far ?_ NB246_278.out _; (with_reducible repeat (first | refine blk_drewN ?_ _ | refine blk_drew ?_ | refine blk_alloc ?_ _)); exact BK246.out) k_ hk, Kd.freshB (g := gb252) (o := .cells #[.int .i64 t247, .int .i64 t248, .int .i64 t249, .int .i64 t250] 23 (0, 0)) (by (with_reducible repeat (first | refine blk_drewN ?_ _ | refine blk_drew ?_ | refine blk_alloc ?_ _)); refine blk_far ?_ NB252_278.out _; (with_reducible repeat (first | refine blk_drewN ?_ _ | refine blk_drew ?_ | refine blk_alloc ?_ _)); refine blk_far ?_ NB252_278.out _; (with_reducible repeat (first | refine blk_drewN ?_ _ | refine blk_drew ?_ | refine blk_alloc ?_ _)); refine blk_far ?_ NB252_278.out _; (with_reducible repeat (first | refine blk_drewN ?_ _ | refine blk_drew ?_ | refine blk_alloc ?_ _)); refine blk_far ?_ NB252_278.out _; (with_reducible repeat (first | refine blk_drewN ?_ _ | refine blk_drew ?_ | refine blk_alloc ?_ _)); exact BK252.out) k_ hk, Kd.freshB (g := gb278) (o := .cells #[.int .i64 t273, .int .i64 t274, .int .i64 t275, .int .i64 t276] 23 (0, 0)) (by (with_reducible repeat (first | refine blk_drewN ?_ _ | refine blk_drew ?_ | refine blk_alloc ?_ _)); refine blk_put (cs := #[.int .i64 t273, .int .i64 t274, .int .i64 t275, .int .i64 0]) ?_ 3 _ rfl; (with_reducible repeat (first | refine blk_drewN ?_ _ | refine blk_drew ?_ | refine blk_alloc ?_ _)); refine blk_put (cs := #[.int .i64 t273, .int .i64 t274, .int .i64 0, .int .i64 0]) ?_ 2 _ rfl; (with_reducible repeat (first | refine blk_drewN ?_ _ | refine blk_drew ?_ | refine blk_alloc ?_ _)); refine blk_put (cs := #[.int .i64 t273, .int .i64 0, .int .i64 0, .int .i64 0]) ?_ 1 _ rfl; (with_reducible repeat (first | refine blk_drewN ?_ _ | refine blk_drew ?_ | refine blk_alloc ?_ _)); refine blk_put (cs := #[.int .i64 0, .int .i64 0, .int .i64 0, .int .i64 0]) ?_ 0 _ rfl; (with_reducible repeat (first | refine blk_drewN ?_ _ | refine blk_drew ?_ | refine blk_alloc ?_ _)); exact BK278.out) k_ hk⟩)); (case aO => exact (by (with_reducible repeat (first | apply Kd.R_alloc | apply Kd.R_drewN | apply Kd.R_drew)); exact Kd.R_mono (Kd.R_far (p := ⟨gb278, 3, none⟩) (Kd.R_far (p := ⟨gb278, 2, none⟩) (Kd.R_far (p := ⟨gb278, 1, none⟩) (Kd.R_far (p := ⟨gb278, 0, none⟩) (Kd.R_mono HO_11.out (fun k_ hk => (⟨hk, hk.2⟩ : _ ∧ k_ ≠ gb278))) (fun _ hk => hk.2) (.int .i64 t273)) (fun _ hk => hk.2) (.int .i64 t274)) (fun _ hk => hk.2) (.int .i64 t275)) (fun _ hk => hk.2) (.int .i64 t276)) (fun _ hk => ⟨hk.1.1.1, ⟨hk.1.1.2.1, ⟨hk.1.1.2.2, hk.1.2⟩⟩⟩))); (case aS => exact (below_size (by repeat (first | (with_reducible first | exact HB.out | apply below_alloc | apply pw_below_drewN | apply below_drew1 | refine below_set ?_ GE246.out | refine below_set ?_ GE252.out | refine below_set ?_ GE278.out) | exact HB.out)))); (case aL => have := LMc72.out; omega); intro v280 w80 ho hb hg hat; rw [← Ny279.out] at ho; have n0_ := Aside0.mk (Kd.R_after (ok := (fun k_ => k_ ≠ gb246 ∧ k_ ≠ gb252 ∧ k_ ≠ gb278)) (by (with_reducible repeat (first | apply Kd.R_alloc | apply Kd.R_drewN | apply Kd.R_drew)); exact Kd.R_mono (Kd.R_far (p := ⟨gb278, 3, none⟩) (Kd.R_far (p := ⟨gb278, 2, none⟩) (Kd.R_far (p := ⟨gb278, 1, none⟩) (Kd.R_far (p := ⟨gb278, 0, none⟩) (Kd.R_mono HO_12.out (fun k_ hk => (⟨hk, hk.2⟩ : _ ∧ k_ ≠ gb278))) (fun _ hk => hk.2) (.int .i64 t273)) (fun _ hk => hk.2) (.int .i64 t274)) (fun _ hk => hk.2) (.int .i64 t275)) (fun _ hk => hk.2) (.int .i64 t276)) (fun _ hk => ⟨⟨hk.1.1.2.1, ⟨hk.1.1.2.2, hk.1.2⟩⟩, hk.1.1.1⟩)) hg hat); have n1_ := Aside0.mk (blk_grown (g := gb246) (o := .cells #[.int .i64 a0_0, .int .i64 a0_1, .int .i64 a0_2, .int .i64 a0_3] 23 (0, 0)) (by (with_reducible repeat (first | refine blk_drewN ?_ _ | refine blk_drew ?_ | refine blk_alloc ?_ _)); refine blk_far ?_ NB246_278.out _; (with_reducible repeat (first | refine blk_drewN ?_ _ | refine blk_drew ?_ | refine blk_alloc ?_ _)); refine blk_far ?_ NB246_278.out _; (with_reducible repeat (first | refine blk_drewN ?_ _ | refine blk_drew ?_ | refine blk_alloc ?_ _)); refine blk_far ?_ NB246_278.out _; (with_reducible repeat (first | refine blk_drewN ?_ _ | refine blk_drew ?_ | refine blk_alloc ?_ _)); refine blk_far ?_ NB246_278.out _; (with_reducible repeat (first | refine blk_drewN ?_ _ | refine blk_drew ?_ | refine blk_alloc ?_ _)); exact BK246.out) hg (Kd.R_away HO_11.out (fun _ hk => hk.1.2.1))); have n2_ := Aside0.mk (blk_grown (g := gb252) (o := .cells #[.int .i64 t247, .int .i64 t248, .int .i64 t249, .int .i64 t250] 23 (0, 0)) (by (with_reducible repeat (first | refine blk_drewN ?_ _ | refine blk_drew ?_ | refine blk_alloc ?_ _)); refine blk_far ?_ NB252_278.out _; (with_reducible repeat (first | refine blk_drewN ?_ _ | refine blk_drew ?_ | refine blk_alloc ?_ _)); refine blk_far ?_ NB252_278.out _; (with_reducible repeat (first | refine blk_drewN ?_ _ | refine blk_drew ?_ | refine blk_alloc ?_ _)); refine blk_far ?_ NB252_278.out _; (with_reducible repeat (first | refine blk_drewN ?_ _ | refine blk_drew ?_ | refine blk_alloc ?_ _)); refine blk_far ?_ NB252_278.out _; (with_reducible repeat (first | refine blk_drewN ?_ _ | refine blk_drew ?_ | refine blk_alloc ?_ _)); exact BK252.out) hg (Kd.R_away HO_11.out (fun _ hk => hk.1.2.2))); have n3_ := Aside0.mk (blk_grown (g := gb278) (o := .cells #[.int .i64 t273, .int .i64 t274, .int .i64 t275, .int .i64 t276] 23 (0, 0)) (by (with_reducible repeat (first | refine blk_drewN ?_ _ | refine blk_drew ?_ | refine blk_alloc ?_ _)); refine blk_put (cs := #[.int .i64 t273, .int .i64 t274, .int .i64 t275, .int .i64 0]) ?_ 3 _ rfl; (with_reducible repeat (first | refine blk_drewN ?_ _ | refine blk_drew ?_ | refine blk_alloc ?_ _)); refine blk_put (cs := #[.int .i64 t273, .int .i64 t274, .int .i64 0, .int .i64 0]) ?_ 2 _ rfl; (with_reducible repeat (first | refine blk_drewN ?_ _ | refine blk_drew ?_ | refine blk_alloc ?_ _)); refine blk_put (cs := #[.int .i64 t273, .int .i64 0, .int .i64 0, .int .i64 0]) ?_ 1 _ rfl; (with_reducible repeat (first | refine blk_drewN ?_ _ | refine blk_drew ?_ | refine blk_alloc ?_ _)); refine blk_put (cs := #[.int .i64 0, .int .i64 0, .int .i64 0, .int .i64 0]) ?_ 0 _ rfl; (with_reducible repeat (first | refine blk_drewN ?_ _ | refine blk_drew ?_ | refine blk_alloc ?_ _)); exact BK278.out) hg (Kd.R_away HO_11.out (fun _ hk => hk.2))); have n4_ := Aside0.mk (hb); have n5_ := Aside0.mk (ho); clear HO_12; clear BK246; clear BK252; clear BK278; clear HB; clear HO_11; have HO_12 := n0_; have BK246 := n1_; have BK252 := n2_; have BK278 := n3_; have HB := n4_; have HO281 := n5_; clear n0_ n1_ n2_ n3_ n4_ n5_; clear ho hb hg hat))
             go_roundg k2
             case measure => have := HJ4.out; have := HK2.out; omega
             case rel => exact ⟨(y279), (x12_2), (wrap64 (x13_2 + (rd l2 x42_2))), (wrap64 (x42_2 + 1)), (by first | rfl | (simp; done) | (simp [*]; done)), (by first | rfl | (simp; done) | (simp [*]; done)), H', ⟨by have := HJ4.out; have := HK2.out; omega⟩, ⟨by (with_reducible repeat (first | apply Kd.R_alloc | apply Kd.R_drewN | apply Kd.R_drew)); exact Kd.R_mono HO281.out (fun _ hk => ⟨hk.1, ⟨hk.2.1, hk.2.2.1⟩⟩)⟩, ⟨by (with_reducible repeat (first | apply Kd.R_alloc | apply Kd.R_drewN | apply Kd.R_drew)); exact Kd.R_mono HO_12.out (fun _ hk => ⟨hk.2, ⟨hk.1.1, hk.1.2.1⟩⟩)⟩, ⟨by (with_reducible repeat (first | refine blk_drewN ?_ _ | refine blk_drew ?_ | refine blk_alloc ?_ _)); exact BK246.out⟩, ⟨by (with_reducible repeat (first | refine blk_drewN ?_ _ | refine blk_drew ?_ | refine blk_alloc ?_ _)); exact BK252.out⟩, ⟨by repeat (first | (with_reducible first | exact HB.out | apply below_alloc | apply pw_below_drewN | apply below_drew1 | refine below_set ?_ GE246.out | refine below_set ?_ GE252.out | refine below_set ?_ GE278.out) | exact HB.out)⟩⟩
            ·rw [if_neg c72] at H
             exact absurd H (by simp)
        ·rw [if_neg c26] at H
         exact absurd H (by simp)
       ·rw [if_neg c25] at H
        exact absurd H (by simp)
      ·rw [if_neg c24] at H
       have c24b0 : decide (x42_2 < (l2.length : Int)) = false := decide_eq_false c24
       clear c24
       by_cases c81 : x13_2 = (wrap64 (t247 + t249))
       ·rw [if_pos c81] at H
        have c81b0 : (x13_2 == (wrap64 (t247 + t249))) = true := beq_iff_eq.mpr c81
        have c81b1 : (x13_2 != (wrap64 (t247 + t249))) = false := bne_eq_false_iff_eq.mpr c81
        clear c81
        simp only [Option.some.injEq, Prod.mk.injEq] at H
        obtain ⟨rfl, rfl, rfl⟩ := H
        have hnb82 := NB252_246.out
        have hnc82 := NB246_252.out
        have hcz83_0 : wr.cell? ⟨gb252, 0, none⟩ = some (.int .i64 t247) := (blk_cell BK252.out 0).trans rfl
        have hcz83_1 : wr.cell? ⟨gb252, 1, none⟩ = some (.int .i64 t248) := (blk_cell BK252.out 1).trans rfl
        have hcz83_2 : wr.cell? ⟨gb252, 2, none⟩ = some (.int .i64 t249) := (blk_cell BK252.out 2).trans rfl
        have hcz83_3 : wr.cell? ⟨gb252, 3, none⟩ = some (.int .i64 t250) := (blk_cell BK252.out 3).trans rfl
        have hfz83_0 := blk_frozen BK252.out 0
        have hfz83_1 := blk_frozen BK252.out 1
        have hfz83_2 := blk_frozen BK252.out 2
        have hfz83_3 := blk_frozen BK252.out 3
        go_wp2
        go_ret3
        exact ⟨_, _, by first | rfl | (simp [errW_none, errW_some] <;> rfl) | (simp [*, errW_none, errW_some] <;> rfl), by (with_reducible repeat (first | apply Kd.R_alloc | apply Kd.R_drewN | apply Kd.R_drew)); exact Kd.R_mono HO_11.out (fun _ hk => hk.1), by (with_reducible repeat (first | apply Kd.R_alloc | apply Kd.R_drewN | apply Kd.R_drew)); exact Kd.R_mono HO_12.out (fun _ hk => hk.1), by repeat (first | (with_reducible first | exact HB.out | apply below_alloc | apply pw_below_drewN | apply below_drew1 | refine below_set ?_ GE246.out | refine below_set ?_ GE252.out) | exact HB.out)⟩
       ·rw [if_neg c81] at H
        have c81b0 : (x13_2 == (wrap64 (t247 + t249))) = false := beq_eq_false_iff_ne.mpr c81
        have c81b1 : (x13_2 != (wrap64 (t247 + t249))) = true := bne_iff_ne.mpr c81
        simp only [Option.some.injEq, Prod.mk.injEq] at H
        obtain ⟨rfl, rfl, rfl⟩ := H
        have hnb84 := NB252_246.out
        have hnc84 := NB246_252.out
        have hcz85_0 : wr.cell? ⟨gb252, 0, none⟩ = some (.int .i64 t247) := (blk_cell BK252.out 0).trans rfl
        have hcz85_1 : wr.cell? ⟨gb252, 1, none⟩ = some (.int .i64 t248) := (blk_cell BK252.out 1).trans rfl
        have hcz85_2 : wr.cell? ⟨gb252, 2, none⟩ = some (.int .i64 t249) := (blk_cell BK252.out 2).trans rfl
        have hcz85_3 : wr.cell? ⟨gb252, 3, none⟩ = some (.int .i64 t250) := (blk_cell BK252.out 3).trans rfl
        have hfz85_0 := blk_frozen BK252.out 0
        have hfz85_1 := blk_frozen BK252.out 1
        have hfz85_2 := blk_frozen BK252.out 2
        have hfz85_3 := blk_frozen BK252.out 3
        go_wp2
        go_ret3
        exact ⟨_, _, by first | rfl | (simp [errW_none, errW_some] <;> rfl) | (simp [*, errW_none, errW_some] <;> rfl), by first | exact Kd.R_nil _ _ _ _ _ | exact Kd.N_nil _ _ _ _ _ | exact Kd.V_nil _ _ _ _ _ | exact Kd.Q_nil _ _ _ _ _ | exact Kd.S_nil _ _ _ _ _, by first | exact Kd.R_nil _ _ _ _ _ | exact Kd.N_nil _ _ _ _ _ | exact Kd.V_nil _ _ _ _ _ | exact Kd.Q_nil _ _ _ _ _ | exact Kd.S_nil _ _ _ _ _, by repeat (first | (with_reducible first | exact HB.out | apply below_alloc | apply pw_below_drewN | apply below_drew1 | refine below_set ?_ GE246.out | refine below_set ?_ GE252.out) | exact HB.out)⟩

end Go.Proofs.Ytfdmfgaiblfbhaa.P
namespace Go.Proofs.Ytfdmfgaiblfbhaa.P
open Go.RowKit Go.Proofs.YtfdmfgaiblfbhaaW.PrintWords Go.Proofs.YtfdmfgaiblfbhaaW.PrintLast Go.Proofs.YtfdmfgaiblfbhaaW.PrintMore
attribute [local go_sem] max2_int min2_int max_two min_two max_three min_three max_four min_four   -- for this text's walks alone
set_option linter.unusedVariables false
set_option linter.unusedSimpArgs false

attribute [local go_sem high] eqA23
/-! ### sashlaw04_awake: function 44 -/
def sashlaw04_awake.f (k : Nat)  : Option (Bool) := (rect_Cut.f k 0 0 80 24 1 (([40, 39] : List Int))).bind fun bt285 => (if bt285.2.2 = true then (if (bt285.1.length : Int) = 2 then (if 1 < (bt285.1.length : Int) then (if (((rd_T23 bt285.1 1).f0) == 41 && (((rd_T23 bt285.1 1).f1) == 0 && (((rd_T23 bt285.1 1).f2) == 39 && (((rd_T23 bt285.1 1).f3) == 24)))) = true then (if (bt285.2.1.length : Int) = 1 then (if 0 < (bt285.2.1.length : Int) then (some (((rd_T23 bt285.2.1 0).f0) == 40 && (((rd_T23 bt285.2.1 0).f1) == 0 && (((rd_T23 bt285.2.1 0).f2) == 1 && (((rd_T23 bt285.2.1 0).f3) == 24))))) else (none)) else (some false)) else (some false)) else (none)) else (some false)) else (some false))
theorem sashlaw04_awake.mono : ∀ k, LeO (sashlaw04_awake.f k ) (sashlaw04_awake.f (k + 1) ) := by
 intro  k
 unfold sashlaw04_awake.f
 repeat' first
   | (with_reducible exact rect_Cut.mono _ _ _ _ _ _ _)
   | (with_reducible exact LeO.refl _)
   | (with_reducible exact LeO.none _)
   | (with_reducible refine LeO.ite ?_ ?_)
   | (with_reducible refine LeO.bind ?_ (fun _ => ?_))
   | exact rect_Cut.mono _ _ _ _ _ _ _
   | exact LeO.none _
   | refine LeO.ite ?_ ?_
   | refine LeO.bind ?_ (fun _ => ?_)
end Go.Proofs.Ytfdmfgaiblfbhaa.P
namespace Go.Proofs.Ytfdmfgaiblfbhaa.P
open Go.RowKit Go.Proofs.YtfdmfgaiblfbhaaW.PrintWords Go.Proofs.YtfdmfgaiblfbhaaW.PrintLast Go.Proofs.YtfdmfgaiblfbhaaW.PrintMore
attribute [local go_sem] max2_int min2_int max_two min_two max_three min_three max_four min_four   -- for this text's walks alone
set_option linter.unusedVariables false
set_option linter.unusedSimpArgs false

/-! ### sashref04_May: function 57 -/
def sashref04_May.f (a0_0 : Int) (a0_1 : Int) (a0_2 : Int) (a0_3 : Int) : Option (Bool) := if a0_0 < 0 then (some false) else (if a0_0 > 10000 then (some false) else (if a0_1 < 0 then (some false) else (if a0_1 > 10000 then (some false) else (if a0_2 > 0 then (if a0_2 ≤ 10000 then (if a0_3 > 0 then (if a0_3 ≤ 10000 then (if (wrap64 (a0_0 + a0_2)) ≤ 10000 then (some (decide ((wrap64 (a0_1 + a0_3)) ≤ 10000))) else (some false)) else (some false)) else (some false)) else (some false)) else (some false)))))
end Go.Proofs.Ytfdmfgaiblfbhaa.P
/- May a rectangle be: plain words. -/
namespace Go.Proofs.Ytfdmfgaiblfbhaa.P
open Go.RowKit Go.Proofs.YtfdmfgaiblfbhaaW.PrintWords Go.Proofs.YtfdmfgaiblfbhaaW.PrintLast Go.Proofs.YtfdmfgaiblfbhaaW.PrintMore

theorem wq {x : Int} (h0 : -9223372036854775808 ≤ x) (h1 : x ≤ 9223372036854775807) : wrap64 x = x := by unfold wrap64; omega
theorem ev_pos {α : Type} {c : Prop} [Decidable c] {g f : Nat → Option α} {r : α} (hc : c) (h : Ev g r) : Ev (fun k => if c then g k else f k) r := by simp only [if_pos hc]; exact h
theorem ev_neg {α : Type} {c : Prop} [Decidable c] {g f : Nat → Option α} {r : α} (hc : ¬c) (h : Ev f r) : Ev (fun k => if c then g k else f k) r := by simp only [if_neg hc]; exact h
theorem ev_some {α : Type} {g : Nat → Option α} {r : α} (h : ∀ k, g k = some r) : Ev g r := ⟨0, fun k _ => h k⟩
theorem rd_in (pre : List Int) (p : Int) (rest : List Int) : rd (pre ++ p :: rest) (pre.length : Int) = p := by
  simp [rd, List.getD_eq_getElem?_getD]

/-- May a rectangle be? -/
def mayB (X Y W H : Int) : Bool := decide (0 ≤ X ∧ 1 ≤ W ∧ W ≤ 10000 ∧ X + W ≤ 10000 ∧ 0 ≤ Y ∧ 1 ≤ H ∧ H ≤ 10000 ∧ Y + H ≤ 10000)
theorem may_iff {X Y W H : Int} : mayB X Y W H = true ↔ (0 ≤ X ∧ 1 ≤ W ∧ W ≤ 10000 ∧ X + W ≤ 10000 ∧ 0 ≤ Y ∧ 1 ≤ H ∧ H ≤ 10000 ∧ Y + H ≤ 10000) := by unfold mayB; rw [decide_eq_true_iff]
theorem may_some (X Y W H : Int) : rect_may.f X Y W H = some (mayB X Y W H) := by
  unfold rect_may.f mayB
  by_cases h1 : X ≥ 0
  · by_cases h2 : W ≥ 1
    · by_cases h3 : W ≤ 10000
      · rw [if_pos h1, if_pos h2, if_pos h3, wq (x := 10000 - W) (by omega) (by omega)]
        by_cases h4 : X ≤ 10000 - W
        · rw [if_pos h4]
          by_cases h5 : Y ≥ 0
          · by_cases h6 : H ≥ 1
            · by_cases h7 : H ≤ 10000
              · rw [if_pos h5, if_pos h6, if_pos h7, wq (x := 10000 - H) (by omega) (by omega)]
                congr 1
                rw [decide_eq_decide]
                omega
              · rw [if_pos h5, if_pos h6, if_neg h7, decide_eq_false (by omega)]
            · rw [if_pos h5, if_neg h6, decide_eq_false (by omega)]
          · rw [if_neg h5, decide_eq_false (by omega)]
        · rw [if_neg h4, decide_eq_false (by omega)]
      · rw [if_pos h1, if_pos h2, if_neg h3, decide_eq_false (by omega)]
    · rw [if_pos h1, if_neg h2, decide_eq_false (by omega)]
  · rw [if_neg h1, decide_eq_false (by omega)]
theorem refmay_some (X Y W H : Int) : sashref04_May.f X Y W H = some (mayB X Y W H) := by
  unfold sashref04_May.f mayB
  by_cases h1 : X < 0
  · rw [if_pos h1, decide_eq_false (by omega)]
  · rw [if_neg h1]
    by_cases h2 : X > 10000
    · rw [if_pos h2, decide_eq_false (by omega)]
    · rw [if_neg h2]
      by_cases h3 : Y < 0
      · rw [if_pos h3, decide_eq_false (by omega)]
      · rw [if_neg h3]
        by_cases h4 : Y > 10000
        · rw [if_pos h4, decide_eq_false (by omega)]
        · rw [if_neg h4]
          by_cases h5 : W > 0
          · by_cases h6 : W ≤ 10000
            · by_cases h7 : H > 0
              · by_cases h8 : H ≤ 10000
                · rw [if_pos h5, if_pos h6, if_pos h7, if_pos h8, wq (x := X + W) (by omega) (by omega), wq (x := Y + H) (by omega) (by omega)]
                  by_cases h9 : X + W ≤ 10000
                  · rw [if_pos h9]
                    congr 1
                    rw [decide_eq_decide]
                    omega
                  · rw [if_neg h9, decide_eq_false (by omega)]
                · rw [if_pos h5, if_pos h6, if_pos h7, if_neg h8, decide_eq_false (by omega)]
              · rw [if_pos h5, if_pos h6, if_neg h7, decide_eq_false (by omega)]
            · rw [if_pos h5, if_neg h6, decide_eq_false (by omega)]
          · rw [if_neg h5, decide_eq_false (by omega)]

def mayR (r : S23) : Bool := mayB r.f0 r.f1 r.f2 r.f3
end Go.Proofs.Ytfdmfgaiblfbhaa.P
namespace Go.Proofs.Ytfdmfgaiblfbhaa.P
open Go.RowKit Go.Proofs.YtfdmfgaiblfbhaaW.PrintWords Go.Proofs.YtfdmfgaiblfbhaaW.PrintLast Go.Proofs.YtfdmfgaiblfbhaaW.PrintMore
attribute [local go_sem] max2_int min2_int max_two min_two max_three min_three max_four min_four   -- for this text's walks alone
set_option linter.unusedVariables false
set_option linter.unusedSimpArgs false

/-! ### sashref04_Cut: function 46 -/
mutual
def sashref04_Cut.j0 : Nat → Int → List Int → List (S23) → Bool → Int → Int → Int → Int → Option ((List (S23)) × (List (S23)) × Bool)
 | 0, _, _, _, _, _, _, _, _ => none
 | k + 1, x1, x2, x9, x31, x295000, x295001, x295002, x295003 => if x31 = true then (some (x9, x9, false)) else (if x1 = 2 then (sashref04_Cut.j1 k x1 x2 x9 x295003 x295000 x295001 x295002 x295003) else (sashref04_Cut.j1 k x1 x2 x9 x295002 x295000 x295001 x295002 x295003))
def sashref04_Cut.j1 : Nat → Int → List Int → List (S23) → Int → Int → Int → Int → Int → Option ((List (S23)) × (List (S23)) × Bool)
 | 0, _, _, _, _, _, _, _, _ => none
 | k + 1, x1, x2, x9, x10, x295000, x295001, x295002, x295003 => sashref04_Cut.l0 k x1 x2 x9 x10 (([] : List (S23))) (([] : List (S23))) 0 (x2.length : Int) 0 x295000 x295001 x295002 x295003
def sashref04_Cut.l0 : Nat → Int → List Int → List (S23) → Int → List (S23) → List (S23) → Int → Int → Int → Int → Int → Int → Int → Option ((List (S23)) × (List (S23)) × Bool)
 | 0, _, _, _, _, _, _, _, _, _, _, _, _, _ => none
 | k + 1, x1, x2, x9, x10, x11, x12, x13, x43, x44, x295000, x295001, x295002, x295003 => if x44 < x43 then (if x44 > 0 then (if x1 = 1 then (if x12.length < 4398046511104 then (sashref04_Cut.j3 k x1 x2 x9 x10 x11 (x12 ++ [(⟨wrap64 (x295000 + x13), x295001, 1, x295003⟩ : S23)]) (wrap64 (x13 + 1)) x44 x43 x44 x295000 x295001 x295002 x295003) else (none)) else (if x12.length < 4398046511104 then (sashref04_Cut.j3 k x1 x2 x9 x10 x11 (x12 ++ [(⟨x295000, wrap64 (x295001 + x13), x295002, 1⟩ : S23)]) (wrap64 (x13 + 1)) x44 x43 x44 x295000 x295001 x295002 x295003) else (none))) else (sashref04_Cut.j3 k x1 x2 x9 x10 x11 x12 x13 x44 x43 x44 x295000 x295001 x295002 x295003)) else (if x13 = x10 then (some (x11, x12, true)) else (some (x9, x9, false)))
def sashref04_Cut.j3 : Nat → Int → List Int → List (S23) → Int → List (S23) → List (S23) → Int → Int → Int → Int → Int → Int → Int → Int → Option ((List (S23)) × (List (S23)) × Bool)
 | 0, _, _, _, _, _, _, _, _, _, _, _, _, _, _ => none
 | k + 1, x1, x2, x9, x10, x11, x12, x13, x14, x43, x44, x295000, x295001, x295002, x295003 => if 0 ≤ x14 then (if x14 < (x2.length : Int) then (if (rd x2 x14) < 1 then (sashref04_Cut.j4 k x1 x2 x9 x10 x11 x12 x13 x14 x43 x44 true x295000 x295001 x295002 x295003) else (if (rd x2 x14) > x10 then (sashref04_Cut.j4 k x1 x2 x9 x10 x11 x12 x13 x14 x43 x44 true x295000 x295001 x295002 x295003) else (sashref04_Cut.j4 k x1 x2 x9 x10 x11 x12 x13 x14 x43 x44 (decide ((wrap64 (x13 + (rd x2 x14))) > x10)) x295000 x295001 x295002 x295003))) else (none)) else (none)
def sashref04_Cut.j4 : Nat → Int → List Int → List (S23) → Int → List (S23) → List (S23) → Int → Int → Int → Int → Bool → Int → Int → Int → Int → Option ((List (S23)) × (List (S23)) × Bool)
 | 0, _, _, _, _, _, _, _, _, _, _, _, _, _, _, _ => none
 | k + 1, x1, x2, x9, x10, x11, x12, x13, x14, x43, x44, x99, x295000, x295001, x295002, x295003 => if x99 = true then (some (x9, x9, false)) else (if x1 = 1 then (if 0 ≤ x14 then (if x14 < (x2.length : Int) then (if x11.length < 4398046511104 then (sashref04_Cut.l0 k x1 x2 x9 x10 (x11 ++ [(⟨wrap64 (x295000 + x13), x295001, rd x2 x14, x295003⟩ : S23)]) x12 (wrap64 (x13 + (rd x2 x14))) x43 (wrap64 (x44 + 1)) x295000 x295001 x295002 x295003) else (none)) else (none)) else (none)) else (if 0 ≤ x14 then (if x14 < (x2.length : Int) then (if x11.length < 4398046511104 then (sashref04_Cut.l0 k x1 x2 x9 x10 (x11 ++ [(⟨x295000, wrap64 (x295001 + x13), x295002, rd x2 x14⟩ : S23)]) x12 (wrap64 (x13 + (rd x2 x14))) x43 (wrap64 (x44 + 1)) x295000 x295001 x295002 x295003) else (none)) else (none)) else (none)))
end
def sashref04_Cut.f (k : Nat) (a0_0 : Int) (a0_1 : Int) (a0_2 : Int) (a0_3 : Int) (a1 : Int) (l2 : List Int) : Option ((List (S23)) × (List (S23)) × Bool) := (some (([] : List (S23)) : List (S23))).bind fun y295 => ((sashref04_May.f a0_0 a0_1 a0_2 a0_3).bind fun t298 => (if t298 = true then (if a1 < 1 then (sashref04_Cut.j0 k a1 l2 y295 true a0_0 a0_1 a0_2 a0_3) else (if a1 > 2 then (sashref04_Cut.j0 k a1 l2 y295 true a0_0 a0_1 a0_2 a0_3) else (sashref04_Cut.j0 k a1 l2 y295 ((l2.length : Int) == 0) a0_0 a0_1 a0_2 a0_3))) else (sashref04_Cut.j0 k a1 l2 y295 true a0_0 a0_1 a0_2 a0_3)))
def sashref04_Cut.T20 : Bool × List (List Nat × List Nat) := (true, [([], []), ([], []), ([1], [1]), ([], []), ([2, 3], [2, 3]), ([], []), ([5], [5]), ([], []), ([], []), ([7, 8], [7, 8]), ([9], [9]), ([], []), ([11], [11]), ([4, 6, 10, 12], [4, 6, 10, 12]), ([13], [13]), ([0, 14], [0, 14]), ([15, 15, 0, 1, 2, 3, 4, 5, 6, 7, 8, 9, 10, 11, 12, 13, 14, 15], [0, 15])])
def sashref04_Cut.B20 : List Nat := [0, 0, 2, 0, 14, 0, 32, 0, 0, 384, 896, 0, 2048, 8190, 16382, 32767, 65535]
def sashref04_Cut.T21 : Bool × List (List Nat × List Nat) := (true, [([], []), ([], []), ([1], [1]), ([], []), ([3], [3]), ([], []), ([4, 5], [4, 5]), ([], []), ([7], [7]), ([], []), ([], []), ([9, 10], [9, 10]), ([11], [11]), ([2, 6, 8, 12], [2, 6, 8, 12]), ([13], [13]), ([0, 14], [0, 14]), ([15, 15, 0, 1, 2, 3, 4, 5, 6, 7, 8, 9, 10, 11, 12, 13, 14, 15], [0, 15])])
def sashref04_Cut.B21 : List Nat := [0, 0, 2, 0, 8, 0, 56, 0, 128, 0, 0, 1536, 3584, 8190, 16382, 32767, 65535]
end Go.Proofs.Ytfdmfgaiblfbhaa.P
namespace Go.Proofs.Ytfdmfgaiblfbhaa.P
open Go.RowKit Go.Proofs.YtfdmfgaiblfbhaaW.PrintWords Go.Proofs.YtfdmfgaiblfbhaaW.PrintLast Go.Proofs.YtfdmfgaiblfbhaaW.PrintMore
attribute [local go_sem] max2_int min2_int max_two min_two max_three min_three max_four min_four   -- for this text's walks alone
set_option linter.unusedVariables false
set_option linter.unusedSimpArgs false

attribute [local go_sem high] eqA23
/-! ### sashref04_Same: function 47 -/
def sashref04_Same.l0 : Nat → List (S23) → List (S23) → Int → Int → Option (Bool)
 | 0, _, _, _, _ => none
 | k + 1, x0, x1, x12, x13 => if x13 < x12 then (if 0 ≤ x13 then (if x13 < (x0.length : Int) then (if x13 < (x1.length : Int) then (if (!(((rd_T23 x0 x13).f0) == ((rd_T23 x1 x13).f0)) || (!(((rd_T23 x0 x13).f1) == ((rd_T23 x1 x13).f1)) || (!(((rd_T23 x0 x13).f2) == ((rd_T23 x1 x13).f2)) || (!(((rd_T23 x0 x13).f3) == ((rd_T23 x1 x13).f3)))))) = true then (some false) else (sashref04_Same.l0 k x0 x1 x12 (wrap64 (x13 + 1)))) else (none)) else (none)) else (none)) else (some true)
def sashref04_Same.f (k : Nat) (l0 : List (S23)) (l1 : List (S23)) : Option (Bool) := if (l0.length : Int) = (l1.length : Int) then (sashref04_Same.l0 k l0 l1 (l0.length : Int) 0) else (some false)
end Go.Proofs.Ytfdmfgaiblfbhaa.P
/- How a law's arguments read: cells, rectangles, panes, and rows of these, as plain data. -/
namespace Go.Proofs.Ytfdmfgaiblfbhaa.P
open Go.RowKit Go.Proofs.YtfdmfgaiblfbhaaW.PrintWords Go.Proofs.YtfdmfgaiblfbhaaW.PrintLast Go.Proofs.YtfdmfgaiblfbhaaW.PrintMore
open Go.ChangeShapes Go.WideShapes Go.ChangeAt Go.Joins Go.Deep

/-! ### What is known of the numbers -/
def I64 (n : Int) : Prop := -9223372036854775808 ≤ n ∧ n ≤ 9223372036854775807
def U8 (n : Int) : Prop := 0 ≤ n ∧ n ≤ 255
def U16 (n : Int) : Prop := 0 ≤ n ∧ n ≤ 65535
def wf23 (r : S23) : Prop := I64 r.f0 ∧ I64 r.f1 ∧ I64 r.f2 ∧ I64 r.f3
def wf35 (p : S35) : Prop := I64 p.f0 ∧ wf23 p.f1
def wfn26 : Nat → S26 → Prop
  | 0, _ => False
  | n + 1, c => U8 c.f0 ∧ wf23 c.f1 ∧ I64 c.f2 ∧ c.f3.length ≤ 9223372036854775807 ∧ ∀ k, k ∈ c.f3 → wfn26 n k
def wf26 (c : S26) : Prop := ∃ n, wfn26 n c
section
variable {H : Type} {enc : TypeId × Value → H} {P : Program} {w : World} {base : Nat} {spare : Nat → Bool} {held : Bool}
end
section
variable {H : Type} {enc : TypeId × Value → H} {w : World} {base : Nat} {spare : Nat → Bool} {held : Bool}
theorem i64_of {n : Int} (h : (Lit.int .i64 n).wf = true) : I64 n := by
  have := bounds_i64 h
  unfold I64
  omega
end
end Go.Proofs.Ytfdmfgaiblfbhaa.P
/- Plain words on rectangles: whether one may be, what it is cut into: the code's and the reference's alike. -/
namespace Go.Proofs.Ytfdmfgaiblfbhaa.P
open Go.RowKit Go.Proofs.YtfdmfgaiblfbhaaW.PrintWords Go.Proofs.YtfdmfgaiblfbhaaW.PrintLast Go.Proofs.YtfdmfgaiblfbhaaW.PrintMore

/-- A rectangle's axes, turned where it is cut down. -/
def tX (ax X Y : Int) : Int := if ax = 2 then Y else X
theorem turned_some {ax : Int} (h : ax = 1 ∨ ax = 2) (X Y W H : Int) : rect_turned.f X Y W H ax = some (tX ax X Y, tX ax Y X, tX ax W H, tX ax H W, true) := by
  unfold rect_turned.f tX
  rcases h with rfl | rfl
  · rfl
  · rfl

/-- The parts of a rectangle that is cut: the next one stands at off. -/
def cutP (ax X Y W H : Int) : Int → List Int → List S23
  | _, [] => []
  | off, n :: ns => (⟨tX ax (tX ax X Y + off) (tX ax Y X), tX ax (tX ax Y X) (tX ax X Y + off), tX ax n (tX ax H W), tX ax (tX ax H W) n⟩ : S23) :: cutP ax X Y W H (off + n + 1) ns
theorem cut_both (ax X Y W H : Int) (hax : ax = 1 ∨ ax = 2) (hm : mayB X Y W H = true) (sizes : List Int) (hl : sizes.length ≤ 20000) (hne : 0 < sizes.length) :
    ∀ (rest pre : List Int) (off : Int) (parts lines : List S23), pre ++ rest = sizes → 0 ≤ off → off ≤ 10000 → parts.length ≤ 20000 → lines.length ≤ 20000 → parts.length ≤ pre.length → lines.length ≤ pre.length →
    ∃ t : List S23 × List S23 × Bool, (t.1.length ≤ sizes.length ∧ t.2.1.length ≤ sizes.length) ∧ (t.2.2 = true → t.1 = parts ++ cutP ax X Y W H (if pre.length = 0 then off else off + 1) rest ∧ off + rest.sum + (rest.length : Int) - (if pre.length = 0 then 1 else 0) = tX ax W H ∧ ∀ m, m ∈ rest → 1 ≤ m) ∧ Ev (fun k => rect_Cut.l0 k ax parts lines (tX ax X Y + off) sizes (sizes.length : Int) (pre.length : Int) (tX ax X Y) (tX ax Y X) (tX ax W H) (tX ax H W)) t ∧
      Ev (fun k => sashref04_Cut.l0 k ax sizes [] (tX ax W H) parts lines off (sizes.length : Int) (pre.length : Int) X Y W H) t := by
  replace hm := may_iff.1 hm
  have hb : 0 ≤ tX ax X Y ∧ 1 ≤ tX ax W H ∧ tX ax W H ≤ 10000 ∧ tX ax X Y + tX ax W H ≤ 10000 ∧ tX ax X Y ≤ 10000 := by
    unfold tX
    rcases hax with rfl | rfl
    · rw [if_neg (by omega), if_neg (by omega)]; omega
    · rw [if_pos rfl, if_pos rfl]; omega
  obtain ⟨b1, b2, b3, b4, b5⟩ := hb
  intro rest
  induction rest with
  | nil =>
    intro pre off parts lines he h0 h1 hp hq hp2 hq2
    have e : pre = sizes := by simpa using he
    rw [e] at hp2 hq2
    by_cases ho : off = tX ax W H
    · refine ⟨(parts, lines, true), ⟨hp2, hq2⟩, fun _ => ⟨by simp [cutP], by rw [if_neg (by rw [e]; omega)]; simp; omega, fun m hm => by cases hm⟩, Ev.step (fun k => ?_) (Ev.now _), Ev.step (fun k => ?_) (Ev.now _)⟩
      · simp only [rect_Cut.l0]
        rw [if_neg (by rw [e]; omega), wq (by omega) (by omega), if_pos (by omega)]
      · simp only [sashref04_Cut.l0]
        rw [if_neg (by rw [e]; omega), if_pos ho]
    · refine ⟨([], [], false), ⟨by simp, by simp⟩, fun h => absurd h (by simp), Ev.step (fun k => ?_) (Ev.now _), Ev.step (fun k => ?_) (Ev.now _)⟩
      · simp only [rect_Cut.l0]
        rw [if_neg (by rw [e]; omega), wq (by omega) (by omega), if_neg (by omega)]
      · simp only [sashref04_Cut.l0]
        rw [if_neg (by rw [e]; omega), if_neg ho]
  | cons n rest ih =>
    intro pre off parts lines he h0 h1 hp hq hp2 hq2
    have hlen : sizes.length = pre.length + (rest.length + 1) := by rw [← he]; simp
    have hrd : rd sizes (pre.length : Int) = n := by rw [← he]; exact rd_in pre n rest
    have hi : (pre.length : Int) < (sizes.length : Int) := by omega
    have hi0 : (0 : Int) ≤ (pre.length : Int) := by omega
    have hpl : parts.length < 4398046511104 := Nat.lt_of_le_of_lt hp (by decide)
    have hql : lines.length < 4398046511104 := Nat.lt_of_le_of_lt hq (by decide)
    -- behind the line ahead of this part: off', lines'
    have body : ∀ (off' : Int) (lines' : List S23), 0 ≤ off' → off' ≤ 10001 → lines'.length ≤ pre.length + 1 →
        ∃ t : List S23 × List S23 × Bool, (t.1.length ≤ sizes.length ∧ t.2.1.length ≤ sizes.length) ∧ (t.2.2 = true → t.1 = parts ++ cutP ax X Y W H off' (n :: rest) ∧ off' + (n :: rest).sum + (rest.length : Int) = tX ax W H ∧ ∀ m, m ∈ n :: rest → 1 ≤ m) ∧ Ev (fun k => if n < 1 then (some (([] : List S23), ([] : List S23), false)) else (if n > tX ax W H - off' then (some (([] : List S23), ([] : List S23), false)) else
              (rect_Cut.l0 k ax (parts ++ [(⟨tX ax (tX ax X Y + off') (tX ax Y X), tX ax (tX ax Y X) (tX ax X Y + off'), tX ax n (tX ax H W), tX ax (tX ax H W) n⟩ : S23)]) lines' (tX ax X Y + (off' + n)) sizes (sizes.length : Int) ((pre ++ [n]).length : Int) (tX ax X Y) (tX ax Y X) (tX ax W H) (tX ax H W)))) t ∧
          Ev (fun k => sashref04_Cut.j3 k ax sizes [] (tX ax W H) parts lines' off' (pre.length : Int) (sizes.length : Int) (pre.length : Int) X Y W H) t := by
      intro off' lines' g0 g1 g2
      by_cases hn : n < 1
      · refine ⟨([], [], false), ⟨by simp, by simp⟩, fun h => absurd h (by simp), ev_pos hn (Ev.now _), Ev.step (f := fun k => sashref04_Cut.j4 k ax sizes [] (tX ax W H) parts lines' off' (pre.length : Int) (sizes.length : Int) (pre.length : Int) true X Y W H) (fun k => ?_) (Ev.step (fun k => ?_) (Ev.now _))⟩
        · simp only [sashref04_Cut.j3]
          rw [if_pos hi0, if_pos hi, hrd, if_pos hn]
        · simp only [sashref04_Cut.j4]
          rw [if_pos trivial]
      · by_cases hn2 : n > tX ax W H - off'
        · refine ⟨([], [], false), ⟨by simp, by simp⟩, fun h => absurd h (by simp), ev_neg hn (ev_pos hn2 (Ev.now _)), Ev.step (f := fun k => sashref04_Cut.j4 k ax sizes [] (tX ax W H) parts lines' off' (pre.length : Int) (sizes.length : Int) (pre.length : Int) true X Y W H) (fun k => ?_) (Ev.step (fun k => ?_) (Ev.now _))⟩
          · simp only [sashref04_Cut.j3]
            rw [if_pos hi0, if_pos hi, hrd, if_neg hn]
            by_cases hn3 : n > tX ax W H
            · rw [if_pos hn3]
            · rw [if_neg hn3, wq (by omega) (by omega), decide_eq_true (by omega)]
          · simp only [sashref04_Cut.j4]
            rw [if_pos trivial]
        · obtain ⟨t, t0, tg, t1, t2⟩ := ih (pre ++ [n]) (off' + n) (parts ++ [(⟨tX ax (tX ax X Y + off') (tX ax Y X), tX ax (tX ax Y X) (tX ax X Y + off'), tX ax n (tX ax H W), tX ax (tX ax H W) n⟩ : S23)]) lines' (by simp [← he]) (by omega) (by omega) (by simp; omega) (by omega) (by simp; omega) (by simp; omega)
          refine ⟨t, t0, fun h => ?_, ev_neg hn (ev_neg hn2 t1), Ev.step (f := fun k => sashref04_Cut.j4 k ax sizes [] (tX ax W H) parts lines' off' (pre.length : Int) (sizes.length : Int) (pre.length : Int) false X Y W H) (fun k => ?_) (Ev.step (fun k => ?_) t2)⟩
          · obtain ⟨q1, q2, q3⟩ := tg h
            rw [if_neg (by simp)] at q1 q2
            refine ⟨by rw [q1, List.append_assoc]; rfl, by rw [List.sum_cons]; omega, fun m hm => ?_⟩
            rcases List.mem_cons.1 hm with rfl | hm
            · omega
            · exact q3 m hm
          · simp only [sashref04_Cut.j3]
            rw [if_pos hi0, if_pos hi, hrd, if_neg hn, if_neg (by omega), wq (by omega) (by omega), decide_eq_false (by omega)]
          · have hi1 : wrap64 ((pre.length : Int) + 1) = ((pre ++ [n]).length : Int) := by rw [wq (by omega) (by omega)]; simp
            have ho1 : wrap64 (off' + n) = off' + n := wq (by omega) (by omega)
            simp only [sashref04_Cut.j4]
            rw [if_neg (by simp)]
            simp only [if_pos hi0, if_pos hi, if_pos hpl, hrd, hi1, ho1]
            rcases hax with rfl | rfl
            · rw [if_pos rfl, wq (by omega) (by omega)]
              simp [tX]
            · rw [if_neg (by omega), wq (by omega) (by omega)]
              simp [tX]
    by_cases hz : (pre.length : Int) > 0
    · obtain ⟨t, t0, tg, t1, t2⟩ := body (off + 1) (lines ++ [(⟨tX ax (tX ax X Y + off) (tX ax Y X), tX ax (tX ax Y X) (tX ax X Y + off), tX ax 1 (tX ax H W), tX ax (tX ax H W) 1⟩ : S23)]) (by omega) (by omega) (by simp; omega)
      have ho1 : wrap64 (tX ax X Y + off + 1) = tX ax X Y + (off + 1) := by rw [wq (by omega) (by omega)]; omega
      have ho2 : wrap64 (tX ax X Y + tX ax W H) = tX ax X Y + tX ax W H := wq (by omega) (by omega)
      have ho3 : wrap64 (tX ax X Y + tX ax W H - (tX ax X Y + (off + 1))) = tX ax W H - (off + 1) := by rw [wq (by omega) (by omega)]; omega
      have ho4 : wrap64 (off + 1) = off + 1 := wq (by omega) (by omega)
      refine ⟨t, t0, fun h => by obtain ⟨q1, q2, q3⟩ := tg h; rw [if_neg (by omega), if_neg (by omega)]; exact ⟨q1, by rw [List.length_cons]; omega, q3⟩, Ev.step (fun k => ?_) t1, Ev.step (fun k => ?_) t2⟩
      · simp only [rect_Cut.l0]
        rw [if_pos hi, if_pos hi0, if_pos hi, if_pos hz, turned_some hax]
        simp only [Option.bind_some]
        rw [if_pos hql, hrd, ho1, ho2, ho3]
        by_cases hn : n < 1
        · rw [if_pos hn, if_pos hn]
        · rw [if_neg hn, if_neg hn]
          by_cases hn2 : n > tX ax W H - (off + 1)
          · rw [if_pos hn2, if_pos hn2]
          · have hi1 : wrap64 ((pre.length : Int) + 1) = ((pre ++ [n]).length : Int) := by rw [wq (by omega) (by omega)]; simp
            have ho5 : wrap64 (tX ax X Y + (off + 1) + n) = tX ax X Y + (off + 1 + n) := by rw [wq (by omega) (by omega)]; omega
            rw [if_neg hn2, if_neg hn2, turned_some hax]
            simp only [Option.bind_some]
            rw [if_pos hpl, hi1, ho5]
      · simp only [sashref04_Cut.l0]
        rw [if_pos hi, if_pos hz, ho4]
        rcases hax with rfl | rfl
        · rw [if_pos rfl, if_pos hql, wq (by omega) (by omega)]
          simp [tX]
        · rw [if_neg (by omega), if_pos hql, wq (by omega) (by omega)]
          simp [tX]
    · obtain ⟨t, t0, tg, t1, t2⟩ := body off lines h0 (by omega) (by omega)
      have ho2 : wrap64 (tX ax X Y + tX ax W H) = tX ax X Y + tX ax W H := wq (by omega) (by omega)
      have ho3 : wrap64 (tX ax X Y + tX ax W H - (tX ax X Y + off)) = tX ax W H - off := by rw [wq (by omega) (by omega)]; omega
      refine ⟨t, t0, fun h => by obtain ⟨q1, q2, q3⟩ := tg h; rw [if_pos (by omega), if_pos (by omega)]; exact ⟨q1, by rw [List.length_cons]; omega, q3⟩, Ev.step (fun k => ?_) t1, Ev.step (fun k => ?_) t2⟩
      · simp only [rect_Cut.l0]
        rw [if_pos hi, if_pos hi0, if_pos hi, if_neg hz, hrd, ho2, ho3]
        by_cases hn : n < 1
        · rw [if_pos hn, if_pos hn]
        · rw [if_neg hn, if_neg hn]
          by_cases hn2 : n > tX ax W H - off
          · rw [if_pos hn2, if_pos hn2]
          · have hi1 : wrap64 ((pre.length : Int) + 1) = ((pre ++ [n]).length : Int) := by rw [wq (by omega) (by omega)]; simp
            have ho5 : wrap64 (tX ax X Y + off + n) = tX ax X Y + (off + n) := by rw [wq (by omega) (by omega)]; omega
            rw [if_neg hn2, if_neg hn2, turned_some hax]
            simp only [Option.bind_some]
            rw [if_pos hpl, hi1, ho5]
      · simp only [sashref04_Cut.l0]
        rw [if_pos hi, if_neg hz]

/-- Two rows of rectangles, held against each other. -/
theorem rsame_ev (xs : List S23) (hl : xs.length ≤ 9223372036854775807) : Ev (fun k => sashref04_Same.f k xs xs) true := by
  have key : ∀ (d i : Nat), i + d = xs.length → Ev (fun k => sashref04_Same.l0 k xs xs (xs.length : Int) (i : Int)) true := by
    intro d
    induction d with
    | zero =>
      intro i hi
      refine Ev.step (fun k => ?_) (Ev.now _)
      simp only [sashref04_Same.l0]
      rw [if_neg (by omega)]
    | succ d ih =>
      intro i hi
      have c1 : (i : Int) < (xs.length : Int) := by omega
      have c2 : (0 : Int) ≤ (i : Int) := by omega
      have c3 : wrap64 ((i : Int) + 1) = ((i + 1 : Nat) : Int) := by rw [wq (by omega) (by omega)]; omega
      refine Ev.step (fun k => ?_) (ih (i + 1) (by omega))
      simp only [sashref04_Same.l0]
      simp only [if_pos c1, if_pos c2, c3]
      rw [if_neg (by simp)]
  refine Ev.congr (fun k => ?_) (key xs.length 0 (by omega))
  unfold sashref04_Same.f
  rw [if_pos rfl]
  rfl
theorem awake04 : Ev (fun k => sashlaw04_awake.f k) true := Ev.of (k := 30) (fun k => sashlaw04_awake.mono k) (by decide +kernel)
end Go.Proofs.Ytfdmfgaiblfbhaa.P
namespace Go.Proofs.Ytfdmfgaiblfbhaa.P
open Go.RowKit Go.Proofs.YtfdmfgaiblfbhaaW.PrintWords Go.Proofs.YtfdmfgaiblfbhaaW.PrintLast Go.Proofs.YtfdmfgaiblfbhaaW.PrintMore
attribute [local go_sem] max2_int min2_int max_two min_two max_three min_three max_four min_four   -- for this text's walks alone
set_option linter.unusedVariables false
set_option linter.unusedSimpArgs false

/-! ### sashlaw04_RectCuts: function 5 -/
def sashlaw04_RectCuts.f (k : Nat) (a0_0 : Int) (a0_1 : Int) (a0_2 : Int) (a0_3 : Int) (a1 : Int) (l2 : List Int) : Option (Bool) := if (l2.length : Int) > 100 then ((sashlaw04_awake.f k).bind fun t327 => (some t327)) else ((rect_Cut.f k a0_0 a0_1 a0_2 a0_3 a1 l2).bind fun bt328 => ((sashref04_Cut.f k a0_0 a0_1 a0_2 a0_3 a1 l2).bind fun bt335 => (if (bt328.2.2 == bt335.2.2) = true then ((sashref04_Same.f k bt328.1 bt335.1).bind fun t342 => (if t342 = true then ((sashref04_Same.f k bt328.2.1 bt335.2.1).bind fun t343 => (if t343 = true then ((sashlaw04_awake.f k).bind fun t344 => (some t344)) else (some false))) else (some false))) else (some false))))
end Go.Proofs.Ytfdmfgaiblfbhaa.P
/- RectCuts, the plain law: what any rectangle is cut into, or that it can't be, is the reference's. No condition. -/
namespace Go.Proofs.Ytfdmfgaiblfbhaa.Pure
open Go.RowKit Go.Proofs.Ytfdmfgaiblfbhaa.P Go.Proofs.YtfdmfgaiblfbhaaW.PrintWords Go.Proofs.YtfdmfgaiblfbhaaW.PrintLast Go.Proofs.YtfdmfgaiblfbhaaW.PrintMore

/-- Both answer alike; the rows are no longer than the sizes are many. -/
theorem cut_alike (X Y W H ax : Int) (hax : U8 ax) (sizes : List Int) (hl : sizes.length ≤ 20000) : ∃ t : List S23 × List S23 × Bool, (t.1.length ≤ sizes.length ∧ t.2.1.length ≤ sizes.length) ∧ (t.2.2 = true → (ax = 1 ∨ ax = 2) ∧ t.1 = cutP ax X Y W H 0 sizes ∧ sizes.sum + (sizes.length : Int) - 1 = tX ax W H ∧ ∀ m, m ∈ sizes → 1 ≤ m) ∧ Ev (fun k => rect_Cut.f k X Y W H ax sizes) t ∧ Ev (fun k => sashref04_Cut.f k X Y W H ax sizes) t := by
  have no1 : ∀ x y z u : Int, Ev (fun k => rect_Cut.j0 k ax sizes true x y z u) ([], [], false) := fun x y z u => by
    refine Ev.step (fun k => ?_) (Ev.now _)
    simp only [rect_Cut.j0]
    rw [if_pos trivial]
  have no2 : Ev (fun k => sashref04_Cut.j0 k ax sizes [] true X Y W H) ([], [], false) := by
    refine Ev.step (fun k => ?_) (Ev.now _)
    simp only [sashref04_Cut.j0]
    rw [if_pos trivial]
  have e2 : ∀ r, Ev (fun k => if mayB X Y W H = true then (if ax < 1 then (sashref04_Cut.j0 k ax sizes [] true X Y W H) else (if ax > 2 then (sashref04_Cut.j0 k ax sizes [] true X Y W H) else (sashref04_Cut.j0 k ax sizes [] ((sizes.length : Int) == 0) X Y W H))) else (sashref04_Cut.j0 k ax sizes [] true X Y W H)) r → Ev (fun k => sashref04_Cut.f k X Y W H ax sizes) r := fun r h => by
    refine Ev.congr (fun k => ?_) h
    unfold sashref04_Cut.f
    rw [refmay_some]
    rfl
  unfold U8 at hax
  by_cases ha : ax = 1 ∨ ax = 2
  · have e1 : ∀ r, Ev (fun k => if mayB X Y W H = true then (rect_Cut.j0 k ax sizes ((sizes.length : Int) == 0) (tX ax X Y) (tX ax Y X) (tX ax W H) (tX ax H W)) else (rect_Cut.j0 k ax sizes true (tX ax X Y) (tX ax Y X) (tX ax W H) (tX ax H W))) r → Ev (fun k => rect_Cut.f k X Y W H ax sizes) r := fun r h => by
      refine Ev.congr (fun k => ?_) h
      unfold rect_Cut.f
      rw [turned_some ha]
      simp only [Option.bind_some]
      rw [if_pos trivial, may_some]
      rfl
    by_cases hm : mayB X Y W H = true
    · by_cases hs : sizes = []
      · subst hs
        exact ⟨([], [], false), ⟨by simp, by simp⟩, fun h => absurd h (by simp), e1 _ (ev_pos hm (no1 _ _ _ _)), e2 _ (ev_pos hm (ev_neg (by omega) (ev_neg (by omega) no2)))⟩
      · have hpos : 0 < sizes.length := List.length_pos_iff.2 hs
        have hz : ((sizes.length : Int) == 0) = false := by simp; exact hs
        obtain ⟨t, t0, tg, t1, t2⟩ := cut_both ax X Y W H ha hm sizes hl hpos sizes [] 0 [] [] rfl (by omega) (by omega) (by simp) (by simp) (by simp) (by simp)
        refine ⟨t, t0, fun h => by obtain ⟨q1, q2, q3⟩ := tg h; rw [if_pos List.length_nil] at q1 q2; exact ⟨ha, by simpa using q1, by omega, q3⟩, e1 _ (ev_pos hm ?_), e2 _ (ev_pos hm (ev_neg (by omega) (ev_neg (by omega) ?_)))⟩
        · rw [hz]
          refine Ev.step (fun k => ?_) t1
          simp only [rect_Cut.j0]
          rw [if_neg (by simp), Int.add_zero]
          rfl
        · rw [hz]
          refine Ev.step (f := fun k => sashref04_Cut.j1 k ax sizes [] (tX ax W H) X Y W H) (fun k => ?_) (Ev.step (fun k => ?_) t2)
          · simp only [sashref04_Cut.j0]
            rw [if_neg (by simp)]
            rcases ha with rfl | rfl
            · rw [if_neg (by omega)]; rfl
            · rw [if_pos rfl]; rfl
          · simp only [sashref04_Cut.j1]
            rfl
    · exact ⟨([], [], false), ⟨by simp, by simp⟩, fun h => absurd h (by simp), e1 _ (ev_neg hm (no1 _ _ _ _)), e2 _ (ev_neg hm no2)⟩
  · refine ⟨([], [], false), ⟨by simp, by simp⟩, fun h => absurd h (by simp), Ev.congr (f := fun k => rect_Cut.j0 k ax sizes true 0 0 0 0) (fun k => ?_) (no1 _ _ _ _), e2 _ ?_⟩
    · unfold rect_Cut.f rect_turned.f
      rw [if_neg (by omega), if_neg (by omega)]
      rfl
    · by_cases hm : mayB X Y W H = true
      · refine ev_pos hm ?_
        by_cases h1 : ax < 1
        · exact ev_pos h1 no2
        · exact ev_neg h1 (ev_pos (by omega) no2)
      · exact ev_neg hm no2
theorem RectCuts : ∀ (a0 : S23) (a1 : Int) (a2 : List Int), wf23 a0 → U8 a1 → a2.length ≤ 9223372036854775807 → (∀ x, x ∈ a2 → I64 x) → ∃ k, sashlaw04_RectCuts.f k a0.f0 a0.f1 a0.f2 a0.f3 a1 a2 = some true := by
  intro r ax sizes _ hax _ _
  refine Ev.rounds (g := fun k => sashlaw04_RectCuts.f k r.f0 r.f1 r.f2 r.f3 ax sizes) ?_
  have aw : Ev (fun k => (sashlaw04_awake.f k).bind fun t => some t) true := Ev.bind awake04 (Ev.now _)
  unfold sashlaw04_RectCuts.f
  by_cases h : (sizes.length : Int) > 100
  · exact ev_pos h aw
  · refine ev_neg h ?_
    obtain ⟨t, ⟨l1, l2⟩, _, t1, t2⟩ := cut_alike r.f0 r.f1 r.f2 r.f3 ax hax sizes (by omega)
    refine Ev.bind t1 (Ev.bind t2 (ev_pos (by simp) ?_))
    exact Ev.bind (rsame_ev _ (by omega)) (ev_pos rfl (Ev.bind (rsame_ev _ (by omega)) (ev_pos rfl aw)))
end Go.Proofs.Ytfdmfgaiblfbhaa.Pure
/- Two rows, place by place: plain data. -/
namespace Go.Proofs.Ytfdmfgaiblfbhaa.P
open Go.RowKit Go.Proofs.YtfdmfgaiblfbhaaW.PrintWords Go.Proofs.YtfdmfgaiblfbhaaW.PrintLast Go.Proofs.YtfdmfgaiblfbhaaW.PrintMore
def eqL {α β : Type} (r : α → β → Bool) : List α → List β → Bool
  | a :: ta, b :: tb => r a b && eqL r ta tb
  | [], _ => true
  | _ :: _, [] => true
theorem eqL_at {α β : Type} (r : α → β → Bool) (za : α) (zb : β) (la : List α) (lb : List β) (k : Nat) (ha : k < la.length) (hb : k < lb.length) :
    eqL r (la.drop k) (lb.drop k) = (r (la.getD (k : Int).toNat za) (lb.getD (k : Int).toNat zb) && eqL r (la.drop (k + 1)) (lb.drop (k + 1))) := by
  rw [List.drop_eq_getElem_cons ha, List.drop_eq_getElem_cons hb]
  simp only [eqL, Int.toNat_natCast, List.getD_eq_getElem?_getD, List.getElem?_eq_getElem ha, List.getElem?_eq_getElem hb, Option.getD_some]
theorem eqL_nil {α β : Type} (r : α → β → Bool) (lb : List β) : eqL r ([] : List α) lb = true := by cases lb <;> rfl
end Go.Proofs.Ytfdmfgaiblfbhaa.P
/- A store into a block of one's own, as an event: the world behind it is a letter. -/
namespace Go.Proofs.Ytfdmfgaiblfbhaa.P
open Go.RowKit Go.Proofs.YtfdmfgaiblfbhaaW.PrintWords Go.Proofs.YtfdmfgaiblfbhaaW.PrintLast Go.Proofs.YtfdmfgaiblfbhaaW.PrintMore
section
variable {P : Program} {ops : Array Oper} {rest : List Oper} {o : Oper} {a : Act} {Q : Exit → Act → World → Prop}
theorem grown_below {w0 W w1 : World} {g base : Nat} (HB : Below base w0 W) (hg : W.grownBy w1 (some g)) (hbg : base ≤ g) (hs : base ≤ W.heap.size) : Below base w0 w1 := HB.trans ⟨hg.os, hg.tape, hg.output, hg.size, fun k hk => hg.block k (by omega) (fun he => by injection he with he; omega)⟩
/-- What a store into block g leaves. -/
theorem box_cells {W : World} {g j : Nat} {cs cs' : Array Value} {t0 : TypeId} {seg : List Value} (hb : W.heap[g]? = some (.cells cs t0 (0, 0))) (hj : j + seg.length ≤ cs.size) (he : cs.toList.take j ++ seg ++ cs.toList.drop (j + seg.length) = cs'.toList) :
    (W.setCells g j seg).heap[g]? = some (.cells cs' t0 (0, 0)) ∧ W.grownBy (W.setCells g j seg) (some g) := by
  obtain ⟨cur', h3, h4, h5⟩ := setCells_row seg j W cs hb hj
  obtain ⟨s1, s2, s3, s4⟩ := setCells_same g seg j W
  have hc : cur' = cs' := Array.toList_inj.1 (h5.trans he)
  subst hc
  exact ⟨h3, ⟨s1, s2, s3, by rw [s4]; exact Nat.le_refl _, fun k _ hk => setCells_far seg _ k (fun e => hk (by rw [e]))⟩⟩
theorem box_store {W w0 : World} (hN : o.dst = none) (hgd : o.guard = none) (t : TypeId) (p x : Operand) (ho : o.op = .store t p x) {g j base : Nat} {cs : Array Value} (cs' : Array Value) {t0 : TypeId} {u : Value} {seg : List Value}
    (haddr : a.eval p = .pointer (some ⟨g, j, none⟩)) (hx : a.eval x = u) (hu : u.cells.toList = seg) (ht : (P.info? t).map (·.size) = some seg.length) (h1 : ∀ q ∈ seg, q.oneCell' = true)
    (hb : W.heap[g]? = some (.cells cs t0 (0, 0))) (hj : j + seg.length ≤ cs.size) (he : cs.toList.take j ++ seg ++ cs.toList.drop (j + seg.length) = cs'.toList) (HB : Below base w0 W) (hbs : base ≤ W.heap.size) (hbg : base ≤ g)
    (h : ∀ w1, w1.heap[g]? = some (.cells cs' t0 (0, 0)) → Below base w0 w1 → W.grownBy w1 (some g) → wpList P ops Q rest a w1) : wpList P ops Q (o :: rest) a W := by
  obtain ⟨h2, h3⟩ := box_cells hb hj he
  refine wpList_plain hgd fun K hK => ?_
  have hrun := run_store_run (P := P) t u seg hb hu ht hj h1
  unfold Oper.wp execOp
  simp only [ho, haddr, hx, Sem.run_bind, Sem.run_pure, Result.andThen_ok, hrun]
  show K (a.put o.dst undef) _
  rw [hN]
  exact hK a _ (h _ h2 (grown_below HB h3 hbg hbs) h3)
theorem store_exec {W : World} (t : TypeId) (p x : Operand) (ho : o.op = .store t p x) {g j : Nat} {cs : Array Value} {t0 : TypeId} {u : Value} {seg : List Value}
    (haddr : a.eval p = .pointer (some ⟨g, j, none⟩)) (hx : a.eval x = u) (hu : u.cells.toList = seg) (ht : (P.info? t).map (·.size) = some seg.length) (h1 : ∀ q ∈ seg, q.oneCell' = true)
    (hb : W.heap[g]? = some (.cells cs t0 (0, 0))) (hj : j + seg.length ≤ cs.size) : (execOp a.eval o).run P W = .ok .skip (W.setCells g j seg) := by
  have hrun := run_store_run (P := P) t u seg hb hu ht hj h1
  unfold execOp
  simp only [ho, haddr, hx, Sem.run_bind, Sem.run_pure, Result.andThen_ok, hrun]
end
/-- A row of the call's own, told of two blocks that stood. -/
theorem N_fresh2 {α : Type} {d : Kd α} {e base b c : Nat} {P : Nat → Prop} {W w1 : World} {v : Value} {xs : List α} (h : Kd.N d e w1 W.heap.size (fun k => ((P k ∧ k ≠ b) ∧ k ≠ c) ∨ W.heap.size ≤ k) v xs) (hb : b < W.heap.size) (hc : c < W.heap.size) (hs : base ≤ W.heap.size) :
    Kd.N d e w1 base (fun k => ((P k ∨ base ≤ k) ∧ k ≠ b) ∧ k ≠ c) v xs :=
  Kd.N_lower (Kd.N_mono h (fun k hk => hk.elim (fun q => ⟨⟨.inl q.1.1, q.1.2⟩, q.2⟩) (fun q => ⟨⟨.inr (by omega), by omega⟩, by omega⟩))) hs
end Go.Proofs.Ytfdmfgaiblfbhaa.P
/- slices.EqualFunc at cells (function 211): what it answers, with any test that only reads. -/
namespace Go.Proofs.Ytfdmfgaiblfbhaa.P
open Go.RowKit Go.Proofs.YtfdmfgaiblfbhaaW.PrintWords Go.Proofs.YtfdmfgaiblfbhaaW.PrintLast Go.Proofs.YtfdmfgaiblfbhaaW.PrintMore
set_option linter.unusedVariables false
set_option linter.unusedSimpArgs false
set_option maxHeartbeats 4000000 in
set_option maxRecDepth 100000 in
theorem eqf211 (r : S26 → S23 → Bool) (g : Nat) (eg : ∀ args w, (callFunc g args).run Try.prog w = .ok (.enter g args) w) (la : List S26) (lb : List S23) (A B : Option Addr) (ca cb : Nat) (w : World) (hA : Kd.C k26 w A la.length la) (hB : Kd.C k23 w B lb.length lb)
    (hcall : ∀ W (x : S26) (X : Option Addr) (cx : Nat) (y : S23), x ∈ la → Below w.heap.size w W → Kd.C k26 w X x.f3.length x.f3 → x.f3.length ≤ cx → Calls Try.prog g #[.agg #[.int .u8 x.f0, .int .i64 x.f1.f0, .int .i64 x.f1.f1, .int .i64 x.f1.f2, .int .i64 x.f1.f3, .int .i64 x.f2, .slice X x.f3.length cx], .agg #[.int .i64 y.f0, .int .i64 y.f1, .int .i64 y.f2, .int .i64 y.f3]] W fun e w' => e = .returned (.bool (r x y)) ∧ Below W.heap.size W w') :
    Calls Try.prog 211 #[.slice A la.length ca, .slice B lb.length cb, .func (.func g) #[] #[]] w fun e w' => e = .returned (.bool (la.length == lb.length && eqL r la lb)) ∧ Below w.heap.size w w' := by
  have HA := Aside0.mk hA
  have HLB := Aside0.mk hB
  have HC := Aside0.mk hcall
  have HB := Aside0.mk (Below.refl w.heap.size w)
  have HL := Aside0.mk (show la.length ≤ 9223372036854775807 from hA.2.1)
  clear hA hB hcall
  by_cases hl : la.length = lb.length
  · have hl1 : ((la.length : Int) != (lb.length : Int)) = false := by simp [hl]
    have hl2 : (la.length == lb.length) = true := by simp [hl]
    rw [hl2, Bool.true_and]
    have HE := Aside0.mk hl
    clear hl hl2
    go_enter Try.func211, Try.ntmps211
    go_wp2
    go_loopg [17] la.length (fun gg v17 wr => ∃ (kk : Nat), kk ≤ la.length ∧ la.length - kk ≤ gg ∧ v17 = .int .i64 kk ∧ Aside0 (eqL r la lb = eqL r (la.drop kk) (lb.drop kk)) ∧ Aside0 (Below w.heap.size w wr))
    case atStart => exact ⟨0, Nat.zero_le _, by omega, rfl, ⟨by simp⟩, HB⟩
    case round =>
      clear HB
      obtain ⟨kk, hkk, hgg, rfl, HS, HB⟩ := hrel
      by_cases hlt : kk < la.length
      · have hltz : (kk : Int) < (la.length : Int) := by omega
        have hltb : (kk : Int) < (lb.length : Int) := by have := HE.out; omega
        have hw : wrap64 ((kk : Int) + 1) = ((kk + 1 : Nat) : Int) := by unfold wrap64; have := HL.out; omega
        have HX := Aside0.mk (eqL_at r z26 z23 la lb kk hlt (by omega))
        have hmem : rd_T26 la (kk : Int) ∈ la := scan_mem z26 la kk hlt
        obtain ⟨cd, X, cx, rfl, c0, c1, c2, c3, c4, c5, c6, cl, cg⟩ := at_T26 HA.out (kk : Int) (by omega) hltz
        obtain ⟨dd, rfl, d0, d1, d2, d3⟩ := at_T23 HLB.out (kk : Int) (by omega) hltb
        simp only [Int.toNat_natCast] at c0 c1 c2 c3 c4 c5 c6 d0 d1 d2 d3
        replace c0 := (HB.out.cell (World.block_lt_of_cell? w _ c0)).trans c0
        replace c1 := (HB.out.cell (World.block_lt_of_cell? w _ c1)).trans c1
        replace c2 := (HB.out.cell (World.block_lt_of_cell? w _ c2)).trans c2
        replace c3 := (HB.out.cell (World.block_lt_of_cell? w _ c3)).trans c3
        replace c4 := (HB.out.cell (World.block_lt_of_cell? w _ c4)).trans c4
        replace c5 := (HB.out.cell (World.block_lt_of_cell? w _ c5)).trans c5
        replace c6 := (HB.out.cell (World.block_lt_of_cell? w _ c6)).trans c6
        have D0 := Aside0.mk d0
        have D1 := Aside0.mk d1
        have D2 := Aside0.mk d2
        have D3 := Aside0.mk d3
        clear d0 d1 d2 d3
        have HX := Aside0.mk (show eqL r (la.drop kk) (lb.drop kk) = (r (rd_T26 la (kk : Int)) (rd_T23 lb (kk : Int)) && eqL r (la.drop (kk + 1)) (lb.drop (kk + 1))) from HX.out)
        have cG := Aside0.mk cg
        have cL := Aside0.mk cl
        clear cg cl
        have HM := Aside0.mk hmem
        clear hmem
        generalize rd_T26 la (kk : Int) = x at *
        generalize rd_T23 lb (kk : Int) = y at *
        have HCx := Aside0.mk (fun W hW => HC.out W x X cx y HM.out hW cG.out cL.out )
        have HW := Aside0.mk hw
        have HKK := Aside0.mk (show kk + 1 ≤ la.length from hlt)
        have HGG := Aside0.mk hgg
        clear hw hlt hgg hkk HM
        go_wp2_with (first
          | ((with_reducible refine gate_dst (N := 8) rfl ?_); refine box_event ?hg (N := 8) ?hd (cs := #[.int .u8 0, .int .i64 0, .int .i64 0, .int .i64 0, .int .i64 0, .int .i64 0, .slice none 0 0]) (t := 26) ?hr ?_; (case hd => rfl); (case hg => rfl); (case hr => first | (go_simp; done) | (go_simp; rfl)); intro b8 hg wb8 hbox hb; have K8 := Aside0.mk hbox; have G8 := Aside0.mk (show w.heap.size ≤ b8 by rw [hg]; exact HB.out.size); have q_ := Aside0.mk (below_step HB.out hb); clear HB; have HB := q_; clear q_; clear hb hbox hg)
          | ((with_reducible refine gate_ (.store 26 (.tmp 8) (.tmp 21)) rfl ?_); go_loud (refine box_store (w0 := w) rfl rfl 26 (.tmp 8) (.tmp 21) rfl (g := b8) (j := 0) (base := w.heap.size) #[.int .u8 x.f0, .int .i64 x.f1.f0, .int .i64 x.f1.f1, .int .i64 x.f1.f2, .int .i64 x.f1.f3, .int .i64 x.f2, .slice X x.f3.length cx] (u := .agg #[.int .u8 x.f0, .int .i64 x.f1.f0, .int .i64 x.f1.f1, .int .i64 x.f1.f2, .int .i64 x.f1.f3, .int .i64 x.f2, .slice X x.f3.length cx]) (seg := [.int .u8 x.f0, .int .i64 x.f1.f0, .int .i64 x.f1.f1, .int .i64 x.f1.f2, .int .i64 x.f1.f3, .int .i64 x.f2, .slice X x.f3.length cx]) ?sA ?sX rfl ?sT ?s1 K8.out ?sJ rfl HB.out HB.out.size G8.out ?_; (case sA => rfl); (case sX => rfl); (case sT => rfl); (case s1 => (simp [Value.oneCell'])); (case sJ => (first | decide | simp)); intro ws8 hbk hbb hgg; clear K8 HB; have K8 := Aside0.mk hbk; have HB := Aside0.mk hbb; clear hbk hbb hgg; clear c0 c1 c2 c3 c4 c5 c6; have d0 := (HB.out.cell (World.block_lt_of_cell? w _ D0.out)).trans D0.out; have d1 := (HB.out.cell (World.block_lt_of_cell? w _ D1.out)).trans D1.out; have d2 := (HB.out.cell (World.block_lt_of_cell? w _ D2.out)).trans D2.out; have d3 := (HB.out.cell (World.block_lt_of_cell? w _ D3.out)).trans D3.out))
          | ((with_reducible refine gate_dst (N := 9) rfl ?_); refine box_event ?hg (N := 9) ?hd (cs := #[.int .i64 0, .int .i64 0, .int .i64 0, .int .i64 0]) (t := 23) ?hr ?_; (case hd => rfl); (case hg => rfl); (case hr => first | (go_simp; done) | (go_simp; rfl)); intro b9 hg wb9 hbox hb; have K9 := Aside0.mk hbox; have G9 := Aside0.mk (show w.heap.size ≤ b9 by rw [hg]; exact HB.out.size); have NE := Aside0.mk (show b8 ≠ b9 by rw [hg]; exact Nat.ne_of_lt (blk_lt K8.out)); have q8_ := Aside0.mk (blk_below K8.out hb); clear K8; have K8 := q8_; clear q8_; have q_ := Aside0.mk (below_step HB.out hb); clear HB; have HB := q_; clear q_; clear hb hbox hg d0 d1 d2 d3)
          | ((with_reducible refine gate_ (.store 23 (.tmp 9) (.tmp 25)) rfl ?_); go_loud (refine box_store (w0 := w) rfl rfl 23 (.tmp 9) (.tmp 25) rfl (g := b9) (j := 0) (base := w.heap.size) #[.int .i64 y.f0, .int .i64 y.f1, .int .i64 y.f2, .int .i64 y.f3] (u := .agg #[.int .i64 y.f0, .int .i64 y.f1, .int .i64 y.f2, .int .i64 y.f3]) (seg := [.int .i64 y.f0, .int .i64 y.f1, .int .i64 y.f2, .int .i64 y.f3]) ?sA ?sX rfl ?sT ?s1 K9.out ?sJ rfl HB.out HB.out.size G9.out ?_; (case sA => rfl); (case sX => rfl); (case sT => rfl); (case s1 => (simp [Value.oneCell'])); (case sJ => (first | decide | simp)); intro ws9 hbk hbb hgg; have q8_ := Aside0.mk (blk_grown K8.out hgg (fun e_ => absurd (Option.some.inj e_) NE.out)); clear K8; have K8 := q8_; clear q8_; clear K9 HB; have K9 := Aside0.mk hbk; have HB := Aside0.mk hbb; clear hbk hbb hgg; have e0 := (blk_cell K8.out 0).trans rfl; have e1 := (blk_cell K8.out 1).trans rfl; have e2 := (blk_cell K8.out 2).trans rfl; have e3 := (blk_cell K8.out 3).trans rfl; have e4 := (blk_cell K8.out 4).trans rfl; have e5 := (blk_cell K8.out 5).trans rfl; have e6 := (blk_cell K8.out 6).trans rfl; have f0 := (blk_cell K9.out 0).trans rfl; have f1 := (blk_cell K9.out 1).trans rfl; have f2 := (blk_cell K9.out 2).trans rfl; have f3 := (blk_cell K9.out 3).trans rfl))
          | fail)
        clear e0 e1 e2 e3 e4 e5 e6 f0 f1 f2 f3 K8 K9 NE G8 G9
        refine (HCx.out _ HB.out).mono ?_
        rintro e w' ⟨rfl, hb⟩
        have q_ := Aside0.mk (below_step HB.out hb); clear HB; have HB := q_; clear q_
        clear hb
        cases hq : r x y with
        | true =>
          have HQ := Aside0.mk hq
          clear hq
          go_wp2
          go_roundg (la.length - (kk + 1))
          case measure => have h1 := HGG.out; have h2 := HKK.out; omega
          case rel => exact ⟨kk + 1, HKK.out, Nat.le_refl _, (by rw [HW.out]), ⟨by rw [HS.out, HX.out, HQ.out, Bool.true_and]⟩, HB⟩
        | false =>
          have HQ := Aside0.mk hq
          clear hq
          go_wp2
          go_ret
          rw [HS.out, HX.out, HQ.out, Bool.false_and]
          exact ⟨rfl, HB.out⟩
      · have hltz : ¬ (kk : Int) < (la.length : Int) := by omega
        go_wp2
        go_ret
        rw [HS.out, List.drop_eq_nil_of_le (by omega), eqL_nil]
        exact ⟨rfl, HB.out⟩
  · have hl1 : ((la.length : Int) != (lb.length : Int)) = true := by simp; omega
    have hl2 : (la.length == lb.length) = false := by simp [hl]
    rw [hl2, Bool.false_and]
    clear hl hl2
    go_enter Try.func211, Try.ntmps211
    go_wp2
    go_ret
    exact ⟨rfl, HB.out⟩
end Go.Proofs.Ytfdmfgaiblfbhaa.P
/- A tree's cells and their number: plain data. -/
namespace Go.Proofs.Ytfdmfgaiblfbhaa.P
open Go.RowKit Go.Proofs.YtfdmfgaiblfbhaaW.PrintWords Go.Proofs.YtfdmfgaiblfbhaaW.PrintLast Go.Proofs.YtfdmfgaiblfbhaaW.PrintMore

mutual
def allC : S26 → List S26
  | ⟨a, b, d, l⟩ => ⟨a, b, d, l⟩ :: allL l
def allL : List S26 → List S26
  | [] => []
  | c :: cs => allC c ++ allL cs
end
theorem allC_eq (c : S26) : allC c = c :: allL c.f3 := by cases c; simp [allC]
theorem allL_nil : allL [] = [] := by simp [allL]
theorem allL_cons (c : S26) (cs : List S26) : allL (c :: cs) = allC c ++ allL cs := by simp [allL]
theorem allL_app (a b : List S26) : allL (a ++ b) = allL a ++ allL b := by
  induction a with
  | nil => simp [allL_nil]
  | cons x xs ih => rw [List.cons_append, allL_cons, allL_cons, ih, List.append_assoc]
def sz (c : S26) : Nat := (allC c).length
def szL (l : List S26) : Nat := (allL l).length
theorem sz_eq (c : S26) : sz c = 1 + szL c.f3 := by unfold sz szL; rw [allC_eq, List.length_cons]; omega
theorem szL_nil : szL [] = 0 := by unfold szL; rw [allL_nil]; rfl
theorem szL_cons (c : S26) (cs : List S26) : szL (c :: cs) = sz c + szL cs := by unfold szL sz; rw [allL_cons, List.length_append]
theorem szL_app (a b : List S26) : szL (a ++ b) = szL a + szL b := by unfold szL; rw [allL_app, List.length_append]
theorem szL_len (l : List S26) : l.length ≤ szL l := by
  induction l with
  | nil => simp
  | cons x xs ih => rw [szL_cons, List.length_cons, sz_eq]; omega
theorem eta26 (c : S26) : (⟨c.f0, ⟨c.f1.f0, c.f1.f1, c.f1.f2, c.f1.f3⟩, c.f2, c.f3⟩ : S26) = c := by cases c; rfl
end Go.Proofs.Ytfdmfgaiblfbhaa.P
namespace Go.Proofs.Ytfdmfgaiblfbhaa.P
open Go.RowKit Go.Proofs.YtfdmfgaiblfbhaaW.PrintWords Go.Proofs.YtfdmfgaiblfbhaaW.PrintLast Go.Proofs.YtfdmfgaiblfbhaaW.PrintMore
attribute [local go_sem] max2_int min2_int max_two min_two max_three min_three max_four min_four   -- for this text's walks alone
set_option linter.unusedVariables false
set_option linter.unusedSimpArgs false

/-! ### sashref05_count: function 124 -/
mutual
def sashref05_count.l0 : Nat → Int → Int → Int → Int → Int → Int → Int → Int → Int → Int → List (S26) → Option (Int)
 | 0, _, _, _, _, _, _, _, _, _, _, _ => none
 | k + 1, x1, x5, x9, x10, x102000, x102001, x102002, x102003, x102004, x102005, x102006 => if x10 < x9 then (if x5 > x1 then (some x5) else (if 0 ≤ x10 then (if x10 < (x102006.length : Int) then ((sashref05_count.f k ((rd_T26 x102006 x10).f0) ((rd_T26 x102006 x10).f1.f0) ((rd_T26 x102006 x10).f1.f1) ((rd_T26 x102006 x10).f1.f2) ((rd_T26 x102006 x10).f1.f3) ((rd_T26 x102006 x10).f2) ((rd_T26 x102006 x10).f3) x1).bind fun t103 => (sashref05_count.l0 k x1 (wrap64 (x5 + t103)) x9 (wrap64 (x10 + 1)) x102000 x102001 x102002 x102003 x102004 x102005 x102006)) else (none)) else (none))) else (some x5)
def sashref05_count.f : Nat → Int → Int → Int → Int → Int → Int → List (S26) → Int → Option (Int)
 | 0, _, _, _, _, _, _, _, _ => none
 | k + 1, a0_0, a0_1, a0_2, a0_3, a0_4, a0_5, l0_6, a1 => sashref05_count.l0 k a1 1 (l0_6.length : Int) 0 a0_0 a0_1 a0_2 a0_3 a0_4 a0_5 l0_6
end
end Go.Proofs.Ytfdmfgaiblfbhaa.P
namespace Go.Proofs.Ytfdmfgaiblfbhaa.P
open Go.RowKit Go.Proofs.YtfdmfgaiblfbhaaW.PrintWords Go.Proofs.YtfdmfgaiblfbhaaW.PrintLast Go.Proofs.YtfdmfgaiblfbhaaW.PrintMore
attribute [local go_sem] max2_int min2_int max_two min_two max_three min_three max_four min_four   -- for this text's walks alone
set_option linter.unusedVariables false
set_option linter.unusedSimpArgs false

/-! ### sashref05_Great: function 34 -/
def sashref05_Great.f (k : Nat) (a0_0 : Int) (a0_1 : Int) (a0_2 : Int) (a0_3 : Int) (a0_4 : Int) (a0_5 : Int) (l0_6 : List (S26)) : Option (Bool) := (sashref05_count.f k a0_0 a0_1 a0_2 a0_3 a0_4 a0_5 l0_6 200).bind fun t105 => (some (decide (t105 > 200)))
end Go.Proofs.Ytfdmfgaiblfbhaa.P
namespace Go.Proofs.Ytfdmfgaiblfbhaa.P
open Go.RowKit Go.Proofs.YtfdmfgaiblfbhaaW.PrintWords Go.Proofs.YtfdmfgaiblfbhaaW.PrintLast Go.Proofs.YtfdmfgaiblfbhaaW.PrintMore
attribute [local go_sem] max2_int min2_int max_two min_two max_three min_three max_four min_four   -- for this text's walks alone
set_option linter.unusedVariables false
set_option linter.unusedSimpArgs false

/-! ### sashref05_All: function 79 -/
mutual
def sashref05_All.l0 : Nat → List (S26) → Int → Int → Int → Int → Int → Int → Int → Int → List (S26) → Option ((List (S26)))
 | 0, _, _, _, _, _, _, _, _, _, _ => none
 | k + 1, x3, x9, x10, x132000, x132001, x132002, x132003, x132004, x132005, x132006 => if x10 < x9 then (if 0 ≤ x10 then (if x10 < (x132006.length : Int) then ((sashref05_All.f k ((rd_T26 x132006 x10).f0) ((rd_T26 x132006 x10).f1.f0) ((rd_T26 x132006 x10).f1.f1) ((rd_T26 x132006 x10).f1.f2) ((rd_T26 x132006 x10).f1.f3) ((rd_T26 x132006 x10).f2) ((rd_T26 x132006 x10).f3)).bind fun t136 => (if x3.length + t136.length < 1954687338268 then (sashref05_All.l0 k (x3 ++ t136) x9 (wrap64 (x10 + 1)) x132000 x132001 x132002 x132003 x132004 x132005 x132006) else (none))) else (none)) else (none)) else (some x3)
def sashref05_All.f : Nat → Int → Int → Int → Int → Int → Int → List (S26) → Option ((List (S26)))
 | 0, _, _, _, _, _, _, _ => none
 | k + 1, a0_0, a0_1, a0_2, a0_3, a0_4, a0_5, l0_6 => sashref05_All.l0 k (([(⟨a0_0, (⟨a0_1, a0_2, a0_3, a0_4⟩ : S23), a0_5, l0_6⟩ : S26)] : List (S26))) (l0_6.length : Int) 0 a0_0 a0_1 a0_2 a0_3 a0_4 a0_5 l0_6
end
end Go.Proofs.Ytfdmfgaiblfbhaa.P
namespace Go.Proofs.Ytfdmfgaiblfbhaa.P
open Go.RowKit Go.Proofs.YtfdmfgaiblfbhaaW.PrintWords Go.Proofs.YtfdmfgaiblfbhaaW.PrintLast Go.Proofs.YtfdmfgaiblfbhaaW.PrintMore
attribute [local go_sem] max2_int min2_int max_two min_two max_three min_three max_four min_four   -- for this text's walks alone
set_option linter.unusedVariables false
set_option linter.unusedSimpArgs false

/-! ### sashref05_Leaves: function 126 -/
def sashref05_Leaves.l0 : Nat → List (S26) → List (S26) → Int → Int → Option ((List (S26)))
 | 0, _, _, _, _ => none
 | k + 1, x3, x4, x10, x11 => if x11 < x10 then (if 0 ≤ x11 then (if x11 < (x4.length : Int) then (if ((rd_T26 x4 x11).f0) = 1 then (if x3.length < 1954687338268 then (sashref05_Leaves.l0 k (x3 ++ [(⟨(rd_T26 x4 x11).f0, (⟨(rd_T26 x4 x11).f1.f0, (rd_T26 x4 x11).f1.f1, (rd_T26 x4 x11).f1.f2, (rd_T26 x4 x11).f1.f3⟩ : S23), (rd_T26 x4 x11).f2, (rd_T26 x4 x11).f3⟩ : S26)]) x4 x10 (wrap64 (x11 + 1))) else (none)) else (sashref05_Leaves.l0 k x3 x4 x10 (wrap64 (x11 + 1)))) else (none)) else (none)) else (some x3)
def sashref05_Leaves.f (k : Nat) (a0_0 : Int) (a0_1 : Int) (a0_2 : Int) (a0_3 : Int) (a0_4 : Int) (a0_5 : Int) (l0_6 : List (S26)) : Option ((List (S26))) := (sashref05_All.f k a0_0 a0_1 a0_2 a0_3 a0_4 a0_5 l0_6).bind fun t146 => (sashref05_Leaves.l0 k (([] : List (S26))) t146 (t146.length : Int) 0)
end Go.Proofs.Ytfdmfgaiblfbhaa.P
/- Trees of cells: their size, their cells, their leaves, their panes: the reference's functions, as plain data. -/
namespace Go.Proofs.Ytfdmfgaiblfbhaa.P
open Go.RowKit Go.Proofs.YtfdmfgaiblfbhaaW.PrintWords Go.Proofs.YtfdmfgaiblfbhaaW.PrintLast Go.Proofs.YtfdmfgaiblfbhaaW.PrintMore

theorem rd26_in (pre : List S26) (p : S26) (rest : List S26) : rd_T26 (pre ++ p :: rest) (pre.length : Int) = p := by
  simp [rd_T26, List.getD_eq_getElem?_getD]
theorem up_in {α : Type} (pre : List α) (p : α) (rest : List α) (h : (pre ++ p :: rest).length ≤ 9223372036854775807) : wrap64 ((pre.length : Int) + 1) = ((pre ++ [p]).length : Int) := by
  simp only [List.length_append, List.length_cons, List.length_nil] at h ⊢
  rw [wq (by omega) (by omega)]
  omega

/-- The leaves. -/
def leavesC (c : S26) : List S26 := (allC c).filter fun x => decide (x.f0 = 1)
end Go.Proofs.Ytfdmfgaiblfbhaa.P
