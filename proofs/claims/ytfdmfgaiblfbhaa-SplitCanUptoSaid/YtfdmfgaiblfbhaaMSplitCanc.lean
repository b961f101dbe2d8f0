/- SplitCan: part 3 of 6 of this claim's texts, one behind the other, made small by a program: the words of the kit's printer cut down to those that are used, the claim's own names made short. -/
import Derived.Test.YtfdmfgaiblfbhaaProg
import Derived.Below
import Derived.Deep.Draws
import Derived.Deep.AppendLies
import Derived.Maps.AppendAt
import Derived.OwnWalk
import Derived.Laws.BytesArg
import Derived.Laws.MakeOwn
import Derived.Laws.OwnMore
import Derived.Deep.OwnRows
import Derived.Tactics
import Derived.Lib.ConvBytes
import Derived.Laws.Slices
import Derived.WalkKit
import Derived.KernelRfl
import Derived.RowKit3
import Derived.Deep.LoopGhost
import Derived.Deep.QuietTactic
import Derived.BigQuiet
import Derived.WideLaws
import Derived.Deep.DeepCutAuto
import Derived.Deep.CutBlock
import Derived.Deep.RegionHeld3
import Derived.Laws.Rows
import Derived.Lib.AppendStr
import Derived.ArgAppend
import Derived.Laws.IdiomCopy
import Derived.OrdersHeld
import Derived.Laws.BitsLemmas
import Derived.RowKit
import Derived.Test.YtfdmfgaiblfbhaaMSplitCana
import Derived.Test.YtfdmfgaiblfbhaaMSplitCanb
import Derived.Shelf.Spec.SlicesInsert
import Derived.Shelf.Spec.SlicesInsertGrow
import Derived.Lib.Hide
set_option maxHeartbeats 8000000
set_option maxRecDepth 100000
set_option linter.unusedVariables false
set_option linter.unusedSimpArgs false
namespace Go.Proofs.Ytfdmfgaiblfbhaa.P
open Go.RowKit Go.Proofs.ag.aA Go.Proofs.ag.a_ Go.Proofs.ag.bG
attribute [local go_sem] jf jr jG jR iV iW jB jC
def abT : Option Int → Value
 | none => .nilIface
 | some c => .iface 0 (.int .i64 c)
theorem kZ : abT none = .nilIface := rfl
theorem lg (c : Int) : abT (some c) = .iface 0 (.int .i64 c) := rfl
theorem info3 : (Try.prog.info? 3).map (fun i => (i.zero, i.size, i.bytes)) = some (some (.int .i64 0), 1, 8) := by kernel_rfl
theorem info23 : (Try.prog.info? 23).map (fun i => (i.zero, i.size, i.bytes)) = some (some (.agg #[(.int .i64 0), (.int .i64 0), (.int .i64 0), (.int .i64 0)]), 4, 32) := by kernel_rfl
theorem info26 : (Try.prog.info? 26).map (fun i => (i.zero, i.size, i.bytes)) = some (some (.agg #[(.int .u8 0), (.int .i64 0), (.int .i64 0), (.int .i64 0), (.int .i64 0), (.int .i64 0), (.slice none 0 0)]), 7, 72) := by kernel_rfl
structure dF where
 f0 : Int
 f1 : Int
 f2 : Int
 f3 : Int
def z23 : dF := ⟨(0 : Int), (0 : Int), (0 : Int), (0 : Int)⟩
def k23 : Kd dF := Kd.Un (Kd.pair (Kd.int .i64) (Kd.pair (Kd.int .i64) (Kd.pair (Kd.int .i64) (Kd.int .i64)))) (fun x : dF => (x.f0, x.f1, x.f2, x.f3))
theorem V7 : Kd.Heap k23 := Kd.Nc _ (Kd.ug (Kd.uX .i64) (Kd.ug (Kd.uX .i64) (Kd.ug (Kd.uX .i64) (Kd.uX .i64))))
theorem EN {w : World} {x : dF} {cs : List Value} (h : k23.K w x cs) : cs = [.int .i64 x.f0, .int .i64 x.f1, .int .i64 x.f2, .int .i64 x.f3] := by
 obtain ⟨_, _, rfl, rfl, ⟨_, _, rfl, rfl, ⟨_, _, rfl, rfl, rfl⟩⟩⟩ := h
 exact rfl
theorem NC (w : World) (x : dF)  : k23.K w x [.int .i64 x.f0, .int .i64 x.f1, .int .i64 x.f2, .int .i64 x.f3] := ⟨[.int .i64 x.f0], [.int .i64 x.f1, .int .i64 x.f2, .int .i64 x.f3], rfl, rfl, ⟨[.int .i64 x.f1], [.int .i64 x.f2, .int .i64 x.f3], rfl, rfl, ⟨[.int .i64 x.f2], [.int .i64 x.f3], rfl, rfl, rfl⟩⟩⟩
theorem qB (w : World) (base : Nat) (ok : Nat → Prop) (x : dF)  : k23.M w base ok x [.int .i64 x.f0, .int .i64 x.f1, .int .i64 x.f2, .int .i64 x.f3] := ⟨[.int .i64 x.f0], [.int .i64 x.f1, .int .i64 x.f2, .int .i64 x.f3], rfl, rfl, ⟨[.int .i64 x.f1], [.int .i64 x.f2, .int .i64 x.f3], rfl, rfl, ⟨[.int .i64 x.f2], [.int .i64 x.f3], rfl, rfl, rfl⟩⟩⟩
def pg (xs : List dF) (i : Int) : dF := xs.getD i.toNat z23
theorem LV {w : World} {A : Option Addr} {n : Nat} {xs : List dF} (h : Kd.C k23 w A n xs) (i : Int) (h0 : 0 ≤ i) (h1 : i < n) : ∃ ad , A = some ad ∧ w.cell? (ad.add (i.toNat * 4)) = some (.int .i64 (pg xs i).f0) ∧ w.cell? ⟨(ad.add (i.toNat * 4)).block, (ad.add (i.toNat * 4)).off + 1, none⟩ = some (.int .i64 (pg xs i).f1) ∧ w.cell? ⟨(ad.add (i.toNat * 4)).block, (ad.add (i.toNat * 4)).off + 2, none⟩ = some (.int .i64 (pg xs i).f2) ∧ w.cell? ⟨(ad.add (i.toNat * 4)).block, (ad.add (i.toNat * 4)).off + 3, none⟩ = some (.int .i64 (pg xs i).f3) := by
 obtain ⟨ad, c, e, _, hK, hc0⟩ := Kd.Fh h z23 i h0 h1
 have hc : ∀ j u, c[j]? = some u → w.cell? (ad.add (i.toNat * 4 + j)) = some u := hc0
 obtain rfl := EN hK
 exact ⟨ad, e, hc 0 _ rfl, by rw [← jO _ _ 1 (by omega)]; exact hc 1 _ rfl, by rw [← jO _ _ 2 (by omega)]; exact hc 2 _ rfl, by rw [← jO _ _ 3 (by omega)]; exact hc 3 _ rfl⟩
structure ai where
 f0 : Int
 f1 : dF
 f2 : Int
 f3 : (List ai)
def z26 : ai := ⟨(0 : Int), z23, (0 : Int), ([] : List ai)⟩
def OA (d : Kd ai) : Kd ai := Kd.Un (Kd.pair (Kd.int .u8) (Kd.pair k23 (Kd.pair (Kd.int .i64) (Kd.slice 26 d)))) (fun x : ai => (x.f0, x.f1, x.f2, x.f3))
theorem NI : Kd.uw OA := Kd.Wi _ (Kd.Cb (Kd.AB _) (Kd.Cb (Kd.AB _) (Kd.Cb (Kd.AB _) (Kd.QX 26 Kd.ZE))))
theorem aeP : Kd.Sub OA [26] := Kd.ZY _ (Kd.EZ (Kd.sub_const _ (by decide)) (Kd.EZ (Kd.sub_const _ (by decide)) (Kd.EZ (Kd.sub_const _ (by decide)) (Kd.U0 26 (by decide) Kd.ado))))
theorem Ro : ∀ n, (Kd.upto OA 7 [26] n).sz = 7 := Kd.aad (fun _ => rfl)
def k26 : Kd ai := Kd.fix OA 7 [26] Ro (Kd.U6 aeP)
theorem nz : Kd.Heap k26 := Kd.VX (fun _ h_ => Kd.Nc _ (Kd.ug (Kd.uX .u8) (Kd.ug V7 (Kd.ug (Kd.uX .i64) (Kd.QM 26 h_)))))
theorem Aj {w : World} {x : ai} {cs : List Value} (h : k26.K w x cs) : ∃ A6 c6, cs = [.int .u8 x.f0, .int .i64 x.f1.f0, .int .i64 x.f1.f1, .int .i64 x.f1.f2, .int .i64 x.f1.f3, .int .i64 x.f2, .slice A6 x.f3.length c6] ∧ x.f3.length ≤ c6 ∧ k26.C w A6 x.f3.length x.f3 := by
 obtain ⟨n, h⟩ := h
 cases n with
 | zero => exact h.elim
 | succ n =>
  obtain ⟨_, _, rfl, rfl, ⟨_, _, rfl, s1, ⟨_, _, rfl, rfl, ⟨A6, c6, rfl, l6, g6⟩⟩⟩⟩ := h
  obtain rfl := EN s1
  exact ⟨A6, c6, rfl, l6, Kd.aeq g6⟩
theorem acW (w : World) (x : ai) {A6 : Option Addr} {c6 : Nat} (l6 : x.f3.length ≤ c6) (g6 : k26.C w A6 x.f3.length x.f3) : k26.K w x [.int .u8 x.f0, .int .i64 x.f1.f0, .int .i64 x.f1.f1, .int .i64 x.f1.f2, .int .i64 x.f1.f3, .int .i64 x.f2, .slice A6 x.f3.length c6] := by
 obtain ⟨n6, q6⟩ := Kd.QE NI g6
 have r6 := Kd.U5 NI Ro (show n6 ≤ n6 by omega) q6
 exact ⟨n6 + 1, ⟨[.int .u8 x.f0], [.int .i64 x.f1.f0, .int .i64 x.f1.f1, .int .i64 x.f1.f2, .int .i64 x.f1.f3, .int .i64 x.f2, .slice A6 x.f3.length c6], rfl, rfl, ⟨[.int .i64 x.f1.f0, .int .i64 x.f1.f1, .int .i64 x.f1.f2, .int .i64 x.f1.f3], [.int .i64 x.f2, .slice A6 x.f3.length c6], rfl, (NC w x.f1 ), ⟨[.int .i64 x.f2], [.slice A6 x.f3.length c6], rfl, rfl, ⟨A6, c6, rfl, l6, r6⟩⟩⟩⟩⟩
theorem mP {W : World} {ok : Nat → Prop} {x : ai} {cs : List Value} (h : Kd.FK k26 W ok x cs) : ∃ A6 c6, cs = [.int .u8 x.f0, .int .i64 x.f1.f0, .int .i64 x.f1.f1, .int .i64 x.f1.f2, .int .i64 x.f1.f3, .int .i64 x.f2, .slice A6 x.f3.length c6] ∧ x.f3.length ≤ c6 ∧ Kd.F k26 W ok A6 x.f3.length x.f3 := by
 obtain ⟨A6, c6, rfl, l6, _⟩ := Aj (Kd.l9 h)
 exact ⟨A6, c6, rfl, l6, (fun W' hW => by obtain ⟨A6_, c6_, he, l6_, g6_⟩ := Aj (h W' hW); injection (Option.some.inj (show some (Value.slice A6 x.f3.length c6) = some (Value.slice A6_ x.f3.length c6_) from congrArg (fun l => l[6]?) he)) with ha_ _ _; rw [ha_]; exact g6_)⟩
theorem o8 (W : World) (ok : Nat → Prop) (x : ai) {A6 : Option Addr} {c6 : Nat} (l6 : x.f3.length ≤ c6) (g6 : Kd.F k26 W ok A6 x.f3.length x.f3) : Kd.FK k26 W ok x [.int .u8 x.f0, .int .i64 x.f1.f0, .int .i64 x.f1.f1, .int .i64 x.f1.f2, .int .i64 x.f1.f3, .int .i64 x.f2, .slice A6 x.f3.length c6] := fun W2 hW => acW W2 x l6 (g6 W2 hW)
def aj (xs : List ai) (i : Int) : ai := xs.getD i.toNat z26
theorem n_ {w : World} {A : Option Addr} {n : Nat} {xs : List ai} (h : Kd.C k26 w A n xs) (i : Int) (h0 : 0 ≤ i) (h1 : i < n) : ∃ ad A6 c6, A = some ad ∧ w.cell? (ad.add (i.toNat * 7)) = some (.int .u8 (aj xs i).f0) ∧ w.cell? ⟨(ad.add (i.toNat * 7)).block, (ad.add (i.toNat * 7)).off + 1, none⟩ = some (.int .i64 (aj xs i).f1.f0) ∧ w.cell? ⟨(ad.add (i.toNat * 7)).block, (ad.add (i.toNat * 7)).off + 2, none⟩ = some (.int .i64 (aj xs i).f1.f1) ∧ w.cell? ⟨(ad.add (i.toNat * 7)).block, (ad.add (i.toNat * 7)).off + 3, none⟩ = some (.int .i64 (aj xs i).f1.f2) ∧ w.cell? ⟨(ad.add (i.toNat * 7)).block, (ad.add (i.toNat * 7)).off + 4, none⟩ = some (.int .i64 (aj xs i).f1.f3) ∧ w.cell? ⟨(ad.add (i.toNat * 7)).block, (ad.add (i.toNat * 7)).off + 5, none⟩ = some (.int .i64 (aj xs i).f2) ∧ w.cell? ⟨(ad.add (i.toNat * 7)).block, (ad.add (i.toNat * 7)).off + 6, none⟩ = some (.slice A6 (aj xs i).f3.length c6) ∧ (aj xs i).f3.length ≤ c6 ∧ k26.C w A6 (aj xs i).f3.length (aj xs i).f3 := by
 obtain ⟨ad, c, e, _, hK, hc0⟩ := Kd.Fh h z26 i h0 h1
 have hc : ∀ j u, c[j]? = some u → w.cell? (ad.add (i.toNat * 7 + j)) = some u := hc0
 obtain ⟨A6, c6, rfl, l6, g6⟩ := Aj hK
 exact ⟨ad, A6, c6, e, hc 0 _ rfl, by rw [← jO _ _ 1 (by omega)]; exact hc 1 _ rfl, by rw [← jO _ _ 2 (by omega)]; exact hc 2 _ rfl, by rw [← jO _ _ 3 (by omega)]; exact hc 3 _ rfl, by rw [← jO _ _ 4 (by omega)]; exact hc 4 _ rfl, by rw [← jO _ _ 5 (by omega)]; exact hc 5 _ rfl, by rw [← jO _ _ 6 (by omega)]; exact hc 6 _ rfl, l6, g6⟩
structure S35 where
 f0 : Int
 f1 : dF
end Go.Proofs.Ytfdmfgaiblfbhaa.P
namespace Go.Proofs.Ytfdmfgaiblfbhaa.P
open Go.Shelf
def DT : Ren := ⟨fun f => match f with | 21 => 150 | 27 => 181 | 28 => 182 | 35 => 198 | 39 => 208 | n => n, fun t => match t with | 22 => 41 | n => n, fun g => g⟩
theorem GN : Lays2.n21 Try.prog DT where
 mixed := by kernel_rfl
 f21 := Try.func150
 f27 := Try.func181
 f28 := Try.func182
 f35 := Try.func198
 f39 := Try.func208
 t0 := Try.underlying0
 a0 := fun w => by kernel_rfl
 z0 := fun w => by kernel_rfl
 v0 := fun w => by kernel_rfl
 t3 := Try.underlying3
 a3 := fun w => by kernel_rfl
 z3 := fun w => by kernel_rfl
 v3 := fun w => by kernel_rfl
 t4 := Try.underlying4
 a4 := fun w => by kernel_rfl
 z4 := fun w => by kernel_rfl
 v4 := fun w => by kernel_rfl
 t22 := Try.underlying41
 a22 := fun w => by kernel_rfl
 z22 := fun w => by kernel_rfl
 v22 := fun w => by kernel_rfl
 i3 := by kernel_rfl
end Go.Proofs.Ytfdmfgaiblfbhaa.P
namespace Go.Proofs.Ytfdmfgaiblfbhaa.P
open Go.RowKit Go.Proofs.ag.aA Go.Proofs.ag.a_ Go.Proofs.ag.bG
section
variable {P : Program} {ops : Array Oper} {rest : List Oper} {o : Oper} {a : Act} {Q : Exit → Act → World → Prop}
theorem grown_below {w0 W w1 : World} {g base : Nat} (HB : Below base w0 W) (hg : W.grownBy w1 (some g)) (hbg : base ≤ g) (hs : base ≤ W.heap.size) : Below base w0 w1 := HB.trans ⟨hg.os, hg.tape, hg.output, hg.size, fun k hk => hg.block k (by omega) (fun he => by injection he with he; omega)⟩
theorem pJ {W : World} {g j : Nat} {cs cs' : Array Value} {t0 : TypeId} {bF : List Value} (hb : W.heap[g]? = some (.cells cs t0 (0, 0))) (hj : j + bF.length ≤ cs.size) (he : cs.toList.take j ++ bF ++ cs.toList.drop (j + bF.length) = cs'.toList) :
  (W.setCells g j bF).heap[g]? = some (.cells cs' t0 (0, 0)) ∧ W.grownBy (W.setCells g j bF) (some g) := by
 obtain ⟨cur', h3, h4, h5⟩ := kR bF j W cs hb hj
 obtain ⟨s1, s2, s3, s4⟩ := tH g bF j W
 have hc : cur' = cs' := Array.toList_inj.1 (h5.trans he)
 subst hc
 exact ⟨h3, ⟨s1, s2, s3, by rw [s4]; exact Nat.le_refl _, fun k _ hk => uM bF _ k (fun e => hk (by rw [e]))⟩⟩
theorem fO {W w0 : World} (hN : o.dst = none) (hgd : o.guard = none) (t : TypeId) (p x : Operand) (ho : o.op = .store t p x) {g j base : Nat} {cs : Array Value} (cs' : Array Value) {t0 : TypeId} {u : Value} {bF : List Value}
  (jS : a.eval p = .pointer (some ⟨g, j, none⟩)) (hx : a.eval x = u) (hu : u.cells.toList = bF) (ht : (P.info? t).map (·.size) = some bF.length) (h1 : ∀ q ∈ bF, q.oneCell' = true)
  (hb : W.heap[g]? = some (.cells cs t0 (0, 0))) (hj : j + bF.length ≤ cs.size) (he : cs.toList.take j ++ bF ++ cs.toList.drop (j + bF.length) = cs'.toList) (HB : Below base w0 W) (hbs : base ≤ W.heap.size) (hbg : base ≤ g)
  (h : ∀ w1, w1.heap[g]? = some (.cells cs' t0 (0, 0)) → Below base w0 w1 → W.grownBy w1 (some g) → wpList P ops Q rest a w1) : wpList P ops Q (o :: rest) a W := by
 obtain ⟨h2, h3⟩ := pJ hb hj he
 refine wpList_plain hgd fun K hK => ?_
 have hrun := Bg (P := P) t u bF hb hu ht hj h1
 unfold Oper.wp execOp
 simp only [ho, jS, hx, Sem.run_bind, Sem.run_pure, Result.andThen_ok, hrun]
 show K (a.put o.dst undef) _
 rw [hN]
 exact hK a _ (h _ h2 (grown_below HB h3 hbg hbs) h3)
theorem Bc {W : World} (t : TypeId) (p x : Operand) (ho : o.op = .store t p x) {g j : Nat} {cs : Array Value} {t0 : TypeId} {u : Value} {bF : List Value}
  (jS : a.eval p = .pointer (some ⟨g, j, none⟩)) (hx : a.eval x = u) (hu : u.cells.toList = bF) (ht : (P.info? t).map (·.size) = some bF.length) (h1 : ∀ q ∈ bF, q.oneCell' = true)
  (hb : W.heap[g]? = some (.cells cs t0 (0, 0))) (hj : j + bF.length ≤ cs.size) : (execOp a.eval o).run P W = .ok .skip (W.setCells g j bF) := by
 have hrun := Bg (P := P) t u bF hb hu ht hj h1
 unfold execOp
 simp only [ho, jS, hx, Sem.run_bind, Sem.run_pure, Result.andThen_ok, hrun]
end
theorem Lj {α : Type} {d : Kd α} {e base b c : Nat} {P : Nat → Prop} {W w1 : World} {v : Value} {xs : List α} (h : Kd.N d e w1 W.heap.size (fun k => ((P k ∧ k ≠ b) ∧ k ≠ c) ∨ W.heap.size ≤ k) v xs) (hb : b < W.heap.size) (hc : c < W.heap.size) (hs : base ≤ W.heap.size) :
  Kd.N d e w1 base (fun k => ((P k ∨ base ≤ k) ∧ k ≠ b) ∧ k ≠ c) v xs :=
 Kd.xB (Kd.iM h (fun k hk => hk.elim (fun q => ⟨⟨.inl q.1.1, q.1.2⟩, q.2⟩) (fun q => ⟨⟨.inr (by omega), by omega⟩, by omega⟩))) hs
def keys (bs : List (Option Nat × Obj)) (ow : List (Value × List ai)) : List Nat := bs.filterMap (·.1) ++ ow.flatMap (fun r => r.1.ownBlock.toList)
def Ok (w : World) (P : Nat → Prop) (ks : List Nat) (k : Nat) : Prop := (P k ∨ w.heap.size ≤ k) ∧ k ∉ ks
structure St (w : World) (P : Nat → Prop) (bs : List (Option Nat × Obj)) (ow : List (Value × List ai)) (ts : List (Value × List ai)) (ro : List (Addr × Value)) (W : World) : Prop where
 below : Below w.heap.size w W
 blk : ∀ p, p ∈ bs → ∀ g, p.1 = some g → W.heap[g]? = some p.2
 new : ∀ k, k ∈ keys bs ow → w.heap.size ≤ k ∧ k < W.heap.size
 nd : (keys bs ow).Nodup
 tree : ∀ t, t ∈ ts → Kd.V k26 26 W 0 (Ok w P (keys bs ow)) t.1 t.2
 own : ∀ r, r ∈ ow → Kd.N k26 26 W w.heap.size (fun k => Ok w P (keys bs ow) k ∨ r.1.ownBlock = some k) r.1 r.2
 cell : ∀ c, c ∈ ro → W.cell? c.1 = some c.2 ∧ c.1.block ∉ keys bs ow
section
variable {w : World} {P : Nat → Prop} {bs : List (Option Nat × Obj)} {ow : List (Value × List ai)} {ts : List (Value × List ai)} {ro : List (Addr × Value)} {W W1 : World} {g b0 cap : Nat} {o o' : Obj} {v : Value} {l : List ai}
theorem fC {α : Type} {d : Kd α} {e base base' : Nat} {ok : Nat → Prop} {W : World} {v : Value} {xs : List α} (h : Kd.V d e W base ok v xs) : Kd.V d e W base' ok v xs := Kd.xq h (fun _ hf => hf)
theorem St.start (h : ∀ t, t ∈ ts → Kd.V k26 26 w b0 P t.1 t.2) : St w P [] [] ts [] w where
 below := Below.refl _ _
 blk := fun _ h => by cases h
 new := fun _ h => by cases h
 nd := List.nodup_nil
 tree := fun t ht => fC (Kd.iP (h t ht) (fun k hk => ⟨.inl hk, by simp [keys]⟩))
 own := fun _ h => by cases h
 cell := fun _ h => by cases h
theorem St.X8 (S : St w P [] [] ts ro W) {a : Addr} {u : Value} (h : W.cell? a = some u) : St w P [] [] ts ((a, u) :: ro) W :=
 ⟨S.below, S.blk, S.new, S.nd, S.tree, S.own, fun c hc => by
  rcases List.mem_cons.1 hc with rfl | hc
  ·exact ⟨h, by simp [keys]⟩
  ·exact S.cell c hc⟩
theorem St.lt (S : St w P bs ow ts ro W) {k : Nat} (h : k ∈ keys bs ow) : k < W.heap.size := (S.new k h).2
theorem St.box (S : St w P bs ow ts ro W) (hg : g = W.heap.size) (hbox : W1.heap[g]? = some o) (hb : Below W.heap.size W W1) : St w P ((some g, o) :: bs) ow ts ro W1 where
 below := ak S.below hb
 blk := fun p hp q hq => by
  rcases List.mem_cons.1 hp with rfl | hp
  ·rw [← Option.some.inj hq]; exact hbox
  ·exact aJ (S.blk p hp q hq) hb
 new := fun k hk => by
  rcases List.mem_cons.1 (show k ∈ g :: keys bs ow from hk) with rfl | hk
  ·exact ⟨by rw [hg]; exact S.below.size, eH hbox⟩
  ·exact ⟨(S.new k hk).1, Nat.lt_of_lt_of_le (S.new k hk).2 hb.size⟩
 nd := show (g :: keys bs ow).Nodup from List.nodup_cons.2 ⟨fun h => by have := (S.new g h).2; omega, S.nd⟩
 tree := fun t ht => Kd.iP (Kd.lH (Kd.oI (S.tree t ht) g (Nat.le_of_eq hg.symm)) hb) (fun k hk => ⟨hk.1.1, fun h => (List.mem_cons.1 (show k ∈ g :: keys bs ow from h)).elim hk.2 hk.1.2⟩)
 own := fun r hr => Kd.iM (Kd.qy (Kd.zJ (S.own r hr) g (Nat.le_of_eq hg.symm)) hb) (fun k hk => hk.1.elim (fun h1 => .inl ⟨h1.1, fun h => (List.mem_cons.1 (show k ∈ g :: keys bs ow from h)).elim hk.2 h1.2⟩) .inr)
 cell := fun c hc => ⟨(hb.cell (World.block_lt_of_cell? W _ (S.cell c hc).1)).trans (S.cell c hc).1, fun h => (List.mem_cons.1 (show c.1.block ∈ g :: keys bs ow from h)).elim (fun he => by have := World.block_lt_of_cell? W _ (S.cell c hc).1; omega) (S.cell c hc).2⟩
theorem St.call (S : St w P bs ow ts ro W) (hb : Below W.heap.size W W1) : St w P bs ow ts ro W1 where
 below := ak S.below hb
 blk := fun p hp q hq => aJ (S.blk p hp q hq) hb
 new := fun k hk => ⟨(S.new k hk).1, Nat.lt_of_lt_of_le (S.new k hk).2 hb.size⟩
 nd := S.nd
 tree := fun t ht => Kd.lH (S.tree t ht) hb
 own := fun r hr => Kd.qy (S.own r hr) hb
 cell := fun c hc => ⟨(hb.cell (World.block_lt_of_cell? W _ (S.cell c hc).1)).trans (S.cell c hc).1, (S.cell c hc).2⟩
theorem St.add (S : St w P bs ow ts ro W) (h : Kd.V k26 26 W b0 (Ok w P (keys bs ow)) v l) : St w P bs ow ((v, l) :: ts) ro W :=
 ⟨S.below, S.blk, S.new, S.nd, fun t ht => by
  rcases List.mem_cons.1 ht with rfl | ht
  ·exact fC h
  ·exact S.tree t ht, S.own, S.cell⟩
theorem St.res (S : St w P bs ow ts ro W) (h : Kd.V k26 26 W1 b0 (fun k => Ok w P (keys bs ow) k ∨ W.heap.size ≤ k) v l) (hb : Below W.heap.size W W1) : St w P bs ow ((v, l) :: ts) ro W1 :=
 (S.call hb).add (Kd.iP h (fun k hk => hk.elim id (fun h1 => ⟨.inr (Nat.le_trans S.below.size h1), fun h2 => by have := S.lt h2; omega⟩)))
theorem eP {k : Nat} : k ∈ keys bs [(v, l)] ↔ k ∈ keys bs [] ∨ v.ownBlock = some k := by
 simp only [keys, List.flatMap_cons, List.flatMap_nil, List.append_nil, List.mem_append, Option.mem_toList]
theorem St.yf (S : St w P bs [] ts ro W) (h : Kd.N k26 26 W1 W.heap.size (fun k => Ok w P (keys bs []) k ∨ W.heap.size ≤ k) v l) (hb : Below W.heap.size W W1) : St w P bs [(v, l)] ts ro W1 := by
 have hgb : ∀ g, v.ownBlock = some g → W.heap.size ≤ g := Kd.qY h
 have hgl : ∀ g, v.ownBlock = some g → g < W1.heap.size := Kd.Bq h
 have hlt : ∀ k, k < W.heap.size → v.ownBlock ≠ some k := fun k hk e => by have := hgb k e; omega
 refine ⟨ak S.below hb, fun p hp q hq => aJ (S.blk p hp q hq) hb, fun k hk => ?_, ?_, fun t ht => ?_, fun r hr => ?_, fun c hc => ?_⟩
 ·rcases eP.1 hk with h1 | h1
  ·exact ⟨(S.new k h1).1, Nat.lt_of_lt_of_le (S.new k h1).2 hb.size⟩
  ·exact ⟨Nat.le_trans S.below.size (hgb k h1), hgl k h1⟩
 ·have h1 := S.nd
  simp only [keys, List.flatMap_nil, List.append_nil] at h1
  simp only [keys, List.flatMap_cons, List.flatMap_nil, List.append_nil]
  refine List.nodup_append.2 ⟨h1, by cases v.ownBlock <;> simp, fun a ha b hb2 => ?_⟩
  rintro rfl
  exact hlt a (S.lt (by simpa [keys] using ha)) (by simpa using hb2)
 ·exact Kd.iP (Kd.lH (Kd.Dl (S.tree t ht)) hb) (fun k hk => ⟨hk.1.1, fun h2 => (eP.1 h2).elim hk.1.2 (hlt k hk.2)⟩)
 ·rw [List.mem_singleton] at hr
  subst hr
  refine Kd.xB (Kd.iM h (fun k hk => ?_)) S.below.size
  by_cases hkg : v.ownBlock = some k
  ·exact .inr hkg
  ·refine .inl ?_
   rcases hk with h1 | h1
   ·exact ⟨h1.1, fun h2 => (eP.1 h2).elim h1.2 hkg⟩
   ·exact ⟨.inr (Nat.le_trans S.below.size h1), fun h2 => (eP.1 h2).elim (fun h3 => by have := S.lt h3; omega) hkg⟩
 ·exact ⟨(hb.cell (World.block_lt_of_cell? W _ (S.cell c hc).1)).trans (S.cell c hc).1, fun h2 => (eP.1 h2).elim (S.cell c hc).2 (hlt _ (World.block_lt_of_cell? W _ (S.cell c hc).1))⟩
theorem MG {W W1 : World} {g : Nat} (hg : W.grownBy W1 (some g)) {a : Addr} {u : Value} (h : W.cell? a = some u) (hn : a.block ≠ g) : W1.cell? a = some u := cell_grown hg h (fun e => hn (Option.some.inj e))
theorem V8 {i : Nat} : ∀ {bs : List (Option Nat × Obj)} (ow : List (Value × List ai)) (_ : bs[i]? = some (some g, o)), keys (bs.set i (some g, o')) ow = keys bs ow := by
 induction i with
 | zero => intro bs ow h; cases bs with
  | nil => simp at h
  | cons b bs => simp at h; subst h; rfl
 | succ i ih => intro bs ow h; cases bs with
  | nil => simp at h
  | cons b bs =>
   have := ih (bs := bs) ow (by simpa using h)
   unfold keys at this ⊢
   have h2 := List.append_cancel_right this
   rw [List.set_cons_succ, List.filterMap_cons, List.filterMap_cons, h2]
theorem mem_keys {bs : List (Option Nat × Obj)} {ow : List (Value × List ai)} {p : Option Nat × Obj} {g : Nat} (hp : p ∈ bs) (hg : p.1 = some g) : g ∈ keys bs ow := List.mem_append.2 (.inl (List.mem_filterMap.2 ⟨p, hp, hg⟩))
theorem aeI {p q : Option Nat × Obj} {g : Nat} : ∀ {bs : List (Option Nat × Obj)} {i j : Nat}, (bs.filterMap (·.1)).Nodup → bs[i]? = some p → bs[j]? = some q → i ≠ j → p.1 = some g → q.1 = some g → False := by
 intro bs
 induction bs with
 | nil => intro i j _ hi; simp at hi
 | cons b bs ih =>
  intro i j hn hi hj hij hp hq
  have hn' : (bs.filterMap (·.1)).Nodup := by
   rw [List.filterMap_cons] at hn
   split at hn
   ·exact hn
   ·exact (List.nodup_cons.1 hn).2
  cases i with
  | zero =>
   cases j with
   | zero => exact hij rfl
   | succ j =>
    simp at hi hj
    subst hi
    rw [List.filterMap_cons, hp] at hn
    exact (List.nodup_cons.1 hn).1 (List.mem_filterMap.2 ⟨q, List.mem_of_getElem? hj, hq⟩)
  | succ i =>
   cases j with
   | zero =>
    simp at hi hj
    subst hj
    rw [List.filterMap_cons, hq] at hn
    exact (List.nodup_cons.1 hn).1 (List.mem_filterMap.2 ⟨p, List.mem_of_getElem? hi, hp⟩)
   | succ j => exact ih hn' (by simpa using hi) (by simpa using hj) (by omega) hp hq
theorem St.put (S : St w P bs ow ts ro W) (i : Nat) (hi : bs[i]? = some (some g, o)) (hbk : W1.heap[g]? = some o') (hb : Below w.heap.size w W1) (hg : W.grownBy W1 (some g)) : St w P (bs.set i (some g, o')) ow ts ro W1 := by
 have hk := V8 (o' := o') ow hi
 have hm : g ∈ keys bs ow := mem_keys (List.mem_of_getElem? hi) rfl
 refine ⟨hb, fun p hp q hq => ?_, by rw [hk]; exact fun k h => ⟨(S.new k h).1, Nat.lt_of_lt_of_le (S.new k h).2 hg.size⟩, by rw [hk]; exact S.nd, fun t ht => ?_, fun r hr => ?_, fun c hc => ?_⟩
 ·obtain ⟨j, hj⟩ := List.mem_iff_getElem?.1 hp
  rw [List.getElem?_set] at hj
  by_cases hij : i = j
  ·subst hij
   rw [if_pos rfl] at hj
   split at hj
   ·injection hj with e; subst e; rw [← Option.some.inj hq]; exact hbk
   ·cases hj
  ·rw [if_neg hij] at hj
   exact bP (S.blk p (List.mem_of_getElem? hj) q hq) hg (fun e => aeI (List.nodup_append.1 S.nd).1 hi hj hij rfl (by rw [hq]; exact e))
 ·rw [hk]; exact Kd.tZ (S.tree t ht) hg (fun k h e => h.2 (by rw [Option.some.inj e]; exact hm))
 ·rw [hk]
  have hrg : r.1.ownBlock ≠ some g := fun e => (List.nodup_append.1 S.nd).2.2 g (List.mem_filterMap.2 ⟨_, List.mem_of_getElem? hi, rfl⟩) g (List.mem_flatMap.2 ⟨r, hr, by simp [e]⟩) rfl
  exact Kd.tY (S.own r hr) hg (fun k h e => h.elim (fun h1 => h1.2 (by rw [Option.some.inj e]; exact hm)) (fun h1 => hrg (by rw [h1]; exact e)))
 ·rw [hk]; exact ⟨MG hg (S.cell c hc).1 (fun e => (S.cell c hc).2 (by rw [e]; exact hm)), (S.cell c hc).2⟩
def jh (x : ai) (A : Option Addr) (c : Nat) : List Value := [.int .u8 x.f0, .int .i64 x.f1.f0, .int .i64 x.f1.f1, .int .i64 x.f1.f2, .int .i64 x.f1.f3, .int .i64 x.f2, .slice A x.f3.length c]
theorem St.bF {n : Nat} (S : St w P bs [(.slice (some ⟨g, 0, none⟩) n cap, l)] ts ro W) (i : Int) (h0 : 0 ≤ i) (h1 : i < l.length) (x : ai) {A : Option Addr} {c : Nat} (hm : (.slice A x.f3.length c, x.f3) ∈ ts) (hW : W1 = W.setCells g (i.toNat * 7 + 0) (jh x A c)) :
  St w P bs [(.slice (some ⟨g, 0, none⟩) n cap, l.set i.toNat x)] ts ro W1 ∧ W.grownBy W1 (some g) := by
 have hN := S.own _ (List.mem_singleton.2 rfl)
 have hob : (Value.slice (some ⟨g, 0, none⟩) n cap).ownBlock = some g := by simp [Value.ownBlock]
 have hmem : g ∈ keys bs [(.slice (some ⟨g, 0, none⟩) n cap, l)] := eP.2 (.inr hob)
 have hn : n = l.length := (Kd.jo hN).1
 obtain ⟨c0, hcl, hM, hcc, hfr⟩ := Kd.wC hN z26 i h0 (by rw [hn]; exact h1)
 obtain ⟨hl1, hl2, hF⟩ := Kd.zM (S.tree _ hm)
 have JD := o8 W _ x hl2 hF
 have hseg := Kd.Qm hN i h0 (by rw [hn]; exact h1) (bF := jh x A c) (j := 0) hcl hcc (show 0 + 7 ≤ 7 from by decide) (x' := x) (dY := Ok w P (keys bs [(.slice (some ⟨g, 0, none⟩) n cap, l)])) (by
  have e : c0.take 0 ++ jh x A c ++ c0.drop (0 + (jh x A c).length) = jh x A c := by
   rw [show (0 + (jh x A c).length) = c0.length by rw [hcl]; rfl, List.drop_length, List.take_zero, List.nil_append, List.append_nil]
  rw [e]; exact JD) (fun k hk => ⟨.inl hk, fun e => hk.2 (by rw [e]; exact hmem)⟩)
 have Af : Kd.N k26 26 W1 w.heap.size (fun k => Ok w P (keys bs [(.slice (some ⟨g, 0, none⟩) n cap, l)]) k ∨ (Value.slice (some ⟨g, 0, none⟩) n cap).ownBlock = some k) (.slice (some ⟨g, 0, none⟩) n cap) (l.set i.toNat x) ∧ W.grownBy W1 (some g) := by rw [hW]; exact hseg
 have hne : ∀ p, p ∈ bs → p.1 ≠ some g := fun p hp e => (List.nodup_append.1 S.nd).2.2 g (List.mem_filterMap.2 ⟨p, hp, e⟩) g (by simp [hob]) rfl
 refine ⟨⟨grown_below S.below Af.2 (S.new g hmem).1 S.below.size, fun p hp q hq => bP (S.blk p hp q hq) Af.2 (fun e => hne p hp (by rw [hq]; exact e)), fun k h => ⟨(S.new k h).1, Nat.lt_of_lt_of_le (S.new k h).2 Af.2.size⟩, S.nd, fun t ht => ?_, fun r hr => ?_, fun c hc => ?_⟩, Af.2⟩
 ·exact Kd.tZ (S.tree t ht) Af.2 (fun k h e => h.2 (by rw [Option.some.inj e]; exact hmem))
 ·rw [List.mem_singleton] at hr
  subst hr
  exact Af.1
 ·exact ⟨MG Af.2 (S.cell c hc).1 (fun e => (S.cell c hc).2 (by rw [e]; exact hmem)), (S.cell c hc).2⟩
theorem St.free (S : St w P bs [(v, l)] ts ro W) : St w P bs [] ((v, l) :: ts) ro W := by
 have hk : ∀ k, k ∈ keys bs [] → k ∈ keys bs [(v, l)] := fun k h => eP.2 (.inl h)
 have hne : ∀ k, k ∈ keys bs [] → v.ownBlock ≠ some k := fun k h e => (List.nodup_append.1 S.nd).2.2 k (by simpa [keys] using h) k (by simp [e]) rfl
 refine ⟨S.below, S.blk, fun k h => S.new k (hk k h), ?_, fun t ht => ?_, fun _ h => (by cases h), fun c hc => ⟨(S.cell c hc).1, fun h => (S.cell c hc).2 (hk _ h)⟩⟩
 ·simp only [keys, List.flatMap_nil, List.append_nil]; exact (List.nodup_append.1 S.nd).1
 ·rcases List.mem_cons.1 ht with rfl | ht
  ·exact Kd.iP (Kd.D6 (S.own _ (List.mem_singleton.2 rfl))) (fun k h => h.elim (fun h1 => ⟨h1.1, fun h2 => h1.2 (hk k h2)⟩) (fun h1 => ⟨.inr (S.new k (eP.2 (.inr h1))).1, fun h2 => hne k h2 h1⟩))
  ·exact Kd.iP (S.tree t ht) (fun k h => ⟨h.1, fun h2 => h.2 (hk k h2)⟩)
theorem St.I_ (S : St w P bs [(v, l)] ts ro W) : Kd.N k26 26 W w.heap.size (fun k => P k ∨ w.heap.size ≤ k) v l :=
 Kd.iM (S.own _ (List.mem_singleton.2 rfl)) (fun k h => h.elim (fun h1 => h1.1) (fun h1 => .inr (S.new k (eP.2 (.inr h1))).1))
theorem St.QZ (S : St w P bs ow ts ro W) (hm : (v, l) ∈ ts) : Kd.V k26 26 W b0 (fun k => P k ∨ w.heap.size ≤ k) v l := fC (Kd.iP (S.tree _ hm) (fun _ h => h.1))
theorem St.at (S : St w P bs ow ts ro W) {cs : Array Value} {t : TypeId} (hm : (some g, .cells cs t (0, 0)) ∈ bs) (j : Nat) : W.cell? ⟨g, j, none⟩ = cs[j]? := af (S.blk _ hm g rfl) j
theorem St.elem (S : St w P bs ow ts ro W) {A : Option Addr} {n c : Nat} (hm : (.slice A n c, l) ∈ ts) (i : Int) (h0 : 0 ≤ i) (h1 : i < l.length) :
  ∃ ad ua uc, A = some ad ∧ St w P bs ow ((.slice ua (aj l i).f3.length uc, (aj l i).f3) :: ts) ((ad.add (i.toNat * 7), .int .u8 (aj l i).f0) :: (⟨(ad.add (i.toNat * 7)).block, (ad.add (i.toNat * 7)).off + 1, none⟩, .int .i64 (aj l i).f1.f0) :: (⟨(ad.add (i.toNat * 7)).block, (ad.add (i.toNat * 7)).off + 2, none⟩, .int .i64 (aj l i).f1.f1) :: (⟨(ad.add (i.toNat * 7)).block, (ad.add (i.toNat * 7)).off + 3, none⟩, .int .i64 (aj l i).f1.f2) :: (⟨(ad.add (i.toNat * 7)).block, (ad.add (i.toNat * 7)).off + 4, none⟩, .int .i64 (aj l i).f1.f3) :: (⟨(ad.add (i.toNat * 7)).block, (ad.add (i.toNat * 7)).off + 5, none⟩, .int .i64 (aj l i).f2) :: (⟨(ad.add (i.toNat * 7)).block, (ad.add (i.toNat * 7)).off + 6, none⟩, .slice ua (aj l i).f3.length uc) :: ro) W := by
 have hV := S.tree _ hm
 obtain ⟨hn, hl, hF⟩ := Kd.zM hV
 obtain ⟨ad, ua, uc, ek, y0, y1, y2, y3, y4, y5, y6, JH, hgu⟩ := n_ (Kd.Fj hF) i h0 h1
 subst ek
 obtain ⟨ad2, ce, e2, hcl, hFK, hcc, hok⟩ := Kd.Qc hF z26 i h0 h1
 injection e2 with e2
 subst e2
 obtain ⟨ub, ud, rfl, lub, fub⟩ := mP hFK
 have e6 := hcc 6 _ rfl
 rw [show k26.sz = 7 from rfl, jO _ _ 6 (by omega)] at e6
 have e7 := Option.some.inj (e6.symm.trans y6)
 injection e7 with ea en ec
 subst ea
 subst ec
 have hO := (hok (by decide)).2
 have MS : (ad.add (i.toNat * 7)).block ∉ keys bs ow := by rw [add_block]; exact hO
 refine ⟨ad, ub, ud, rfl, (S.add (Kd.tK (base := 0) lub fub)).below, S.blk, S.new, S.nd, (S.add (Kd.tK (base := 0) lub fub)).tree, S.own, ?_⟩
 intro c hc
 rcases List.mem_cons.1 hc with rfl | hc
 ·exact ⟨y0, MS⟩
 rcases List.mem_cons.1 hc with rfl | hc
 ·exact ⟨y1, MS⟩
 rcases List.mem_cons.1 hc with rfl | hc
 ·exact ⟨y2, MS⟩
 rcases List.mem_cons.1 hc with rfl | hc
 ·exact ⟨y3, MS⟩
 rcases List.mem_cons.1 hc with rfl | hc
 ·exact ⟨y4, MS⟩
 rcases List.mem_cons.1 hc with rfl | hc
 ·exact ⟨y5, MS⟩
 rcases List.mem_cons.1 hc with rfl | hc
 ·exact ⟨y6, MS⟩
 exact S.cell c hc
end
section
variable {Pr : Program} {ops : Array Oper} {rest : List Oper} {op : Oper} {a : Act} {Q : Exit → Act → World → Prop} {w W : World} {P : Nat → Prop} {bs : List (Option Nat × Obj)} {ow : List (Value × List ai)} {ts : List (Value × List ai)} {ro : List (Addr × Value)}
theorem abh {N : Tmp} (hd : op.dst = some N) (hgd : op.guard = none) (cs : Array Value) (t : TypeId) (S : St w P bs ow ts ro W)
  (hr : (execOp a.eval op).run Pr W = .ok (.value (.pointer (some ⟨W.heap.size, 0, none⟩))) (W.alloc (.cells cs t (0, 0))))
  (h : ∀ g w1, St w P ((some g, .cells cs t (0, 0)) :: bs) ow ts ro w1 → wpList Pr ops Q rest (a.put op.dst (.pointer (some ⟨g, 0, none⟩))) w1) : wpList Pr ops Q (op :: rest) a W :=
 aG hgd hd hr (fun g hg w1 hbox hb => h g w1 (S.box hg hbox hb))
theorem ac9 (i : Nat) {g : Nat} {cs : Array Value} {t0 : TypeId} (hi : bs[i]? = some (some g, .cells cs t0 (0, 0))) (t : TypeId) (p x : Operand) (ho : op.op = .store t p x) {j : Nat} (cs' : Array Value) {u : Value} {bF : List Value} (S : St w P bs ow ts ro W)
  (jS : a.eval p = .pointer (some ⟨g, j, none⟩)) (hx : a.eval x = u) (hu : u.cells.toList = bF) (ht : (Pr.info? t).map (·.size) = some bF.length) (h1 : ∀ q ∈ bF, q.oneCell' = true) (hj : j + bF.length ≤ cs.size)
  (he : cs.toList.take j ++ bF ++ cs.toList.drop (j + bF.length) = cs'.toList) (hN : op.dst = none) (hgd : op.guard = none)
  (h : ∀ w1, St w P (bs.set i (some g, .cells cs' t0 (0, 0))) ow ts ro w1 → wpList Pr ops Q rest a w1) : wpList Pr ops Q (op :: rest) a W := by
 have hm : g ∈ keys bs ow := mem_keys (List.mem_of_getElem? hi) rfl
 exact fO hN hgd t p x ho cs' jS hx hu ht h1 (S.blk _ (List.mem_of_getElem? hi) g rfl) hj he S.below S.below.size (S.new g hm).1 (fun w1 h2 h3 h4 => h w1 (S.put i hi h2 h3 h4))
theorem ZK (i : Nat) {g : Nat} {cs : Array Value} {t0 : TypeId} (hi : bs[i]? = some (some g, .cells cs t0 (0, 0))) (t : TypeId) (p x : Operand) (ho : op.op = .store t p x) {j : Nat} (cs' : Array Value) {u : Value} {bF : List Value} (S : St w P bs ow ts ro W)
  (jS : a.eval p = .pointer (some ⟨g, j, none⟩)) (hx : a.eval x = u) (hu : u.cells.toList = bF) (ht : (Pr.info? t).map (·.size) = some bF.length) (h1 : ∀ q ∈ bF, q.oneCell' = true) (hj : j + bF.length ≤ cs.size)
  (he : cs.toList.take j ++ bF ++ cs.toList.drop (j + bF.length) = cs'.toList) :
  (execOp a.eval op).run Pr W = .ok .skip (W.setCells g j bF) ∧ St w P (bs.set i (some g, .cells cs' t0 (0, 0))) ow ts ro (W.setCells g j bF) := by
 have hm : g ∈ keys bs ow := mem_keys (List.mem_of_getElem? hi) rfl
 have hb := S.blk _ (List.mem_of_getElem? hi) g rfl
 have hc := pJ hb hj he
 exact ⟨Bc t p x ho jS hx hu ht h1 hb hj, S.put i hi hc.1 (grown_below S.below hc.2 (S.new g hm).1 S.below.size) hc.2⟩
theorem PX {g n cap : Nat} {l : List ai} (i : Int) (x : ai) {A : Option Addr} {c : Nat} (p y : Operand) (ho : op.op = .store 26 p y) (S : St w P bs [(.slice (some ⟨g, 0, none⟩) n cap, l)] ts ro W) (h0 : 0 ≤ i) (h1 : i < l.length)
  (jS : a.eval p = .pointer (some ⟨g, i.toNat * 7, none⟩)) (hx : a.eval y = .agg (jh x A c).toArray) (hsz : (Pr.info? 26).map (·.size) = some 7) (hm : (.slice A x.f3.length c, x.f3) ∈ ts) :
  ∃ w1, (execOp a.eval op).run Pr W = .ok .skip w1 ∧ St w P bs [(.slice (some ⟨g, 0, none⟩) n cap, l.set i.toNat x)] ts ro w1 := by
 obtain ⟨h2, h3⟩ := S.bF i h0 h1 x hm rfl
 obtain ⟨cells, hcells⟩ := Kd.OO (S.own _ (List.mem_singleton.2 rfl)) g (by simp [Value.ownBlock])
 have hN := S.own _ (List.mem_singleton.2 rfl)
 obtain ⟨c0, hcl, hM, hcc, hfr⟩ := Kd.wC hN z26 i h0 (by rw [(Kd.jo hN).1]; exact h1)
 have hcl : c0.length = 7 := hcl
 have hlt : i.toNat * 7 + 7 ≤ cells.size := by
  have h4 := hcc 6 _ (List.getElem?_eq_getElem (by omega))
  have h5 := af hcells (i.toNat * 7 + 6)
  have h6 : W.cell? ⟨g, i.toNat * k26.sz + 6, none⟩ = W.cell? ⟨g, i.toNat * 7 + 6, none⟩ := rfl
  rw [h6, h5] at h4
  by_cases h7 : i.toNat * 7 + 6 < cells.size
  ·omega
  ·rw [Array.getElem?_eq_none (by omega)] at h4; cases h4
 refine ⟨_, ?_, h2⟩
 rw [show i.toNat * 7 + 0 = i.toNat * 7 from rfl]
 exact Bc 26 p y ho jS hx (by rfl) hsz (by simp [jh, Value.oneCell']) hcells (by simpa [jh] using hlt)
theorem xJ {K : Act → World → Prop} (i : Nat) {g : Nat} {cs : Array Value} {t0 : TypeId} (hi : bs[i]? = some (some g, .cells cs t0 (0, 0))) (t : TypeId) (p x : Operand) (ho : op.op = .store t p x) {j : Nat} (cs' : Array Value) {u : Value} {bF : List Value} (S : St w P bs ow ts ro W)
  (hw : Region.wanted op (yielded ops a.tmps) = true) (hN : op.dst = none)
  (jS : a.eval p = .pointer (some ⟨g, j, none⟩)) (hx : a.eval x = u) (hu : u.cells.toList = bF) (ht : (Pr.info? t).map (·.size) = some bF.length) (h1 : ∀ q ∈ bF, q.oneCell' = true) (hj : j + bF.length ≤ cs.size)
  (he : cs.toList.take j ++ bF ++ cs.toList.drop (j + bF.length) = cs'.toList) (h : ∀ w1, St w P (bs.set i (some g, .cells cs' t0 (0, 0))) ow ts ro w1 → K a w1) :
  if Region.wanted op (yielded ops a.tmps) = true then Oper.wp Pr op a W K Q else K (a.put none undef) W := by
 obtain ⟨h2, h3⟩ := ZK (a := a) (Pr := Pr) i hi t p x ho cs' S jS hx hu ht h1 hj he
 exact Hl hw hN h2 (h _ h3)
theorem PW {K : Act → World → Prop} {g n cap : Nat} {l : List ai} (i : Int) (x : ai) {A : Option Addr} {c : Nat} (p y : Operand) (ho : op.op = .store 26 p y) (S : St w P bs [(.slice (some ⟨g, 0, none⟩) n cap, l)] ts ro W)
  (hw : Region.wanted op (yielded ops a.tmps) = true) (hN : op.dst = none) (h0 : 0 ≤ i) (h1 : i < l.length)
  (jS : a.eval p = .pointer (some ⟨g, i.toNat * 7, none⟩)) (hx : a.eval y = .agg (jh x A c).toArray) (hsz : (Pr.info? 26).map (·.size) = some 7) (hm : (.slice A x.f3.length c, x.f3) ∈ ts) (h : ∀ w1, St w P bs [(.slice (some ⟨g, 0, none⟩) n cap, l.set i.toNat x)] ts ro w1 → K a w1) :
  if Region.wanted op (yielded ops a.tmps) = true then Oper.wp Pr op a W K Q else K (a.put none undef) W := by
 obtain ⟨w1, hr, S1⟩ := PX (a := a) (Pr := Pr) i x p y ho S h0 h1 jS hx hsz hm
 exact Hl hw hN hr (h _ S1)
theorem St.gX {k : Option Nat} {o : Obj} (S : St w P ((k, o) :: bs) ow ts ro W) : St w P bs ow ts ro W := by
 have hin : ∀ x, x ∈ keys bs ow → x ∈ keys ((k, o) :: bs) ow := fun x h => by
  unfold keys at h ⊢
  rw [List.filterMap_cons]
  cases k with
  | none => exact h
  | some g => exact List.mem_cons_of_mem _ h
 refine ⟨S.below, fun p hp => S.blk p (List.mem_cons_of_mem _ hp), fun x hx => S.new x (hin x hx), ?_, fun t ht => Kd.iP (S.tree t ht) (fun x h => ⟨h.1, fun h2 => h.2 (hin x h2)⟩), fun r hr => Kd.iM (S.own r hr) (fun x h => h.elim (fun h1 => .inl ⟨h1.1, fun h2 => h1.2 (hin x h2)⟩) .inr), fun c hc => ⟨(S.cell c hc).1, fun h2 => (S.cell c hc).2 (hin _ h2)⟩⟩
 have h := S.nd
 unfold keys at h ⊢
 rw [List.filterMap_cons] at h
 cases k with
 | none => exact h
 | some g => exact (List.nodup_cons.1 h).2
theorem St.eU {t : Value × List ai} (S : St w P bs ow (t :: ts) ro W) : St w P bs ow ts ro W :=
 ⟨S.below, S.blk, S.new, S.nd, fun t ht => S.tree t (List.mem_cons_of_mem _ ht), S.own, S.cell⟩
theorem St.aeK {t : Value × List ai} (S : St w P bs ow ts ro W) (hm : t ∈ ts) : St w P bs ow [t] ro W :=
 ⟨S.below, S.blk, S.new, S.nd, fun x hx => by rw [List.mem_singleton.1 hx]; exact S.tree t hm, S.own, S.cell⟩
theorem St.bM {c : Addr × Value} (S : St w P bs ow ts (c :: ro) W) : St w P bs ow ts ro W :=
 ⟨S.below, S.blk, S.new, S.nd, S.tree, S.own, fun c hc => S.cell c (List.mem_cons_of_mem _ hc)⟩
theorem adg {g n cap : Nat} {l : List ai} (i : Int) (x : ai) {A : Option Addr} {c : Nat} (p y : Operand) (ho : op.op = .store 26 p y) (S : St w P bs [(.slice (some ⟨g, 0, none⟩) n cap, l)] ts ro W) (h0 : 0 ≤ i) (h1 : i < l.length)
  (jS : a.eval p = .pointer (some ⟨g, i.toNat * 7, none⟩)) (hx : a.eval y = .agg (jh x A c).toArray) (hsz : (Pr.info? 26).map (·.size) = some 7) (hm : (.slice A x.f3.length c, x.f3) ∈ ts) (hN : op.dst = none) (hgd : op.guard = none)
  (h : ∀ w1, St w P bs [(.slice (some ⟨g, 0, none⟩) n cap, l.set i.toNat x)] ts ro w1 → wpList Pr ops Q rest a w1) : wpList Pr ops Q (op :: rest) a W := by
 obtain ⟨w1, hr, S1⟩ := PX (a := a) (Pr := Pr) i x p y ho S h0 h1 jS hx hsz hm
 refine wpList_plain hgd fun K hK => ?_
 unfold Oper.wp
 rw [hr]
 show K (a.put op.dst undef) _
 rw [hN]
 exact hK a _ (h _ S1)
end
section
variable {Pr : Program} {ops : Array Oper} {rest : List Oper} {op : Oper} {a : Act} {Q : Exit → Act → World → Prop} {w W W1 : World} {P : Nat → Prop} {bs : List (Option Nat × Obj)} {ts : List (Value × List ai)} {ro : List (Addr × Value)} {v v1 : Value} {xs ys : List ai}
theorem St.He (S : St w P bs [(v, xs)] ts ro W) (hb : Below w.heap.size w W1) (hg : W.grownBy W1 v.ownBlock) (hat : v1.ownBlock = v.ownBlock ∨ ∃ b, v1.ownBlock = some b ∧ W.heap.size ≤ b) (hN : Kd.N k26 26 W1 w.heap.size (Ok w P (keys bs [])) v1 ys) :
  St w P bs [(v1, ys)] ts ro W1 := by
 have hkeep : ∀ k, k ∉ keys bs [(v, xs)] → k < W.heap.size → k ∉ keys bs [(v1, ys)] := fun k h1 h2 h3 => by
  rcases eP.1 h3 with h4 | h4
  ·exact h1 (eP.2 (.inl h4))
  ·rcases hat with e | ⟨b, e, hle⟩
   ·exact h1 (eP.2 (.inr (by rw [← e]; exact h4)))
   ·rw [e] at h4; injection h4 with h4; omega
 have hin : ∀ k, k ∈ keys bs [] → k ∈ keys bs [(v, xs)] := fun k h => eP.2 (.inl h)
 have hnb : ∀ k, k ∈ keys bs [] → v1.ownBlock ≠ some k := fun k h e => (hN.1 k e).2 h
 refine ⟨hb, fun p hp q hq => bP (S.blk p hp q hq) hg (fun e => (List.nodup_append.1 S.nd).2.2 q (List.mem_filterMap.2 ⟨p, hp, hq⟩) q (by simp [← e]) rfl), fun k hk => ?_, ?_, fun t ht => ?_, fun r hr => ?_, fun c hc => ?_⟩
 ·rcases eP.1 hk with h1 | h1
  ·exact ⟨(S.new k (hin k h1)).1, Nat.lt_of_lt_of_le (S.new k (hin k h1)).2 hg.size⟩
  ·exact ⟨Kd.qY hN k h1, Kd.Bq hN k h1⟩
 ·simp only [keys, List.flatMap_cons, List.flatMap_nil, List.append_nil]
  refine List.nodup_append.2 ⟨(List.nodup_append.1 S.nd).1, by cases v1.ownBlock <;> simp, fun q hq b hb2 => ?_⟩
  rintro rfl
  exact hnb q (by simpa [keys] using hq) (by simpa using hb2)
 ·exact Kd.iP (Kd.tZ (Kd.Dl (S.tree t ht)) hg (fun k h e => h.1.2 (eP.2 (.inr e.symm)))) (fun k h => ⟨h.1.1, hkeep k h.1.2 h.2⟩)
 ·rw [List.mem_singleton] at hr
  subst hr
  refine Kd.iM hN (fun k h => ?_)
  by_cases hk : v1.ownBlock = some k
  ·exact .inr hk
  ·exact .inl ⟨h.1, fun h2 => (eP.1 h2).elim h.2 hk⟩
 ·exact ⟨cell_grown hg (S.cell c hc).1 (fun e => (S.cell c hc).2 (eP.2 (.inr e.symm))), hkeep _ (S.cell c hc).2 (World.block_lt_of_cell? W _ (S.cell c hc).1)⟩
theorem St.AP (S : St w P bs [(v, xs)] ts ro W) : Kd.N k26 26 W w.heap.size (Ok w P (keys bs [])) v xs :=
 Kd.iM (S.own _ (List.mem_singleton.2 rfl)) (fun k h => h.elim (fun h1 => ⟨h1.1, fun h2 => h1.2 (eP.2 (.inl h2))⟩) (fun h1 => ⟨.inr (S.new k (eP.2 (.inr h1))).1, fun h2 => (List.nodup_append.1 S.nd).2.2 k (by simpa [keys] using h2) k (by simp [h1]) rfl⟩))
theorem uD {W W1 : World} (hg : W.grownBy W1 none) : Below W.heap.size W W1 := ⟨hg.os, hg.tape, hg.output, hg.size, fun k hk => hg.block k hk (by simp)⟩
theorem Ia (t : TypeId) (s x : Operand) (hgd : op.guard = none) (ho : op.op = .call { callee := .builtin .append, args := #[s, x], argTypes := #[t, t] }) (ht : Pr.underlying t = some (.slice 26)) (hinfo : (Pr.info? 26).map (fun i => (i.zero, i.size, i.bytes)) = some (some (.agg #[(.int .u8 0), (.int .i64 0), (.int .i64 0), (.int .i64 0), (.int .i64 0), (.int .i64 0), (.slice none 0 0)]), 7, 72))
  (S : St w P bs [(v, xs)] ts ro W) {A : Option Addr} {m c : Nat} (hm : (.slice A m c, ys) ∈ ts) (hs : a.eval s = v) (hx : a.eval x = .slice A m c) (hl : xs.length + ys.length ≤ 1000000000)
  (h : ∀ A1 c1 w1, St w P bs [(.slice A1 (xs ++ ys).length c1, xs ++ ys)] ts ro w1 → wpList Pr ops Q rest (a.put op.dst (.slice A1 (xs ++ ys).length c1)) w1) : wpList Pr ops Q (op :: rest) a W := by
 have hV := S.tree _ hm
 have hmy : m = ys.length := (Kd.oJ hV).1
 exact Kd.wX k26 (w0 := w) w.heap.size hgd s x t 26 _ 72 ho ht hinfo rfl (by decide) (by omega) v xs ys A m c (Ok w P (keys bs [])) (Ok w P (keys bs [(v, xs)])) hs hx S.AP (Kd.Lt hV)
  (fun k h => ⟨⟨h.1, fun h2 => h.2 (eP.2 (.inl h2))⟩, fun e => h.2 (eP.2 (.inr e.symm))⟩) (fun k h => ⟨.inr (Nat.le_trans S.below.size h), fun h2 => by have := S.lt ((eP (v := v) (l := xs)).2 (.inl h2)); omega⟩) S.below S.below.size (by omega)
  (fun v1 w1 hN hb hg hat => by
   obtain ⟨A1, c1, rfl⟩ := Kd.jE hN
   exact h A1 c1 w1 (S.He hb hg hat hN))
end
section
variable {w : World} {P : Nat → Prop} {bs bs' : List (Option Nat × Obj)} {ow : List (Value × List ai)} {ts : List (Value × List ai)} {ro : List (Addr × Value)} {W W1 : World} {b0 : Nat} {o o1 : Obj} {v v1 : Value} {xs : List Int} {ok : Nat → Prop}
def IR (base : Nat) (v : Value) (xs : List Int) (o : Obj) : Prop := ∀ W : World, (∀ g, v.ownBlock = some g → W.heap[g]? = some o) → (Kd.int .i64).R 3 W base (fun k => some k = v.ownBlock) v xs
theorem adS {b' : Nat} (h : (Kd.int .i64).R 3 W1 b0 ok v xs) (hb : b' ≤ b0) : ∃ o, (∀ g, v.ownBlock = some g → W1.heap[g]? = some o) ∧ IR b' v xs o := by
 have ht := Kd.qA (Kd.Dk rfl h) hb
 cases hv : v.ownBlock with
 | none => exact ⟨.cells #[] 0 (0, 0), fun g hg => (by cases hg), fun W hW => Kd.wE ht (fun k hk => (by rw [hv] at hk; cases hk))⟩
 | some g =>
  obtain ⟨cells, hc⟩ := Kd.H9 h g hv
  refine ⟨_, fun g' hg => (by injection hg with hg; rw [← hg]; exact hc), fun W hW => Kd.wE ht (fun k hk _ => ?_)⟩
  rw [hv] at hk
  injection hk with hk
  rw [hk, hc]
  exact hW g hv
theorem St.VA (S : St w P bs ow ts ro W) (k : Option Nat) (hk : ∀ g, k = some g → W.heap.size ≤ g ∧ W1.heap[g]? = some o) (hb : Below W.heap.size W W1) : St w P ((k, o) :: bs) ow ts ro W1 := by
 cases k with
 | none =>
  have S1 := S.call hb
  exact ⟨S1.below, fun p hp q hq => by
   rcases List.mem_cons.1 hp with rfl | hp
   ·cases hq
   ·exact S1.blk p hp q hq, S1.new, S1.nd, S1.tree, S1.own, S1.cell⟩
 | some g =>
  obtain ⟨hg, hbox⟩ := hk g rfl
  refine ⟨ak S.below hb, fun p hp q hq => ?_, fun k hk => ?_, List.nodup_cons.2 ⟨fun h => by have := (S.new g h).2; omega, S.nd⟩, fun t ht => ?_, fun r hr => ?_, fun c hc => ?_⟩
  ·rcases List.mem_cons.1 hp with rfl | hp
   ·rw [← Option.some.inj hq]; exact hbox
   ·exact aJ (S.blk p hp q hq) hb
  ·rcases List.mem_cons.1 (show k ∈ g :: keys bs ow from hk) with rfl | hk
   ·exact ⟨Nat.le_trans S.below.size hg, eH hbox⟩
   ·exact ⟨(S.new k hk).1, Nat.lt_of_lt_of_le (S.new k hk).2 hb.size⟩
  ·exact Kd.iP (Kd.lH (Kd.oI (S.tree t ht) g hg) hb) (fun k hk => ⟨hk.1.1, fun h => (List.mem_cons.1 (show k ∈ g :: keys bs ow from h)).elim hk.2 hk.1.2⟩)
  ·exact Kd.iM (Kd.qy (Kd.zJ (S.own r hr) g hg) hb) (fun k hk => hk.1.elim (fun h1 => .inl ⟨h1.1, fun h => (List.mem_cons.1 (show k ∈ g :: keys bs ow from h)).elim hk.2 h1.2⟩) .inr)
  ·exact ⟨(hb.cell (World.block_lt_of_cell? W _ (S.cell c hc).1)).trans (S.cell c hc).1, fun h => (List.mem_cons.1 (show c.1.block ∈ g :: keys bs ow from h)).elim (fun he => by have := World.block_lt_of_cell? W _ (S.cell c hc).1; omega) (S.cell c hc).2⟩
theorem St.ags (S : St w P bs ow ts ro W) (h : (Kd.int .i64).R 3 W1 W.heap.size ok v xs) (hb : Below W.heap.size W W1) : ∃ o, St w P ((v.ownBlock, o) :: bs) ow ts ro W1 ∧ IR w.heap.size v xs o := by
 obtain ⟨o, h1, h2⟩ := adS h S.below.size
 exact ⟨o, S.VA v.ownBlock (fun g hg => ⟨Kd.Bz h g hg, h1 g hg⟩) hb, h2⟩
theorem St.Jb (S : St w P ((v.ownBlock, o) :: bs) ow ts ro W) (hb : Below w.heap.size w W1) (hg : W.grownBy W1 v.ownBlock) (hat : v1.ownBlock = v.ownBlock ∨ ∃ b, v1.ownBlock = some b ∧ W.heap.size ≤ b) (ho : ∀ g, v1.ownBlock = some g → W1.heap[g]? = some o1) :
  St w P ((v1.ownBlock, o1) :: bs) ow ts ro W1 := by
 have kc : ∀ (x : Value) (o : Obj) k, k ∈ keys ((x.ownBlock, o) :: bs) ow ↔ x.ownBlock = some k ∨ k ∈ keys bs ow := fun x o k => by
  unfold keys
  rw [List.filterMap_cons]
  cases x.ownBlock with
  | none => simp
  | some g => simp [eq_comm]
 have hnv : ∀ k, k ∈ keys bs ow → v.ownBlock ≠ some k := fun k hk e => by
  have h := S.nd
  unfold keys at h hk
  rw [List.filterMap_cons, e] at h
  exact (List.nodup_cons.1 h).1 hk
 have hnb : (keys bs ow).Nodup := by
  have h := S.nd
  unfold keys at h ⊢
  rw [List.filterMap_cons] at h
  split at h
  ·exact h
  ·exact (List.nodup_cons.1 h).2
 have hin : ∀ k, k ∈ keys bs ow → k ∈ keys ((v.ownBlock, o) :: bs) ow := fun k h => (kc v o k).2 (.inr h)
 have hnew : ∀ k, k ∈ keys bs ow → v1.ownBlock ≠ some k := fun k hk e => by
  rcases hat with h | ⟨b, h, hle⟩
  ·exact hnv k hk (by rw [← h]; exact e)
  ·rw [h] at e; injection e with e; have := S.lt (hin k hk); omega
 have hkeep : ∀ k, k ∉ keys ((v.ownBlock, o) :: bs) ow → k < W.heap.size → k ∉ keys ((v1.ownBlock, o1) :: bs) ow := fun k h1 h2 h3 => by
  rcases (kc v1 o1 k).1 h3 with h4 | h4
  ·rcases hat with h | ⟨b, h, hle⟩
   ·exact h1 ((kc v o k).2 (.inl (by rw [← h]; exact h4)))
   ·rw [h] at h4; injection h4 with h4; omega
  ·exact h1 (hin k h4)
 refine ⟨hb, fun p hp q hq => ?_, fun k hk => ?_, ?_, fun t ht => ?_, fun r hr => ?_, fun c hc => ?_⟩
 ·rcases List.mem_cons.1 hp with rfl | hp
  ·exact ho q hq
  ·exact bP (S.blk p (List.mem_cons_of_mem _ hp) q hq) hg (fun e => hnv q (mem_keys hp hq) e.symm)
 ·rcases (kc v1 o1 k).1 hk with h1 | h1
  ·rcases hat with h | ⟨b, h, hle⟩
   ·have := S.new k ((kc v o k).2 (.inl (by rw [← h]; exact h1)))
    exact ⟨this.1, Nat.lt_of_lt_of_le this.2 hg.size⟩
   ·rw [h] at h1
    injection h1 with h1
    subst h1
    exact ⟨Nat.le_trans S.below.size hle, eH (ho b h)⟩
  ·exact ⟨(S.new k (hin k h1)).1, Nat.lt_of_lt_of_le (S.new k (hin k h1)).2 hg.size⟩
 ·unfold keys
  rw [List.filterMap_cons]
  cases hv1 : v1.ownBlock with
  | none => exact hnb
  | some g => exact List.nodup_cons.2 ⟨fun h => hnew g h hv1, hnb⟩
 ·exact Kd.iP (Kd.tZ (Kd.Dl (S.tree t ht)) hg (fun k h e => h.1.2 ((kc v o k).2 (.inl e.symm)))) (fun k h => ⟨h.1.1, hkeep k h.1.2 h.2⟩)
 ·have hrv : ∀ k, r.1.ownBlock = some k → some k ≠ v.ownBlock := fun k h1 e => hnv k (List.mem_append.2 (.inr (List.mem_flatMap.2 ⟨r, hr, by simp [h1]⟩))) e.symm
  exact Kd.iM (Kd.tY (Kd.yU (S.own r hr)) hg (fun k h e => h.1.elim (fun h1 => h1.2 ((kc v o k).2 (.inl e.symm))) (fun h1 => hrv k h1 e))) (fun k h => h.1.imp (fun h1 => ⟨h1.1, hkeep k h1.2 h.2⟩) id)
 ·exact ⟨cell_grown hg (S.cell c hc).1 (fun e => (S.cell c hc).2 ((kc v o _).2 (.inl e.symm))), hkeep _ (S.cell c hc).2 (World.block_lt_of_cell? W _ (S.cell c hc).1)⟩
end
section
variable {Pr : Program} {ops : Array Oper} {rest : List Oper} {op : Oper} {a : Act} {Q : Exit → Act → World → Prop} {w W : World} {P : Nat → Prop} {bs : List (Option Nat × Obj)} {ow : List (Value × List ai)} {ts : List (Value × List ai)} {ro : List (Addr × Value)} {v : Value} {xs : List Int} {o : Obj}
end
section
variable {w : World} {P : Nat → Prop} {bs : List (Option Nat × Obj)} {ts : List (Value × List ai)} {ro : List (Addr × Value)} {W : World} {l : List ai} {g n cap : Nat}
theorem St.O4 (S : St w P bs [(.slice (some ⟨g, 0, none⟩) n cap, l)] ts ro W) (i : Int) (h0 : 0 ≤ i) (h1 : i < l.length) :
  ∃ ua uc, St w P bs [(.slice (some ⟨g, 0, none⟩) n cap, l)] ((.slice ua (aj l i).f3.length uc, (aj l i).f3) :: ts) ro W ∧ ∀ (j : Nat) (u : Value), (jh (aj l i) ua uc)[j]? = some u → W.cell? ⟨g, i.toNat * 7 + j, none⟩ = some u := by
 have hN := S.own _ (List.mem_singleton.2 rfl)
 have hob : (Value.slice (some ⟨g, 0, none⟩) n cap).ownBlock = some g := by simp [Value.ownBlock]
 obtain ⟨c0, hcl, hM, hcc, hfr⟩ := Kd.wC hN z26 i h0 (by rw [(Kd.jo hN).1]; exact h1)
 obtain ⟨A6, c6, rfl, l6, g6⟩ := mP hM
 have l6 : (aj l i).f3.length ≤ c6 := l6
 have g6 : Kd.F k26 W _ A6 (aj l i).f3.length (aj l i).f3 := g6
 exact ⟨A6, c6, S.add (b0 := 0) (Kd.tK l6 (Kd.qW g6 (fun k hk => hk.1.elim id (fun e => absurd (by rw [hob] at e; exact (Option.some.inj e).symm) hk.2)))), fun j u h => hcc j u h⟩
end
section
variable {Pr : Program} {ops : Array Oper} {rest : List Oper} {op : Oper} {a : Act} {Q : Exit → Act → World → Prop} {Kc : Act → World → Prop} {w W : World} {P : Nat → Prop} {bs : List (Option Nat × Obj)} {ts : List (Value × List ai)} {ro : List (Addr × Value)}
end
section
variable {Pr : Program} {ops : Array Oper} {md : Region.Mode} {Q : Exit → Act → World → Prop} {S : World → Prop} {ds : List Nat} {T : Bool × List (List Nat × List Nat)} {B : List Nat} {fuel : Nat} {l : Array Bool} {a a' : Act} {w : World} {v : Value} {oi : Oper}
def bA (n m : Nat) : Array Bool := ((List.range n).map fun i => m.testBit i).toArray
theorem aC (i : Nat) (N : Tmp) (l' : Array Bool) (HT : ae (iJ md ops = T)) (h : bD Pr md ops Q S ds fuel l' a' w) (hi : ops[i]? = some oi := by rfl) (hN : oi.dst = some N := by rfl) (hc : Qu T l.toList l'.toList i = true := by kernel_rfl)
  (hQ : ∀ c a w, Q (.panic c) (a.put oi.dst v) w → Q (.panic c) a w := by exact fun _ _ _ h => h) (hw : Region.wanted oi (yielded ops a.tmps) = true := by rfl) (hv : ∀ w, (execOp a.eval oi).run Pr w = .ok (.value v) w := by intro w'; go_simp; with_reducible rfl)
  (ha : a.put (some N) v = a' := by simp only [Act.put, List.setIfInBounds_toArray, List.set_cons_zero, List.set_cons_succ, lU, lT]; rfl) : bD Pr md ops Q S ds (fuel + 1) l a w :=
 vV l' hi hN (sD HT.out hc) hQ (.inl ⟨hw, hv⟩) ha h
theorem mJ (i : Nat) (N : Tmp) (l' : Array Bool) (HT : ae (iJ md ops = T)) (h : bD Pr md ops Q S ds fuel l' a' w) (hi : ops[i]? = some oi := by rfl) (hN : oi.dst = some N := by rfl) (hc : Qu T l.toList l'.toList i = true := by kernel_rfl)
  (hQ : ∀ c a w, Q (.panic c) (a.put oi.dst undef) w → Q (.panic c) a w := by exact fun _ _ _ h => h) (hw : Region.wanted oi (yielded ops a.tmps) = false := by rfl)
  (ha : a.put (some N) undef = a' := by simp only [Act.put, List.setIfInBounds_toArray, List.set_cons_zero, List.set_cons_succ, lU, lT]; rfl) : bD Pr md ops Q S ds (fuel + 1) l a w :=
 vV l' hi hN (sD HT.out hc) hQ (.inr ⟨hw, rfl⟩) ha h
theorem eQ (i : Nat) (N : Tmp) (l' : Array Bool) (HT : ae (iJ md ops = T)) (HW : ae (jm T.2 B = true)) (hS : S w) (h : bD Pr md ops Q S ds fuel l' a' w) (hi : ops[i]? = some oi := by rfl) (hN : oi.dst = some N := by rfl)
  (hc : Ru T B ds l.toList l'.toList i = true := by kernel_rfl) (hQ : ∀ c a w, Q (.panic c) (a.put oi.dst v) w → Q (.panic c) a w := by exact fun _ _ _ h => h) (hw : Region.wanted oi (yielded ops a.tmps) = true := by rfl) (hv : ∀ w, S w → (execOp a.eval oi).run Pr w = .ok (.value v) w)
  (ha : a.put (some N) v = a' := by simp only [Act.put, List.setIfInBounds_toArray, List.set_cons_zero, List.set_cons_succ, lU, lT]; rfl) : bD Pr md ops Q S ds (fuel + 1) l a w :=
 Bd l' hi hN (yu HT.out HW.out hc) hQ (.inl ⟨hw, hv⟩) hS ha h
end
theorem dG {α : Type} {a0 x : α} {l : List α} : x ∈ a0 :: x :: l := (.tail _ (.head _))
theorem dX {α : Type} {a0 a1 x : α} {l : List α} : x ∈ a0 :: a1 :: x :: l := (.tail _ (.tail _ (.head _)))
theorem jT {α : Type} {a0 a1 a2 x : α} {l : List α} : x ∈ a0 :: a1 :: a2 :: x :: l := (.tail _ (.tail _ (.tail _ (.head _))))
theorem wG {α : Type} {a0 a1 a2 a3 x : α} {l : List α} : x ∈ a0 :: a1 :: a2 :: a3 :: x :: l := (.tail _ (.tail _ (.tail _ (.tail _ (.head _)))))
theorem Ea {α : Type} {a0 a1 a2 a3 a4 x : α} {l : List α} : x ∈ a0 :: a1 :: a2 :: a3 :: a4 :: x :: l := (.tail _ (.tail _ (.tail _ (.tail _ (.tail _ (.head _))))))
theorem GV {α : Type} {a0 a1 a2 a3 a4 a5 x : α} {l : List α} : x ∈ a0 :: a1 :: a2 :: a3 :: a4 :: a5 :: x :: l := (.tail _ (.tail _ (.tail _ (.tail _ (.tail _ (.tail _ (.head _)))))))
theorem mm7 {α : Type} {a0 a1 a2 a3 a4 a5 a6 x : α} {l : List α} : x ∈ a0 :: a1 :: a2 :: a3 :: a4 :: a5 :: a6 :: x :: l := (.tail _ (.tail _ (.tail _ (.tail _ (.tail _ (.tail _ (.tail _ (.head _))))))))
theorem mm8 {α : Type} {a0 a1 a2 a3 a4 a5 a6 a7 x : α} {l : List α} : x ∈ a0 :: a1 :: a2 :: a3 :: a4 :: a5 :: a6 :: a7 :: x :: l := (.tail _ (.tail _ (.tail _ (.tail _ (.tail _ (.tail _ (.tail _ (.tail _ (.head _)))))))))
theorem mm9 {α : Type} {a0 a1 a2 a3 a4 a5 a6 a7 a8 x : α} {l : List α} : x ∈ a0 :: a1 :: a2 :: a3 :: a4 :: a5 :: a6 :: a7 :: a8 :: x :: l := (.tail _ (.tail _ (.tail _ (.tail _ (.tail _ (.tail _ (.tail _ (.tail _ (.tail _ (.head _))))))))))
theorem Bf {a b : Int} (h : a = b) : (a == b) = true ∧ (a != b) = false ∧ decide (a = b) = true := ⟨beq_iff_eq.mpr h, bne_eq_false_iff_eq.mpr h, decide_eq_true h⟩
theorem eqF {a b : Int} (h : a ≠ b) : (a == b) = false ∧ (a != b) = true ∧ decide (a = b) = false := ⟨beq_eq_false_iff_ne.mpr h, bne_iff_ne.mpr h, decide_eq_false h⟩
theorem qO {a b : Int} (h : a < b) : decide (a < b) = true ∧ decide (b > a) = true := ⟨decide_eq_true h, decide_eq_true h⟩
theorem lu {a b : Int} (h : ¬ a < b) : decide (a < b) = false ∧ decide (b > a) = false := ⟨decide_eq_false h, decide_eq_false h⟩
end Go.Proofs.Ytfdmfgaiblfbhaa.P
namespace Go.Proofs.Ytfdmfgaiblfbhaa.P
open Go.RowKit Go.Proofs.ag.aA Go.Proofs.ag.a_ Go.Proofs.ag.bG
attribute [local go_sem] jf jr jG jR iV iW jB jC
mutual
def bT.l0 : Nat → Int → List Int → List Int → Option (List Int)
 | 0, _, _, _ => none
 | k + 1, x0, x1, x5 => if x0 > 0 then (bT.l1 k x0 x1 x5 0 x0 x1 (x1.length : Int) 0) else (some x5)
def bT.l1 : Nat → Int → List Int → List Int → Int → Int → List Int → Int → Int → Option (List Int)
 | 0, _, _, _, _, _, _, _, _ => none
 | k + 1, x0, x1, x5, x6, x7, x20, x21, Ef => if Ef < x21 then (if 0 ≤ Ef then (if Ef < (x20.length : Int) then (if Ef < (x5.length : Int) then (if (wrap64 ((rd x20 Ef) + (rd x5 Ef))) > 0 then (bT.l1 k x0 x1 x5 (wrap64 (x6 + 1)) (mn x7 (wrap64 ((rd x20 Ef) + (rd x5 Ef)))) x20 x21 (wrap64 (Ef + 1))) else (bT.l1 k x0 x1 x5 x6 x7 x20 x21 (wrap64 (Ef + 1)))) else (none)) else (none)) else (none)) else (if x6 = 0 then (none) else (bT.l2 k x0 x1 x5 (mx 1 (mn x7 (wrap64 (Int.tdiv x0 x6)))) x1 (x1.length : Int) 0))
def bT.l2 : Nat → Int → List Int → List Int → Int → List Int → Int → Int → Option (List Int)
 | 0, _, _, _, _, _, _, _ => none
 | k + 1, x0, x1, x5, x10, Va, XV, CY => if CY < XV then (if 0 ≤ CY then (if CY < (Va.length : Int) then (if CY < (x5.length : Int) then (if (wrap64 ((rd Va CY) + (rd x5 CY))) > 0 then (if x0 > 0 then (bT.l2 k (wrap64 (x0 - (mn x10 x0))) x1 (x5.set (CY : Int).toNat (wrap64 ((rd x5 CY) - (mn x10 x0)))) x10 Va XV (wrap64 (CY + 1))) else (bT.l2 k x0 x1 x5 x10 Va XV (wrap64 (CY + 1)))) else (bT.l2 k x0 x1 x5 x10 Va XV (wrap64 (CY + 1)))) else (none)) else (none)) else (none)) else (bT.l0 k x0 x1 x5)
end
def bT.f (k : Nat) (a0 : Int) (l1 : List Int) : Option (List Int) := if 0 ≤ (l1.length : Int) then (if ((l1.length : Int) : Int).toNat ≤ 35184372088832 then (bT.l0 k a0 l1 (List.replicate ((l1.length : Int) : Int).toNat 0)) else (none)) else (none)
end Go.Proofs.Ytfdmfgaiblfbhaa.P
namespace Go.Proofs.Ytfdmfgaiblfbhaa.P
open Go.RowKit Go.Proofs.ag.aA Go.Proofs.ag.a_ Go.Proofs.ag.bG
def GX (a n : Int) (i : Int) : Int := a / n + if i < a % n then 1 else 0
def moreL (a : Int) (n : Nat) : List Int := (List.range n).map fun i => GX a n (i : Nat)
theorem NJ (a : Int) (n : Nat) : (moreL a n).length = n := by simp [moreL]
def D8.f (a0 a1 : Int) : Option (List Int) := if 0 ≤ a0 ∧ a0 ≤ 9000000000000000000 ∧ 1 ≤ a1 ∧ a1 ≤ 100000 then some (moreL a0 a1.toNat) else none
end Go.Proofs.Ytfdmfgaiblfbhaa.P
namespace Go.Proofs.Ytfdmfgaiblfbhaa.P
open Go.RowKit Go.Proofs.ag.aA Go.Proofs.ag.a_ Go.Proofs.ag.bG
attribute [local go_sem] jf jr jG jR iV iW jB jC
mutual
def bV.l0 : Nat → Int → List Int → Int → List Int → Int → Int → Option (List Int × Bool)
 | 0, _, _, _, _, _, _ => none
 | k + 1, x0, x1, x6, x9, x10, x11 => if x11 < x10 then (if 0 ≤ x11 then (if x11 < (x9.length : Int) then (if (rd x9 x11) < 0 then (some (([] : List Int), false)) else (if (rd x9 x11) > 2147483647 then (some (([] : List Int), false)) else (bV.l0 k x0 x1 (mn 2147483647 (wrap64 (x6 + (rd x9 x11)))) x9 x10 (wrap64 (x11 + 1))))) else (none)) else (none)) else (if (x1.length : Int) = 0 then (bV.j1 k x0 x1 true) else (if x0 < (wrap64 (-x6)) then (bV.j1 k x0 x1 true) else (bV.j1 k x0 x1 (decide (x0 > 2147483647)))))
def bV.j1 : Nat → Int → List Int → Bool → Option (List Int × Bool)
 | 0, _, _, _ => none
 | k + 1, x0, x1, x26 => if x26 = true then (some (([] : List Int), false)) else (if x0 ≥ 0 then ((D8.f x0 (x1.length : Int)).bind fun agt => (some (agt, true))) else ((bT.f k (wrap64 (-x0)) x1).bind fun agu => (some (agu, true))))
end
def bV.f (k : Nat) (a0 : Int) (l1 : List Int) : Option (List Int × Bool) := bV.l0 k a0 l1 0 l1 (l1.length : Int) 0
def lJ.l0 : Nat → List Int → List Int → Int → Int → Option (Bool)
 | 0, _, _, _, _ => none
 | k + 1, x0, x1, x12, zC => if zC < x12 then (if 0 ≤ zC then (if zC < (x0.length : Int) then (if zC < (x1.length : Int) then (if (rd x0 zC) = (rd x1 zC) then (lJ.l0 k x0 x1 x12 (wrap64 (zC + 1))) else (some false)) else (none)) else (none)) else (none)) else (some true)
def lJ.f (k : Nat) (l0 : List Int) (l1 : List Int) : Option (Bool) := if (l0.length : Int) = (l1.length : Int) then (lJ.l0 k l0 l1 (l0.length : Int) 0) else (some false)
def XI.f (k : Nat)  : Option (Bool) := (bV.f k 5 (([0, 0, 0] : List Int))).bind fun Xl => ((bV.f k (-5) (([1, 9, 2] : List Int))).bind fun Xm => (if Xl.2 = true then ((lJ.f k Xl.1 (([2, 2, 1] : List Int))).bind fun agv => (if agv = true then (if Xm.2 = true then ((lJ.f k Xm.1 (([(-1), (-2), (-2)] : List Int))).bind fun agw => (some agw)) else (some false)) else (some false))) else (some false)))
end Go.Proofs.Ytfdmfgaiblfbhaa.P
namespace Go.Proofs.Ytfdmfgaiblfbhaa.P
open Go.RowKit Go.Proofs.ag.aA Go.Proofs.ag.a_ Go.Proofs.ag.bG
def xy (left : Int) (p : Int × Int) : Int × (Int × Int) := if left > 0 then (left - 1, (p.1, p.2 + 1)) else if left < 0 ∧ p.1 + p.2 > 0 then (left + 1, (p.1, p.2 - 1)) else (left, p)
def wK : Int → List (Int × Int) → Int × List (Int × Int)
 | l, [] => (l, [])
 | l, p :: ps => ((wK (xy l p).1 ps).1, (xy l p).2 :: (wK (xy l p).1 ps).2)
def uK : Nat → Int → List (Int × Int) → Option (List Int × Bool)
 | 0, _, _ => none
 | k + 1, l, ps => if l = 0 then some (ps.map Prod.snd, true) else if (wK l ps).1 = l then some ([], false) else uK k (wK l ps).1 (wK l ps).2
def WN.f (k : Nat) (a0 : Int) (l1 : List Int) : Option (List Int × Bool) :=
 if -100000 ≤ a0 ∧ a0 ≤ 100000 ∧ l1.length ≤ 100000 then
  if l1 = [] then some ([], false)
  else if ∀ g, g ∈ l1 → 0 ≤ g ∧ g ≤ 2147483647 then uK k a0 (l1.map fun g => (g, 0)) else some ([], false)
 else none
theorem wp {x : Int} (h0 : -9223372036854775808 ≤ x) (h1 : x ≤ 9223372036854775807) : wrap64 x = x := by unfold wrap64; omega
def jJ (m : Int) : Int → List (Int × Int) → Int × List (Int × Int)
 | b, [] => (b, [])
 | b, p :: ps => if p.1 + p.2 > 0 then (if b > 0 then ((jJ m (b - mn m b) ps).1, (p.1, p.2 - mn m b) :: (jJ m (b - mn m b) ps).2) else ((jJ m b ps).1, p :: (jJ m b ps).2)) else ((jJ m b ps).1, p :: (jJ m b ps).2)
def able : List (Int × Int) → Int
 | [] => 0
 | p :: ps => (if p.1 + p.2 > 0 then 1 else 0) + able ps
def lst : Int → List (Int × Int) → Int
 | m, [] => m
 | m, p :: ps => lst (if p.1 + p.2 > 0 then mn m (p.1 + p.2) else m) ps
def uz : List (Int × Int) → Int
 | [] => 0
 | p :: ps => (p.1 + p.2) + uz ps
def outs : List (Int × Int) → Int
 | [] => 0
 | p :: ps => p.2 + outs ps
def Good (ps : List (Int × Int)) : Prop := ∀ p, p ∈ ps → 0 ≤ p.1 ∧ p.1 ≤ 2147483647 ∧ -p.1 ≤ p.2 ∧ p.2 ≤ 0
def mr (m : Int) (ps : List (Int × Int)) : List (Int × Int) := ps.map fun p => (p.1, p.2 - if p.1 + p.2 > 0 then m else 0)
def Dc (ps : List (Int × Int)) : Prop := ∀ p, p ∈ ps → ∀ q, q ∈ ps → p.2 > q.2 → p.1 + p.2 = 0
def J8 (ps : List (Int × Int)) : Prop := ∀ p, p ∈ ps → ∀ q, q ∈ ps → p.2 > q.2 + 1 → p.2 = -p.1
theorem Good.tail {p : Int × Int} {ps : List (Int × Int)} (h : Good (p :: ps)) : Good ps := fun q hq => h q (List.mem_cons_of_mem _ hq)
theorem Good.head {p : Int × Int} {ps : List (Int × Int)} (h : Good (p :: ps)) : 0 ≤ p.1 ∧ p.1 ≤ 2147483647 ∧ -p.1 ≤ p.2 ∧ p.2 ≤ 0 := h p List.mem_cons_self
theorem xu (ps : List (Int × Int)) : 0 ≤ able ps ∧ able ps ≤ ps.length := by
 induction ps with
 | nil => simp [able]
 | cons p ps ih => simp only [able, List.length_cons]; split <;> omega
theorem Vp {ps : List (Int × Int)} (hg : Good ps) (h : 0 < uz ps) : 0 < able ps := by
 induction ps with
 | nil => simp [uz] at h
 | cons p ps ih =>
  have hr := xu ps
  simp only [uz] at h
  simp only [able]
  split
  ·omega
  ·rename_i hp
   have := ih hg.tail (by omega)
   omega
theorem Uy (ps : List (Int × Int)) : ∀ m, lst m ps ≤ m := by
 induction ps with
 | nil => intro m; simp [lst]
 | cons p ps ih =>
  intro m
  simp only [lst]
  have h1 := ih (if p.1 + p.2 > 0 then mn m (p.1 + p.2) else m)
  have h2 : (if p.1 + p.2 > 0 then mn m (p.1 + p.2) else m) ≤ m := by
   split
   ·unfold mn; split <;> omega
   ·exact Int.le_refl _
  omega
theorem Zz (ps : List (Int × Int)) : ∀ m, ∀ p, p ∈ ps → p.1 + p.2 > 0 → lst m ps ≤ p.1 + p.2 := by
 induction ps with
 | nil => intro m p hp; cases hp
 | cons q ps ih =>
  intro m p hp h
  simp only [lst]
  rcases List.mem_cons.1 hp with rfl | hp
  ·rw [if_pos h]
   have h1 := Uy ps (mn m (p.1 + p.2))
   have h2 : mn m (p.1 + p.2) ≤ p.1 + p.2 := by unfold mn; split <;> omega
   omega
  ·exact ih _ p hp h
theorem ZA (ps : List (Int × Int)) : ∀ m, 0 < m → 0 < lst m ps := by
 induction ps with
 | nil => intro m h; simpa [lst] using h
 | cons q ps ih =>
  intro m h
  simp only [lst]
  apply ih
  unfold mn
  split
  ·split <;> omega
  ·exact h
theorem Eu {m : Int} (hm : 0 < m) : ∀ (ps : List (Int × Int)) (b : Int), m * able ps ≤ b → jJ m b ps = (b - m * able ps, mr m ps) := by
 intro ps
 induction ps with
 | nil => intro b _; simp [jJ, able, mr]
 | cons p ps ih =>
  intro b hb
  have hr := xu ps
  have hmn : 0 ≤ m * able ps := Int.mul_nonneg (by omega) hr.1
  simp only [able] at hb ⊢
  by_cases hp : p.1 + p.2 > 0
  ·simp only [if_pos hp] at hb ⊢
   rw [Int.mul_add, Int.mul_one] at hb ⊢
   have h1 : mn m b = m := by unfold mn; split <;> omega
   have h2 := ih (b - m) (by omega)
   simp only [jJ]
   rw [if_pos hp, if_pos (by omega), h1, h2]
   simp only [mr, List.map_cons, if_pos hp, Prod.mk.injEq, and_true]
   omega
  ·simp only [if_neg hp] at hb ⊢
   rw [Int.zero_add] at hb ⊢
   simp only [jJ]
   rw [if_neg hp, ih b hb]
   simp only [mr, List.map_cons, if_neg hp, Int.sub_zero]
theorem Vz : ∀ (ps : List (Int × Int)) (b : Int), 0 ≤ b → b ≤ able ps → (jJ 1 b ps).1 = 0 := by
 intro ps
 induction ps with
 | nil => intro b h0 h; simp only [able] at h; simp only [jJ]; omega
 | cons p ps ih =>
  intro b h0 h
  simp only [able] at h
  simp only [jJ]
  by_cases hp : p.1 + p.2 > 0
  ·rw [if_pos hp] at h ⊢
   by_cases hb : b > 0
   ·rw [if_pos hb]
    have h1 : mn 1 b = 1 := by unfold mn; split <;> omega
    rw [h1]
    exact ih (b - 1) (by omega) (by omega)
   ·rw [if_neg hb]
    exact ih b h0 (by have := xu ps; omega)
  ·rw [if_neg hp] at h ⊢
   exact ih b h0 (by omega)
theorem X_ (m : Int) : ∀ (ps : List (Int × Int)) (b : Int), (jJ m b ps).2.map Prod.fst = ps.map Prod.fst := by
 intro ps
 induction ps with
 | nil => intro b; simp [jJ]
 | cons p ps ih =>
  intro b
  simp only [jJ]
  split
  ·split <;> simp [ih]
  ·simp [ih]
theorem Ib : ∀ (ps : List (Int × Int)) (b : Int) (q : Int × Int), q ∈ (jJ 1 b ps).2 → ∃ p, p ∈ ps ∧ q.1 = p.1 ∧ (q.2 = p.2 ∨ (p.1 + p.2 > 0 ∧ q.2 = p.2 - 1)) := by
 intro ps
 induction ps with
 | nil => intro b q hq; simp [jJ] at hq
 | cons p ps ih =>
  intro b q hq
  simp only [jJ] at hq
  have key : ∀ b' , q ∈ (jJ 1 b' ps).2 → ∃ PS, PS ∈ p :: ps ∧ q.1 = PS.1 ∧ (q.2 = PS.2 ∨ (PS.1 + PS.2 > 0 ∧ q.2 = PS.2 - 1)) := fun b' h => by
   obtain ⟨p', h1, h2⟩ := ih b' q h
   exact ⟨p', List.mem_cons_of_mem _ h1, h2⟩
  split at hq
  ·rename_i hp
   split at hq
   ·rename_i hb
    simp only [List.mem_cons] at hq
    rcases hq with rfl | hq
    ·refine ⟨p, List.mem_cons_self, rfl, .inr ⟨hp, ?_⟩⟩
     have h1 : mn 1 b = 1 := by unfold mn; split <;> omega
     simp only [h1]
    ·exact key _ hq
   ·simp only [List.mem_cons] at hq
    rcases hq with rfl | hq
    ·exact ⟨_, List.mem_cons_self, rfl, .inl rfl⟩
    ·exact key _ hq
  ·simp only [List.mem_cons] at hq
   rcases hq with rfl | hq
   ·exact ⟨_, List.mem_cons_self, rfl, .inl rfl⟩
   ·exact key _ hq
theorem LW (m : Int) : ∀ (ps : List (Int × Int)) (b : Int), outs (jJ m b ps).2 - (jJ m b ps).1 = outs ps - b := by
 intro ps
 induction ps with
 | nil => intro b; simp [jJ]
 | cons p ps ih =>
  intro b
  simp only [jJ]
  split
  ·split
   ·have := ih (b - mn m b); simp only [outs]; omega
   ·have := ih b; simp only [outs]; omega
  ·have := ih b; simp only [outs]; omega
theorem VL (m : Int) (ps : List (Int × Int)) : (mr m ps).map Prod.fst = ps.map Prod.fst := by simp [mr, List.map_map, Function.comp_def]
theorem Tq {m : Int} {ps : List (Int × Int)} (hm : 0 ≤ m) (hg : Good ps) (hl : ∀ p, p ∈ ps → p.1 + p.2 > 0 → m ≤ p.1 + p.2) : Good (mr m ps) := by
 intro q hq
 obtain ⟨p, hp, rfl⟩ := List.mem_map.1 hq
 have h1 := hg p hp
 have h2 := hl p hp
 simp only
 split <;> omega
theorem QB (m : Int) (ps : List (Int × Int)) : uz (mr m ps) = uz ps - m * able ps := by
 induction ps with
 | nil => simp [mr, uz, able]
 | cons p ps ih =>
  have e : mr m (p :: ps) = (p.1, p.2 - if p.1 + p.2 > 0 then m else 0) :: mr m ps := rfl
  rw [e]
  simp only [uz, able, ih]
  rw [Int.mul_add]
  split
  ·rw [Int.mul_one]; omega
  ·rw [Int.mul_zero]; omega
theorem Tn {m : Int} {ps : List (Int × Int)} (hg : Good ps) (he : Dc ps) (hm : 0 ≤ m) : Dc (mr m ps) := by
 intro p' hp' q' hq' h
 obtain ⟨p, hp, rfl⟩ := List.mem_map.1 hp'
 obtain ⟨q, hq, rfl⟩ := List.mem_map.1 hq'
 have h1 := he p hp q hq
 have h2 := hg p hp
 have h3 := hg q hq
 simp only at h ⊢
 by_cases c1 : p.1 + p.2 > 0
 ·rw [if_pos c1] at h ⊢
  by_cases c2 : q.1 + q.2 > 0
  ·rw [if_pos c2] at h; omega
  ·rw [if_neg c2] at h; omega
 ·rw [if_neg c1] at h ⊢
  by_cases c2 : q.1 + q.2 > 0
  ·rw [if_pos c2] at h; omega
  ·rw [if_neg c2] at h; omega
theorem Tt {m : Int} {ps : List (Int × Int)} (hm : 0 < m) (hl : ∀ p, p ∈ ps → p.1 + p.2 > 0 → m + 1 ≤ p.1 + p.2) : mr (m + 1) ps = mr m (mr 1 ps) ∧ able (mr 1 ps) = able ps := by
 constructor
 ·simp only [mr, List.map_map]
  apply List.map_congr_left
  intro p hp
  have := hl p hp
  simp only [Function.comp_def, Prod.mk.injEq, true_and]
  by_cases h : p.1 + p.2 > 0
  ·rw [if_pos h, if_pos h, if_pos (by omega)]; omega
  ·rw [if_neg h, if_neg h, if_neg (by omega)]; omega
 ·induction ps with
  | nil => rfl
  | cons p ps ih =>
   have e : mr 1 (p :: ps) = (p.1, p.2 - if p.1 + p.2 > 0 then 1 else 0) :: mr 1 ps := rfl
   rw [e]
   simp only [able]
   rw [ih fun q hq => hl q (List.mem_cons_of_mem _ hq)]
   have := hl p List.mem_cons_self
   by_cases h : p.1 + p.2 > 0
   ·rw [if_pos h, if_pos (by omega)]
   ·rw [if_neg h, if_neg (by omega)]
theorem Vx {ps : List (Int × Int)} {b : Int} (he : Dc ps) : J8 (jJ 1 b ps).2 := by
 intro p' hp' q' hq' h
 obtain ⟨p, hp, e1, e2⟩ := Ib ps b p' hp'
 obtain ⟨q, hq, e3, e4⟩ := Ib ps b q' hq'
 have h1 := he p hp q hq
 omega
theorem abV {ps : List (Int × Int)} (he : Dc ps) : J8 ps := by
 intro p hp q hq h
 have := he p hp q hq
 omega
theorem Vy {ps : List (Int × Int)} {b : Int} (hg : Good ps) : Good (jJ 1 b ps).2 := by
 intro p' hp'
 obtain ⟨p, hp, e1, e2⟩ := Ib ps b p' hp'
 have := hg p hp
 omega
theorem Ev.zl {α : Type} {c : Prop} [Decidable c] {g f : Nat → Option α} {r : α} (hc : c) (h : Ev g r) : Ev (fun k => if c then g k else f k) r := by simp only [if_pos hc]; exact h
theorem Ev.zk {α : Type} {c : Prop} [Decidable c] {g f : Nat → Option α} {r : α} (hc : ¬c) (h : Ev f r) : Ev (fun k => if c then g k else f k) r := by simp only [if_neg hc]; exact h
theorem G_ {α : Type} (f : α → Int) (pre : List α) (p : α) (rest : List α) : rd ((pre ++ p :: rest).map f) (pre.length : Int) = f p := by
 simp [rd, List.getD_eq_getElem?_getD]
theorem Ja (pre : List Int) (p : Int) (rest : List Int) : rd (pre ++ p :: rest) (pre.length : Int) = p := by
 simp [rd, List.getD_eq_getElem?_getD]
theorem Zx (b : Int) (q : Int) (r : List Int) (hb0 : 0 < b) (hb1 : b ≤ 2147483647) : ∀ (rest pre : List (Int × Int)) (A L : Int), Good (pre ++ rest) → (pre ++ rest).length ≤ 100000 → 0 ≤ A → A ≤ pre.length →
  A + able rest ≠ 0 → q = mx 1 (mn (lst L rest) (b / (A + able rest))) →
  Ev (fun k => bT.l2 k b ((pre ++ rest).map Prod.fst) ((pre ++ rest).map Prod.snd) q ((pre ++ rest).map Prod.fst) ((pre ++ rest).length : Int) 0) r →
  Ev (fun k => bT.l1 k b ((pre ++ rest).map Prod.fst) ((pre ++ rest).map Prod.snd) A L ((pre ++ rest).map Prod.fst) ((pre ++ rest).length : Int) (pre.length : Int)) r := by
 intro rest
 induction rest with
 | nil =>
  intro pre A L hg hl h0 h1 hne hq h
  refine Ev.step (f := fun k => bT.l2 k b ((pre ++ []).map Prod.fst) ((pre ++ []).map Prod.snd) q ((pre ++ []).map Prod.fst) ((pre ++ []).length : Int) 0) (fun k => ?_) h
  simp only [bT.l1]
  simp only [able, Int.add_zero, lst] at hne hq
  have hdiv : wrap64 (Int.tdiv b A) = b / A := by
   rw [Int.tdiv_eq_ediv_of_nonneg (by omega)]
   have h2 : 0 ≤ b / A := Int.ediv_nonneg (by omega) h0
   have h3 : b / A ≤ b := Int.ediv_le_self _ (by omega)
   exact wp (by omega) (by omega)
  rw [if_neg (by simp), if_neg hne, hdiv, ← hq]
  simp
 | cons p rest ih =>
  intro pre A L hg hl h0 h1 hne hq h
  have hp := hg p (by simp)
  have hlen : ((pre ++ p :: rest).length : Int) = pre.length + (rest.length + 1) := by simp
  have hl' : (pre.length : Int) + (rest.length + 1) ≤ 100000 := by omega
  have hw : wrap64 ((pre.length : Int) + 1) = ((pre ++ [p]).length : Int) := by rw [wp (by omega) (by omega)]; simp
  have e : pre ++ p :: rest = (pre ++ [p]) ++ rest := by simp
  have hsum : wrap64 (p.1 + p.2) = p.1 + p.2 := wp (by omega) (by omega)
  refine Ev.step (f := fun k => bT.l1 k b (((pre ++ [p]) ++ rest).map Prod.fst) (((pre ++ [p]) ++ rest).map Prod.snd) (A + if p.1 + p.2 > 0 then 1 else 0) (if p.1 + p.2 > 0 then mn L (p.1 + p.2) else L) (((pre ++ [p]) ++ rest).map Prod.fst) (((pre ++ [p]) ++ rest).length : Int) ((pre ++ [p]).length : Int)) (fun k => ?_) (ih (pre ++ [p]) _ _ (by rw [← e]; exact hg) (by rw [← e]; exact hl) (by split <;> omega) (by simp; split <;> omega) (by simp only [able] at hne; omega) (by simp only [able, lst] at hq; rw [hq, Int.add_assoc]) (by rw [← e]; exact h))
  simp only [bT.l1]
  rw [G_, G_, hsum, if_pos (by omega), if_pos (by omega), if_pos (by simp; omega), if_pos (by simp; omega), hw, ← e]
  by_cases hc : p.1 + p.2 > 0
  ·rw [if_pos hc, if_pos hc, if_pos hc, wp (by omega) (by omega)]
  ·rw [if_neg hc, if_neg hc, if_neg hc, Int.add_zero]
theorem Zy (m : Int) (r : List Int) (hm : 0 < m) : ∀ (rest pre : List (Int × Int)) (b : Int), 0 ≤ b → b ≤ 2147483647 → Good (pre ++ rest) → (∀ p, p ∈ rest → p.1 + p.2 > 0 → m ≤ p.1 + p.2) → (pre ++ rest).length ≤ 100000 →
  Ev (fun k => bT.l0 k (jJ m b rest).1 ((pre ++ rest).map Prod.fst) ((pre ++ (jJ m b rest).2).map Prod.snd)) r →
  Ev (fun k => bT.l2 k b ((pre ++ rest).map Prod.fst) ((pre ++ rest).map Prod.snd) m ((pre ++ rest).map Prod.fst) ((pre ++ rest).length : Int) (pre.length : Int)) r := by
 intro rest
 induction rest with
 | nil =>
  intro pre b h0 h1 hg hl hlen h
  simp only [jJ] at h
  refine Ev.step (fun k => ?_) h
  simp only [bT.l2]
  rw [if_neg (by simp)]
 | cons p rest ih =>
  intro pre b h0 h1 hg hl hlen h
  have hp := hg p (by simp)
  have hlen' : ((pre ++ p :: rest).length : Int) = pre.length + (rest.length + 1) := by simp
  have hl' : (pre.length : Int) + (rest.length + 1) ≤ 100000 := by omega
  have hw : wrap64 ((pre.length : Int) + 1) = (pre.length : Int) + 1 := wp (by omega) (by omega)
  have hsum : wrap64 (p.1 + p.2) = p.1 + p.2 := wp (by omega) (by omega)
  have hmp := hl p (by simp)
  have hmn : 0 ≤ mn m b ∧ mn m b ≤ m ∧ mn m b ≤ b := by unfold mn; split <;> omega
  have step : ∀ (b' : Int) (p' : Int × Int), p'.1 = p.1 → -p'.1 ≤ p'.2 → p'.2 ≤ 0 → 0 ≤ b' → b' ≤ 2147483647 → jJ m b (p :: rest) = ((jJ m b' rest).1, p' :: (jJ m b' rest).2) →
    Ev (fun k => bT.l2 k b' ((pre ++ p :: rest).map Prod.fst) ((pre ++ p' :: rest).map Prod.snd) m ((pre ++ p :: rest).map Prod.fst) ((pre ++ p :: rest).length : Int) ((pre.length : Int) + 1)) r := by
   intro b' p' e1 e2 e3 e4 e5 eb
   have f1 : (pre ++ p :: rest).map Prod.fst = ((pre ++ [p']) ++ rest).map Prod.fst := by simp [e1]
   have f2 : (pre ++ p' :: rest).map Prod.snd = ((pre ++ [p']) ++ rest).map Prod.snd := by simp
   have f3 : ((pre ++ p :: rest).length : Int) = (((pre ++ [p']) ++ rest).length : Int) := by simp
   have f4 : (pre.length : Int) + 1 = ((pre ++ [p']).length : Int) := by simp
   have hg' : Good ((pre ++ [p']) ++ rest) := by
    intro q hq
    simp only [List.append_assoc, List.mem_append, List.mem_cons, List.not_mem_nil, or_false] at hq
    rcases hq with hq | rfl | hq
    ·exact hg q (by simp [hq])
    ·omega
    ·exact hg q (by simp [hq])
   rw [f1, f2, f3, f4]
   refine ih (pre ++ [p']) b' e4 e5 hg' (fun q hq => hl q (by simp [hq])) (by simp; omega) ?_
   rw [eb] at h
   rw [← f1, List.append_assoc]
   exact h
  refine Ev.step (f := fun k => if p.1 + p.2 > 0 then (if b > 0 then bT.l2 k (b - mn m b) ((pre ++ p :: rest).map Prod.fst) ((pre ++ (p.1, p.2 - mn m b) :: rest).map Prod.snd) m ((pre ++ p :: rest).map Prod.fst) ((pre ++ p :: rest).length : Int) ((pre.length : Int) + 1) else bT.l2 k b ((pre ++ p :: rest).map Prod.fst) ((pre ++ p :: rest).map Prod.snd) m ((pre ++ p :: rest).map Prod.fst) ((pre ++ p :: rest).length : Int) ((pre.length : Int) + 1)) else bT.l2 k b ((pre ++ p :: rest).map Prod.fst) ((pre ++ p :: rest).map Prod.snd) m ((pre ++ p :: rest).map Prod.fst) ((pre ++ p :: rest).length : Int) ((pre.length : Int) + 1)) (fun k => ?_) ?_
  ·simp only [bT.l2]
   rw [G_, G_, hsum, if_pos (by omega), if_pos (by omega), if_pos (by simp; omega), if_pos (by simp; omega), hw]
   by_cases hc : p.1 + p.2 > 0
   ·rw [if_pos hc, if_pos hc]
    by_cases hb : b > 0
    ·rw [if_pos hb, if_pos hb, wp (by omega) (by omega), wp (by omega) (by omega)]
     congr 1
     simp
    ·rw [if_neg hb, if_neg hb]
   ·rw [if_neg hc, if_neg hc]
  ·by_cases hc : p.1 + p.2 > 0
   ·by_cases hb : b > 0
    ·refine Ev.zl hc (Ev.zl hb (step (b - mn m b) (p.1, p.2 - mn m b) rfl (by simp only; omega) (by simp only; omega) (by omega) (by omega) ?_))
     simp only [jJ]
     rw [if_pos hc, if_pos hb]
    ·refine Ev.zl hc (Ev.zk hb (step b p rfl (by omega) (by omega) h0 h1 ?_))
     simp only [jJ]
     rw [if_pos hc, if_neg hb]
   ·refine Ev.zk hc (step b p rfl (by omega) (by omega) h0 h1 ?_)
    simp only [jJ]
    rw [if_neg hc]
theorem Ya (ps : List (Int × Int)) : ∀ b : Int, 0 ≤ b → wK (-b) ps = (-(jJ 1 b ps).1, (jJ 1 b ps).2) := by
 induction ps with
 | nil => intro b _; simp [wK, jJ]
 | cons p ps ih =>
  intro b hb
  simp only [wK, jJ]
  by_cases hp : p.1 + p.2 > 0
  ·rw [if_pos hp]
   by_cases h : b > 0
   ·rw [if_pos h]
    have h1 : mn 1 b = 1 := by unfold mn; split <;> omega
    have e : xy (-b) p = (-(b - 1), (p.1, p.2 - 1)) := by
     unfold xy
     rw [if_neg (by omega), if_pos ⟨by omega, hp⟩]
     congr 1
     omega
    rw [e, h1]
    simp only
    rw [ih (b - 1) (by omega)]
   ·rw [if_neg h]
    have e : xy (-b) p = (-b, p) := by
     unfold xy
     rw [if_neg (by omega), if_neg (by omega)]
    rw [e]
    simp only
    rw [ih b hb]
  ·rw [if_neg hp]
   have e : xy (-b) p = (-b, p) := by
    unfold xy
    rw [if_neg (by omega), if_neg (by omega)]
   rw [e]
   simp only
   rw [ih b hb]
theorem CG {b : Int} {ps : List (Int × Int)} {r : List Int × Bool} (hb : 0 < b) (hne : (jJ 1 b ps).1 ≠ b) (h : Ev (fun k => uK k (-(jJ 1 b ps).1) (jJ 1 b ps).2) r) : Ev (fun k => uK k (-b) ps) r := by
 refine Ev.step (fun k => ?_) h
 simp only [uK]
 rw [if_neg (by omega), Ya ps b (by omega)]
 simp only
 rw [if_neg (by omega)]
theorem Ri {r : List Int × Bool} : ∀ (m : Nat) (b : Int) (ps : List (Int × Int)), 0 < able ps → ((m : Int) + 1) * able ps ≤ b → (∀ p, p ∈ ps → p.1 + p.2 > 0 → (m : Int) + 1 ≤ p.1 + p.2) →
  Ev (fun k => uK k (-(b - ((m : Int) + 1) * able ps)) (mr ((m : Int) + 1) ps)) r → Ev (fun k => uK k (-b) ps) r := by
 intro m
 induction m with
 | zero =>
  intro b ps ha hb hl h
  have e := Eu (m := 1) (by omega) ps b (by simpa using hb)
  have hb' : able ps ≤ b := by simpa using hb
  refine CG (by omega) (by rw [e]; simp only; omega) ?_
  rw [e]
  simpa using h
 | succ m ih =>
  intro b ps ha hb hl h
  have hx : 0 ≤ ((m : Int) + 1) * able ps := Int.mul_nonneg (by omega) (by omega)
  have hm : (((m + 1 : Nat) : Int) + 1) * able ps = ((m : Int) + 1) * able ps + able ps := by rw [show (((m + 1 : Nat) : Int) + 1) = ((m : Int) + 1) + 1 by omega, Int.add_mul, Int.one_mul]
  rw [hm] at hb h
  have e := Eu (m := 1) (by omega) ps b (by omega)
  obtain ⟨d1, d2⟩ := Tt (m := (m : Int) + 1) (ps := ps) (by omega) (fun p hp hc => by have := hl p hp hc; omega)
  refine CG (by omega) (by rw [e]; simp only; omega) ?_
  rw [e]
  simp only [Int.one_mul]
  refine ih (b - able ps) (mr 1 ps) (by omega) (by rw [d2]; omega) ?_ ?_
  ·intro q hq hc
   obtain ⟨p, hp, rfl⟩ := List.mem_map.1 hq
   have := hl p hp
   simp only at hc ⊢
   by_cases hc1 : p.1 + p.2 > 0
   ·rw [if_pos hc1] at hc ⊢
    have := this hc1
    omega
   ·rw [if_neg hc1] at hc
    omega
  ·rw [d2, ← d1]
   refine Ev.congr (fun k => ?_) h
   rw [show (((m + 1 : Nat) : Int) + 1) = ((m : Int) + 1) + 1 by omega]
   congr 2
   omega
theorem Ux : ∀ (n : Nat) (b : Int) (ps : List (Int × Int)), b.toNat = n → 0 ≤ b → b ≤ 2147483647 → Good ps → Dc ps → ps.length ≤ 100000 → b ≤ uz ps →
  ∃ qs : List (Int × Int), Ev (fun k => bT.l0 k b (ps.map Prod.fst) (ps.map Prod.snd)) (qs.map Prod.snd) ∧ Ev (fun k => uK k (-b) ps) (qs.map Prod.snd, true) ∧
   qs.map Prod.fst = ps.map Prod.fst ∧ Good qs ∧ J8 qs ∧ outs qs = outs ps - b := by
 intro n
 induction n using Nat.strongRecOn with
 | _ n IH =>
 intro b ps hn h0 h1 hg he hl hav
 by_cases hb : b > 0
 ·have hab := Vp hg (by omega)
  have har := xu ps
  have akg := ZA ps b hb
  have akf := Uy ps b
  have hm1 : 1 ≤ mx 1 (mn (lst b ps) (b / able ps)) := by unfold mx; split <;> omega
  have XL : ∀ (m : Int), m = mx 1 (mn (lst b ps) (b / able ps)) → (∀ p, p ∈ ps → p.1 + p.2 > 0 → m ≤ p.1 + p.2) → ∀ r, Ev (fun k => bT.l0 k (jJ m b ps).1 (ps.map Prod.fst) ((jJ m b ps).2.map Prod.snd)) r → Ev (fun k => bT.l0 k b (ps.map Prod.fst) (ps.map Prod.snd)) r := by
   intro m hm hml r h
   refine Ev.step (f := fun k => bT.l1 k b (ps.map Prod.fst) (ps.map Prod.snd) 0 b (ps.map Prod.fst) ((ps.map Prod.fst).length : Int) 0) (fun k => ?_) ?_
   ·simp only [bT.l0]; rw [if_pos hb]
   ·have l2 := Zy m r (by omega) ps [] b h0 h1 (by simpa using hg) hml (by simpa using hl) (by simpa using h)
    have l1 := Zx b m r hb h1 ps [] 0 b (by simpa using hg) (by simpa using hl) (by omega) (by simp) (by omega) (by rw [Int.zero_add]; exact hm) (by simpa using l2)
    simpa using l1
  by_cases hfull : able ps ≤ b
  ·
   have hq1 : 1 ≤ b / able ps := by rw [Int.le_ediv_iff_mul_le hab]; omega
   have hm : mx 1 (mn (lst b ps) (b / able ps)) = mn (lst b ps) (b / able ps) := by unfold mx mn; split <;> split at * <;> omega
   have agn : 1 ≤ mn (lst b ps) (b / able ps) := by unfold mn; split <;> omega
   generalize hmm : mn (lst b ps) (b / able ps) = m at hm
   have hm0 : 1 ≤ m := by rw [← hmm]; exact agn
   have agl : m ≤ lst b ps := by rw [← hmm]; unfold mn; split <;> omega
   have agm : m ≤ b / able ps := by rw [← hmm]; unfold mn; split <;> omega
   have hall : ∀ p, p ∈ ps → p.1 + p.2 > 0 → m ≤ p.1 + p.2 := fun p hp hc => Int.le_trans agl (Zz ps b p hp hc)
   have hmb : m * able ps ≤ b := (Int.le_ediv_iff_mul_le hab).1 agm
   have hma : able ps ≤ m * able ps := by have := Int.mul_le_mul_of_nonneg_right hm0 (show 0 ≤ able ps by omega); omega
   have abO := Eu (m := m) (by omega) ps b hmb
   obtain ⟨qs, q1, q2, q3, q4, q5, q6⟩ := IH (b - m * able ps).toNat (by omega) (b - m * able ps) (mr m ps) rfl (by omega) (by omega) (Tq (by omega) hg hall) (Tn hg he (by omega)) (by simpa [mr] using hl) (by rw [QB]; omega)
   rw [VL] at q1 q3
   have eo : outs (mr m ps) = outs ps - m * able ps := by
    have := LW m ps b
    rw [abO] at this
    simp only at this
    omega
   refine ⟨qs, XL m (by rw [hmm, hm]) hall _ (by rw [abO]; exact q1), ?_, q3, q4, q5, by omega⟩
   obtain ⟨m', rfl⟩ : ∃ m' : Nat, m = (m' : Int) + 1 := ⟨(m - 1).toNat, by omega⟩
   exact Ri m' b ps hab hmb hall q2
  ·
   have hq0 : b / able ps = 0 := Int.ediv_eq_zero_of_lt h0 (by omega)
   have hm : mx 1 (mn (lst b ps) (b / able ps)) = 1 := by rw [hq0]; unfold mx mn; split <;> split at * <;> omega
   have hz := Vz ps b h0 (by omega)
   have eo := LW 1 ps b
   refine ⟨(jJ 1 b ps).2, XL 1 hm.symm (fun p _ hc => by omega) _ ?_, CG hb (by omega) ?_, X_ 1 ps b, Vy hg, Vx he, by omega⟩
   ·rw [hz]
    refine Ev.step (fun k => ?_) (Ev.now _)
    simp only [bT.l0]
    rw [if_neg (by omega)]
   ·rw [hz]
    refine Ev.step (fun k => ?_) (Ev.now _)
    simp only [uK]
    rw [if_pos (by omega)]
 ·obtain rfl : b = 0 := by omega
  refine ⟨ps, ?_, ?_, rfl, hg, abV he, by omega⟩
  ·refine Ev.step (fun k => ?_) (Ev.now _)
   simp only [bT.l0]
   rw [if_neg hb]
  ·refine Ev.step (fun k => ?_) (Ev.now _)
   simp only [uK]
   rw [if_pos (by omega)]
def total : List Int → Int
 | [] => 0
 | g :: gs => g + total gs
theorem Ov (gs : List Int) : uz (gs.map fun g => (g, (0 : Int))) = total gs := by
 induction gs with
 | nil => rfl
 | cons g gs ih => simp only [List.map_cons, uz, total, ih]; omega
theorem CU (gs : List Int) (h : ∀ g, g ∈ gs → 0 ≤ g) : 0 ≤ total gs := by
 induction gs with
 | nil => simp [total]
 | cons g gs ih => have h1 := h g (by simp); have h2 := ih fun x hx => h x (by simp [hx]); simp only [total]; omega
def sG (m : Int) (gs : List Int) : Int := if m + total gs > 2147483647 then 2147483647 else m + total gs
theorem Ou (b : Int) (r : List Int × Bool) : ∀ (rest pre : List Int) (s : Int), 0 ≤ s → s ≤ 2147483647 → (pre ++ rest).length ≤ 100000 →
  (∀ g, g ∈ rest → 0 ≤ g ∧ g ≤ 2147483647) →
  Ev (fun k => if ((pre ++ rest).length : Int) = 0 then (bV.j1 k b (pre ++ rest) true) else (if b < wrap64 (-(sG s rest)) then (bV.j1 k b (pre ++ rest) true) else (bV.j1 k b (pre ++ rest) (decide (b > 2147483647))))) r →
  Ev (fun k => bV.l0 k b (pre ++ rest) s (pre ++ rest) ((pre ++ rest).length : Int) (pre.length : Int)) r := by
 intro rest
 induction rest with
 | nil =>
  intro pre s h0 h1 hl hg h
  refine Ev.step (fun k => ?_) h
  simp only [bV.l0]
  rw [if_neg (by simp)]
  have : sG s [] = s := by unfold sG; simp only [total, Int.add_zero]; rw [if_neg (by omega)]
  rw [this]
 | cons g rest ih =>
  intro pre s h0 h1 hl hg h
  have hgg := hg g (by simp)
  have ht := CU rest fun x hx => (hg x (by simp [hx])).1
  have hlen : ((pre ++ g :: rest).length : Int) = pre.length + (rest.length + 1) := by simp
  have e : pre ++ g :: rest = (pre ++ [g]) ++ rest := by simp
  have hc : sG (mn 2147483647 (s + g)) rest = sG s (g :: rest) := by unfold sG mn; simp only [total]; split <;> split <;> (try split) <;> omega
  refine Ev.step (fun k => ?_) (ih (pre ++ [g]) (mn 2147483647 (s + g)) (by unfold mn; split <;> omega) (by unfold mn; split <;> omega) (by rw [← e]; exact hl) (fun x hx => hg x (by simp [hx])) (by rw [hc, ← e]; exact h))
  simp only [bV.l0]
  rw [Ja, if_pos (by omega), if_pos (by omega), if_pos (by omega), if_neg (by omega), if_neg (by omega), wp (x := s + g) (by omega) (by omega), wp (x := (pre.length : Int) + 1) (by omega) (by omega), ← e]
  simp
theorem Rl (b : Int) : ∀ (rest pre : List Int) (s : Int), 0 ≤ s → s ≤ 2147483647 → (pre ++ rest).length ≤ 100000 → ¬ (∀ g, g ∈ rest → 0 ≤ g ∧ g ≤ 2147483647) →
  Ev (fun k => bV.l0 k b (pre ++ rest) s (pre ++ rest) ((pre ++ rest).length : Int) (pre.length : Int)) ([], false) := by
 intro rest
 induction rest with
 | nil => intro pre s _ _ _ h; exact absurd (fun g hg => by cases hg) h
 | cons g rest ih =>
  intro pre s h0 h1 hl hg
  have hlen : ((pre ++ g :: rest).length : Int) = pre.length + (rest.length + 1) := by simp
  by_cases hgg : 0 ≤ g ∧ g ≤ 2147483647
  ·have e : pre ++ g :: rest = (pre ++ [g]) ++ rest := by simp
   refine Ev.step (fun k => ?_) (ih (pre ++ [g]) (mn 2147483647 (s + g)) (by unfold mn; split <;> omega) (by unfold mn; split <;> omega) (by rw [← e]; exact hl) (fun h => hg fun x hx => by
    rcases List.mem_cons.1 hx with rfl | hx
    ·exact hgg
    ·exact h x hx))
   simp only [bV.l0]
   rw [Ja, if_pos (by omega), if_pos (by omega), if_pos (by omega), if_neg (by omega), if_neg (by omega), wp (x := s + g) (by omega) (by omega), wp (x := (pre.length : Int) + 1) (by omega) (by omega), ← e]
   simp
  ·refine Ev.step (fun k => ?_) (Ev.now _)
   simp only [bV.l0]
   rw [Ja, if_pos (by omega), if_pos (by omega), if_pos (by omega)]
   by_cases h : g < 0
   ·rw [if_pos h]
   ·rw [if_neg h, if_pos (by omega)]
theorem Ob (xs ys : List Int) : total (xs ++ ys) = total xs + total ys := by
 induction xs with
 | nil => simp [total]
 | cons x xs ih => simp only [List.cons_append, total, ih]; omega
theorem Ry (a : Int) (n : Int) (_h0 : 0 ≤ a % n) : ∀ m : Nat, total ((List.range m).map fun i => GX a n (i : Nat)) = m * (a / n) + (if (m : Int) ≤ a % n then (m : Int) else a % n) := by
 intro m
 induction m with
 | zero => simp [total]; omega
 | succ m ih =>
  rw [List.range_succ, List.map_append, Ob, ih]
  simp only [List.map_cons, List.map_nil, total, GX]
  rw [show ((m + 1 : Nat) : Int) = (m : Int) + 1 by omega, Int.add_mul, Int.one_mul]
  split <;> split <;> split <;> omega
theorem Ox (a : Int) (n : Nat) (h0 : 0 ≤ a) (hn : 0 < n) : total (moreL a n) = a := by
 have h1 := Int.emod_nonneg a (show (n : Int) ≠ 0 by omega)
 have h2 := Int.emod_lt_of_pos a (show (0 : Int) < n by omega)
 have h := Ry a n h1 n
 unfold moreL
 rw [h, if_neg (by omega)]
 have := Int.mul_ediv_add_emod a n
 omega
theorem RH {gs : List Int} (h : ∀ g, g ∈ gs → 0 ≤ g ∧ g ≤ 2147483647) : Good (gs.map fun g => (g, (0 : Int))) := by
 intro p hp
 obtain ⟨g, hg, rfl⟩ := List.mem_map.1 hp
 have := h g hg
 simp only
 omega
theorem RG (gs : List Int) : Dc (gs.map fun g => (g, (0 : Int))) := by
 intro p hp q hq h
 obtain ⟨g, hg, rfl⟩ := List.mem_map.1 hp
 obtain ⟨g', hg', rfl⟩ := List.mem_map.1 hq
 simp at h
theorem RI (gs : List Int) : outs (gs.map fun g => (g, (0 : Int))) = 0 := by
 induction gs with
 | nil => rfl
 | cons g gs ih => simp only [List.map_cons, outs, ih]; rfl
theorem Q3 (ps : List (Int × Int)) : outs ps = total (ps.map Prod.snd) := by
 induction ps with
 | nil => rfl
 | cons p ps ih => simp only [List.map_cons, outs, total, ih]
def Lr (b : Int) (gs : List Int) (r : List Int × Bool) : Prop :=
 (r = ([], false) ∧ (gs = [] ∨ (¬ ∀ g, g ∈ gs → 0 ≤ g ∧ g ≤ 2147483647) ∨ ((∀ g, g ∈ gs → 0 ≤ g ∧ g ≤ 2147483647) ∧ b < -total gs))) ∨
 (r = (moreL b gs.length, true) ∧ gs ≠ [] ∧ (∀ g, g ∈ gs → 0 ≤ g ∧ g ≤ 2147483647) ∧ 0 ≤ b) ∨
 (∃ qs : List (Int × Int), r = (qs.map Prod.snd, true) ∧ (∀ g, g ∈ gs → 0 ≤ g ∧ g ≤ 2147483647) ∧ b < 0 ∧ qs.map Prod.fst = gs ∧ Good qs ∧ J8 qs ∧ outs qs = b ∧ Ev (fun k => uK k b (gs.map fun g => (g, 0))) (qs.map Prod.snd, true))
theorem UZ (b : Int) (gs : List Int) (hl : gs.length ≤ 100000) (h0 : -2147483647 ≤ b) (h1 : b ≤ 2147483647) : ∃ r, Lr b gs r ∧ Ev (fun k => bV.f k b gs) r := by
 by_cases hg : ∀ g, g ∈ gs → 0 ≤ g ∧ g ≤ 2147483647
 ·have ht := CU gs fun g h => (hg g h).1
  have look := fun r => Ou b r gs [] 0 (by omega) (by omega) (by simpa using hl) hg
  have hcap : sG 0 gs = if total gs > 2147483647 then 2147483647 else total gs := by unfold sG; rw [Int.zero_add]
  have hw : wrap64 (-(sG 0 gs)) = -(sG 0 gs) := by rw [hcap]; apply wp <;> split <;> omega
  simp only [List.nil_append, List.length_nil] at look
  have j1t : Ev (fun k => bV.j1 k b gs true) ([], false) := by
   refine Ev.step (fun k => ?_) (Ev.now _)
   simp only [bV.j1]
   rw [if_pos trivial]
  by_cases hne : gs = []
  ·refine ⟨_, .inl ⟨rfl, .inl hne⟩, ?_⟩
   refine look _ ?_
   refine Ev.zl (by simp [hne]) j1t
  ·have hpos : 0 < gs.length := List.length_pos_iff.2 hne
   by_cases hb : b < -total gs
   ·refine ⟨_, .inl ⟨rfl, .inr (.inr ⟨hg, hb⟩)⟩, look _ (Ev.zk (by omega) (Ev.zl ?_ j1t))⟩
    rw [hw, hcap]
    split <;> omega
   ·have hdec : decide (b > 2147483647) = false := by simp; omega
    have go : ∀ r, Ev (fun k => bV.j1 k b gs false) r → Ev (fun k => bV.f k b gs) r := fun r h => by
     refine look _ (Ev.zk (by omega) (Ev.zk ?_ ?_))
     ·rw [hw, hcap]; split <;> omega
     ·rw [hdec]; exact h
    by_cases hb0 : 0 ≤ b
    ·refine ⟨_, .inr (.inl ⟨rfl, hne, hg, hb0⟩), go _ (Ev.step (fun k => ?_) (Ev.now _))⟩
     simp only [bV.j1]
     rw [if_neg (by simp), if_pos (by omega)]
     unfold D8.f
     rw [if_pos ⟨hb0, by omega, by omega, by omega⟩]
     simp
    ·obtain ⟨qs, q1, q2, q3, q4, q5, q6⟩ := Ux (-b).toNat (-b) (gs.map fun g => (g, 0)) rfl (by omega) (by omega) (RH hg) (RG gs) (by simpa using hl) (by rw [Ov]; omega)
     have e1 : (gs.map fun g => (g, (0 : Int))).map Prod.fst = gs := by simp [List.map_map, Function.comp_def]
     have e2 : (gs.map fun g => (g, (0 : Int))).map Prod.snd = List.replicate gs.length 0 := by simp [List.map_map, Function.comp_def, List.map_const']
     rw [e1] at q1 q3
     rw [e2] at q1
     rw [RI] at q6
     rw [Int.neg_neg] at q2
     refine ⟨_, .inr (.inr ⟨qs, rfl, hg, by omega, q3, q4, q5, by omega, q2⟩), go _ (Ev.step (f := fun k => (bT.f k (-b) gs).bind fun t => some (t, true)) (fun k => ?_) (Ev.bind (a := qs.map Prod.snd) ?_ (Ev.now _)))⟩
     ·simp only [bV.j1]
      rw [if_neg (by simp), if_neg (by omega), wp (by omega) (by omega)]
     ·refine Ev.congr (fun k => ?_) q1
      unfold bT.f
      rw [if_pos (by omega), if_pos (by omega)]
      simp
 ·refine ⟨_, .inl ⟨rfl, .inr (.inl hg)⟩, ?_⟩
  have := Rl b gs [] 0 (by omega) (by omega) (by simpa using hl) hg
  simp only [List.nil_append, List.length_nil] at this
  exact this
section
variable {Pr : Program} {ops : Array Oper} {rest : List Oper} {op : Oper} {a : Act} {Q : Exit → Act → World → Prop} {w W : World} {P : Nat → Prop} {bs : List (Option Nat × Obj)} {ow : List (Value × List ai)} {ts : List (Value × List ai)} {ro : List (Addr × Value)}
theorem dW (N : Tmp) (_ : op.dst = some N) (h : wpList Pr ops Q (op :: rest) a W) : wpList Pr ops Q (op :: rest) a W := h
theorem aj2 (t : TypeId) (p x : Operand) (_ : op.op = .store t p x) (h : wpList Pr ops Q (op :: rest) a W) : wpList Pr ops Q (op :: rest) a W := h
theorem boxS (N : Tmp) (cs : Array Value) (t : TypeId) (S : ae (St w P bs ow ts ro W))
  (h : ∀ g w1, ae (St w P ((some g, .cells cs t (0, 0)) :: bs) ow ts ro w1) → wpList Pr ops Q rest (a.put op.dst (.pointer (some ⟨g, 0, none⟩))) w1) (hd : op.dst = some N := by rfl) (hgd : op.guard = none := by rfl)
  (hr : (execOp a.eval op).run Pr W = .ok (.value (.pointer (some ⟨W.heap.size, 0, none⟩))) (W.alloc (.cells cs t (0, 0))) := by first | (go_simp; done) | (go_simp; rfl)) : wpList Pr ops Q (op :: rest) a W :=
 abh hd hgd cs t S.out hr (fun g w1 S1 => h g w1 ⟨S1⟩)
theorem Q8 (i : Nat) {g : Nat} {cs : Array Value} {t0 : TypeId} (hi : bs[i]? = some (some g, .cells cs t0 (0, 0))) (t : TypeId) (p x : Tmp) (cs' : Array Value) (j n : Nat) (S : ae (St w P bs ow ts ro W)) (h : ∀ w1, ae (St w P (bs.set i (some g, .cells cs' t0 (0, 0))) ow ts ro w1) → wpList Pr ops Q rest a w1)
  (ho : op.op = .store t (.tmp p) (.tmp x)) (jS : a.eval (.tmp p) = .pointer (some ⟨g, j, none⟩)) (hu : (a.eval (.tmp x)).cells.toList = (cs'.toList.drop j).take n) (ht : (Pr.info? t).map (·.size) = some n)
  (hn : ((cs'.toList.drop j).take n).length = n) (h1 : ((cs'.toList.drop j).take n).all Value.oneCell' = true) (hj : j + n ≤ cs.size) (he : cs.toList.take j ++ (cs'.toList.drop j).take n ++ cs.toList.drop (j + n) = cs'.toList) (hN : op.dst = none) (hgd : op.guard = none) : wpList Pr ops Q (op :: rest) a W :=
 ac9 i hi t (.tmp p) (.tmp x) ho cs' S.out jS rfl hu (by rw [hn]; exact ht) (fun q hq => List.all_eq_true.1 h1 q hq) (by rw [hn]; exact hj) (by rw [hn]; exact he) hN hgd (fun w1 S1 => h w1 ⟨S1⟩)
variable {g : Nat} {cs : Array Value} {t0 : TypeId} {b0 b1 b2 b3 b4 : Option Nat × Obj}
theorem jg (t : TypeId) (p x : Tmp) (cs' : Array Value) (j n : Nat) (S : ae (St w P ((some g, .cells cs t0 (0, 0)) :: bs) ow ts ro W)) (h : ∀ w1, ae (St w P ((some g, .cells cs' t0 (0, 0)) :: bs) ow ts ro w1) → wpList Pr ops Q rest a w1)
  (ho : op.op = .store t (.tmp p) (.tmp x) := by rfl) (jS : a.eval (.tmp p) = .pointer (some ⟨g, j, none⟩) := by rfl) (hu : (a.eval (.tmp x)).cells.toList = (cs'.toList.drop j).take n := by rfl) (ht : (Pr.info? t).map (·.size) = some n := by kernel_rfl)
  (hn : ((cs'.toList.drop j).take n).length = n := by rfl) (h1 : ((cs'.toList.drop j).take n).all Value.oneCell' = true := by rfl) (hj : j + n ≤ cs.size := by first | decide | simp) (he : cs.toList.take j ++ (cs'.toList.drop j).take n ++ cs.toList.drop (j + n) = cs'.toList := by rfl) (hN : op.dst = none := by rfl) (hgd : op.guard = none := by rfl) : wpList Pr ops Q (op :: rest) a W :=
 Q8 0 rfl t p x cs' j n S h ho jS hu ht hn h1 hj he hN hgd
theorem NR (t : TypeId) (p x : Tmp) (cs' : Array Value) (j n : Nat) (S : ae (St w P (b0 :: (some g, .cells cs t0 (0, 0)) :: bs) ow ts ro W)) (h : ∀ w1, ae (St w P (b0 :: (some g, .cells cs' t0 (0, 0)) :: bs) ow ts ro w1) → wpList Pr ops Q rest a w1)
  (ho : op.op = .store t (.tmp p) (.tmp x) := by rfl) (jS : a.eval (.tmp p) = .pointer (some ⟨g, j, none⟩) := by rfl) (hu : (a.eval (.tmp x)).cells.toList = (cs'.toList.drop j).take n := by rfl) (ht : (Pr.info? t).map (·.size) = some n := by kernel_rfl)
  (hn : ((cs'.toList.drop j).take n).length = n := by rfl) (h1 : ((cs'.toList.drop j).take n).all Value.oneCell' = true := by rfl) (hj : j + n ≤ cs.size := by first | decide | simp) (he : cs.toList.take j ++ (cs'.toList.drop j).take n ++ cs.toList.drop (j + n) = cs'.toList := by rfl) (hN : op.dst = none := by rfl) (hgd : op.guard = none := by rfl) : wpList Pr ops Q (op :: rest) a W :=
 Q8 1 rfl t p x cs' j n S h ho jS hu ht hn h1 hj he hN hgd
theorem Q7 (t : TypeId) (p x : Tmp) (cs' : Array Value) (j n : Nat) (S : ae (St w P (b0 :: b1 :: (some g, .cells cs t0 (0, 0)) :: bs) ow ts ro W)) (h : ∀ w1, ae (St w P (b0 :: b1 :: (some g, .cells cs' t0 (0, 0)) :: bs) ow ts ro w1) → wpList Pr ops Q rest a w1)
  (ho : op.op = .store t (.tmp p) (.tmp x) := by rfl) (jS : a.eval (.tmp p) = .pointer (some ⟨g, j, none⟩) := by rfl) (hu : (a.eval (.tmp x)).cells.toList = (cs'.toList.drop j).take n := by rfl) (ht : (Pr.info? t).map (·.size) = some n := by kernel_rfl)
  (hn : ((cs'.toList.drop j).take n).length = n := by rfl) (h1 : ((cs'.toList.drop j).take n).all Value.oneCell' = true := by rfl) (hj : j + n ≤ cs.size := by first | decide | simp) (he : cs.toList.take j ++ (cs'.toList.drop j).take n ++ cs.toList.drop (j + n) = cs'.toList := by rfl) (hN : op.dst = none := by rfl) (hgd : op.guard = none := by rfl) : wpList Pr ops Q (op :: rest) a W :=
 Q8 2 rfl t p x cs' j n S h ho jS hu ht hn h1 hj he hN hgd
theorem ac8 (t : TypeId) (p x : Tmp) (cs' : Array Value) (j n : Nat) (S : ae (St w P (b0 :: b1 :: b2 :: (some g, .cells cs t0 (0, 0)) :: bs) ow ts ro W)) (h : ∀ w1, ae (St w P (b0 :: b1 :: b2 :: (some g, .cells cs' t0 (0, 0)) :: bs) ow ts ro w1) → wpList Pr ops Q rest a w1)
  (ho : op.op = .store t (.tmp p) (.tmp x) := by rfl) (jS : a.eval (.tmp p) = .pointer (some ⟨g, j, none⟩) := by rfl) (hu : (a.eval (.tmp x)).cells.toList = (cs'.toList.drop j).take n := by rfl) (ht : (Pr.info? t).map (·.size) = some n := by kernel_rfl)
  (hn : ((cs'.toList.drop j).take n).length = n := by rfl) (h1 : ((cs'.toList.drop j).take n).all Value.oneCell' = true := by rfl) (hj : j + n ≤ cs.size := by first | decide | simp) (he : cs.toList.take j ++ (cs'.toList.drop j).take n ++ cs.toList.drop (j + n) = cs'.toList := by rfl) (hN : op.dst = none := by rfl) (hgd : op.guard = none := by rfl) : wpList Pr ops Q (op :: rest) a W :=
 Q8 3 rfl t p x cs' j n S h ho jS hu ht hn h1 hj he hN hgd
theorem nO (N : Option Tmp) {f : FuncId} {fn : Func} (hf : Pr.funcs[f]? = some fn) {ar : Array Operand} {Hr : Array TypeId} {args : Array Value} {post : Ending → World → Prop} (hc : Calls Pr f args W post)
  (h : ∀ e w1, post e w1 → ∃ v, e = .returned v ∧ wpList Pr ops Q rest (a.put N v) w1) (hd : op.dst = N := by rfl) (hg : op.guard = none := by rfl) (hop : op.op = .call { callee := .value (.func f), args := ar, argTypes := Hr } := by rfl)
  (hname : (fn.name == "runtime.NumGoroutine") = false := by kernel_rfl) (hb : fn.body.isSome = true := by rfl) (hargs : ar.map a.eval = args := by ((try simp only [List.map_toArray, List.map_cons, List.map_nil]); first | done | rfl)) : wpList Pr ops Q (op :: rest) a W :=
 ny N hd hg hf hname hb args hop hargs (hc.mono h)
theorem bQ (N : Option Tmp) {f : FuncId} {fn : Func} (hf : Pr.funcs[f]? = some fn) {ar : Array Operand} {Hr : Array TypeId} {args : Array Value} {v : Value} (S : ae (St w P bs ow ts ro W)) (hc : Calls Pr f args W fun e w' => e = .returned v ∧ Below W.heap.size W w')
  (h : ∀ w1, ae (St w P bs ow ts ro w1) → wpList Pr ops Q rest (a.put N v) w1) (hd : op.dst = N := by rfl) (hg : op.guard = none := by rfl) (hop : op.op = .call { callee := .value (.func f), args := ar, argTypes := Hr } := by rfl)
  (hname : (fn.name == "runtime.NumGoroutine") = false := by kernel_rfl) (hb : fn.body.isSome = true := by rfl) (hargs : ar.map a.eval = args := by ((try simp only [List.map_toArray, List.map_cons, List.map_nil]); first | done | rfl)) : wpList Pr ops Q (op :: rest) a W :=
 ny N hd hg hf hname hb args hop hargs (hc.mono fun e w1 ⟨he, hb⟩ => ⟨v, he, h w1 ⟨S.out.call hb⟩⟩)
theorem oW (N : Option Tmp) {f : FuncId} {fn : Func} (hf : Pr.funcs[f]? = some fn) {ar : Array Operand} {Hr : Array TypeId} {args : Array Value} {l : List ai} {F : Option Addr → Nat → Value} (S : ae (St w P bs ow ts ro W))
  (hc : Calls Pr f args W fun e w' => ∃ A c, e = .returned (F A c) ∧ Kd.N k26 26 w' W.heap.size (fun k => Ok w P (keys bs ow) k ∨ W.heap.size ≤ k) (.slice A l.length c) l ∧ Below W.heap.size W w')
  (h : ∀ A c w1, ae (St w P bs ow ((.slice A l.length c, l) :: ts) ro w1) → wpList Pr ops Q rest (a.put N (F A c)) w1) (hd : op.dst = N := by rfl) (hg : op.guard = none := by rfl) (hop : op.op = .call { callee := .value (.func f), args := ar, argTypes := Hr } := by rfl)
  (hname : (fn.name == "runtime.NumGoroutine") = false := by kernel_rfl) (hb : fn.body.isSome = true := by rfl) (hargs : ar.map a.eval = args := by ((try simp only [List.map_toArray, List.map_cons, List.map_nil]); first | done | rfl)) : wpList Pr ops Q (op :: rest) a W :=
 ny N hd hg hf hname hb args hop hargs (hc.mono fun e w1 ⟨A, c, he, h1, hb⟩ => ⟨_, he, h A c w1 ⟨S.out.res (Kd.D6 (base' := 0) h1) hb⟩⟩)
theorem aer (N : Option Tmp) {f : FuncId} {fn : Func} (hf : Pr.funcs[f]? = some fn) {ar : Array Operand} {Hr : Array TypeId} {args : Array Value} {l : List ai} {F : Option Addr → Nat → Value} (S : ae (St w P bs [] ts ro W))
  (hc : Calls Pr f args W fun e w' => ∃ A c, e = .returned (F A c) ∧ Kd.N k26 26 w' W.heap.size (fun k => Ok w P (keys bs []) k ∨ W.heap.size ≤ k) (.slice A l.length c) l ∧ Below W.heap.size W w')
  (h : ∀ A c w1, ae (St w P bs [(.slice A l.length c, l)] ts ro w1) → wpList Pr ops Q rest (a.put N (F A c)) w1) (hd : op.dst = N := by rfl) (hg : op.guard = none := by rfl) (hop : op.op = .call { callee := .value (.func f), args := ar, argTypes := Hr } := by rfl)
  (hname : (fn.name == "runtime.NumGoroutine") = false := by kernel_rfl) (hb : fn.body.isSome = true := by rfl) (hargs : ar.map a.eval = args := by ((try simp only [List.map_toArray, List.map_cons, List.map_nil]); first | done | rfl)) : wpList Pr ops Q (op :: rest) a W :=
 ny N hd hg hf hname hb args hop hargs (hc.mono fun e w1 ⟨A, c, he, h1, hb⟩ => ⟨_, he, h A c w1 ⟨S.out.yf h1 hb⟩⟩)
end
section
variable {w W : World} {P : Nat → Prop} {bs : List (Option Nat × Obj)} {ow : List (Value × List ai)} {ts : List (Value × List ai)} {ro : List (Addr × Value)} {g : Nat} {t : TypeId} {v0 v1 v2 v3 v4 v5 v6 : Value} {a0 a1 a2 a3 a4 a5 a6 : Addr}
theorem St.eX (S : ae (St w P bs ow ts ro W)) (hm : (some g, .cells #[v0, v1, v2, v3, v4, v5, v6] t (0, 0)) ∈ bs) :
  W.cell? ⟨g, 0, none⟩ = some v0 ∧ W.cell? ⟨g, 1, none⟩ = some v1 ∧ W.cell? ⟨g, 2, none⟩ = some v2 ∧ W.cell? ⟨g, 3, none⟩ = some v3 ∧ W.cell? ⟨g, 4, none⟩ = some v4 ∧ W.cell? ⟨g, 5, none⟩ = some v5 ∧ W.cell? ⟨g, 6, none⟩ = some v6 :=
 ⟨S.out.at hm 0, S.out.at hm 1, S.out.at hm 2, S.out.at hm 3, S.out.at hm 4, S.out.at hm 5, S.out.at hm 6⟩
theorem St.at4 (S : ae (St w P bs ow ts ro W)) (hm : (some g, .cells #[v0, v1, v2, v3] t (0, 0)) ∈ bs) :
  W.cell? ⟨g, 0, none⟩ = some v0 ∧ W.cell? ⟨g, 1, none⟩ = some v1 ∧ W.cell? ⟨g, 2, none⟩ = some v2 ∧ W.cell? ⟨g, 3, none⟩ = some v3 :=
 ⟨S.out.at hm 0, S.out.at hm 1, S.out.at hm 2, S.out.at hm 3⟩
theorem St.O3 (S : ae (St w P bs ow ts ((a0, v0) :: (a1, v1) :: (a2, v2) :: (a3, v3) :: (a4, v4) :: (a5, v5) :: (a6, v6) :: ro) W)) :
  W.cell? a0 = some v0 ∧ W.cell? a1 = some v1 ∧ W.cell? a2 = some v2 ∧ W.cell? a3 = some v3 ∧ W.cell? a4 = some v4 ∧ W.cell? a5 = some v5 ∧ W.cell? a6 = some v6 :=
 ⟨(S.out.cell _ (.head _)).1, (S.out.cell _ dG).1, (S.out.cell _ dX).1, (S.out.cell _ jT).1, (S.out.cell _ wG).1, (S.out.cell _ Ea).1, (S.out.cell _ GV).1⟩
end
section
variable {Pr : Program} {md : Region.Mode} {ops : Array Oper} {Q : Exit → Act → World → Prop} {S : World → Prop} {ds : List Nat}
theorem fK (N : Tmp) {fuel : Nat} {l : Array Bool} {b a' : Act} {v : Value} {w : World} (h : bD Pr md ops Q S ds fuel l a' w) (ha : Act.put b (some N) v = a' := by simp only [Act.put, List.setIfInBounds_toArray, List.set_cons_zero, List.set_cons_succ, lU, lT]; rfl) : bD Pr md ops Q S ds fuel l (Act.put b (some N) v) w := qQ ha h
end
theorem mG {Pr : Program} {ops : Array Oper} {Q : Exit → Act → World → Prop} {oi : Oper} {N : Option Tmp} {a : Act} {w : World} {K : Act → World → Prop} {f : FuncId} {fn : Func} {ar : Array Operand} {ts : Array TypeId} (hf : Pr.funcs[f]? = some fn) (args : Array Value) (h : Calls Pr f args w fun e w' => ∃ v, e = .returned v ∧ K (a.put N v) w')
  (hname : (fn.name == "runtime.NumGoroutine") = false := by kernel_rfl) (hb : fn.body.isSome = true := by rfl) (hw : Region.wanted oi (yielded ops a.tmps) = true := by rfl) (hN : oi.dst = N := by rfl) (hop : oi.op = .call { callee := .value (.func f), args := ar, argTypes := ts } := by rfl) (hargs : ar.map a.eval = args := by ((try simp only [List.map_toArray, List.map_cons, List.map_nil]); first | done | rfl)) : if Region.wanted oi (yielded ops a.tmps) = true then Oper.wp Pr oi a w K Q else K (a.put N undef) w :=
 zZ hf hname hb args hw hN hop hargs h
theorem lI {Pr : Program} {ops : Array Oper} {md : Region.Mode} {Q : Exit → Act → World → Prop} {S : World → Prop} {ds : List Nat} {T : Bool × List (List Nat × List Nat)} {fuel : Nat} {l : Array Bool} {a : Act} {w : World} {oi : Oper} (i : Nat) (N : Option Tmp) (l' : Array Bool) (HT : ae (iJ md ops = T)) (h : ∀ K : Act → World → Prop, Shut (∀ a' w', S w' → (S w' → bD Pr md ops Q S ds fuel l' a' w') → K a' w') → if Region.wanted oi (yielded ops a.tmps) = true then Oper.wp Pr oi a w K Q else K (a.put N undef) w)
  (hi : ops[i]? = some oi := by rfl) (hN : oi.dst = N := by rfl) (hc : (wJ T.2 l.toList == [i] && l.toList.set i true == l'.toList) = true := by kernel_rfl) (hd : i ∉ ds := by decide) : bD Pr md ops Q S ds (fuel + 1) l a w :=
 Wq l' hi hN (zo HT.out hc) hd h
theorem uG {Pr : Program} {ops : Array Oper} {md : Region.Mode} {Q : Exit → Act → World → Prop} {S : World → Prop} {ds : List Nat} {T : Bool × List (List Nat × List Nat)} {fuel : Nat} {l : Array Bool} {a : Act} {w : World} {oi : Oper} (i : Nat) (N : Option Tmp) (l' : Array Bool) (HT : ae (iJ md ops = T)) (h : ∀ K : Act → World → Prop, Shut (∀ a' w', bD Pr md ops Q S ds fuel l' a' w' → K a' w') → if Region.wanted oi (yielded ops a.tmps) = true then Oper.wp Pr oi a w K Q else K (a.put N undef) w)
  (hi : ops[i]? = some oi := by rfl) (hN : oi.dst = N := by rfl) (hc : (wJ T.2 l.toList == [i] && l.toList.set i true == l'.toList) = true := by kernel_rfl) (hd : i ∈ ds := by decide) : bD Pr md ops Q S ds (fuel + 1) l a w :=
 QR l' hi hN (zo HT.out hc) hd h
section
variable {α : Type} {d : Kd α} {e : TypeId} {w : World} {P : Nat → Prop} {bs bs' : List (Option Nat × Obj)} {ow : List (Value × List ai)} {ts : List (Value × List ai)} {ro : List (Addr × Value)} {W W1 : World} {b0 : Nat} {o o1 : Obj} {v v1 : Value} {xs : List α} {ok : Nat → Prop}
def KR (d : Kd α) (e : TypeId) (base : Nat) (v : Value) (xs : List α) (o : Obj) : Prop := ∀ W : World, (∀ g, v.ownBlock = some g → W.heap[g]? = some o) → d.R e W base (fun k => some k = v.ownBlock) v xs
theorem Ko {b' : Nat} (hE : d.E = []) (h : d.R e W1 b0 ok v xs) (hb : b' ≤ b0) : ∃ o, (∀ g, v.ownBlock = some g → W1.heap[g]? = some o) ∧ KR d e b' v xs o := by
 have ht := Kd.qA (Kd.Dk hE h) hb
 cases hv : v.ownBlock with
 | none => exact ⟨.cells #[] 0 (0, 0), fun g hg => (by cases hg), fun W hW => Kd.wE ht (fun k hk => (by rw [hv] at hk; cases hk))⟩
 | some g =>
  obtain ⟨cells, hc⟩ := Kd.H9 h g hv
  refine ⟨_, fun g' hg => (by injection hg with hg; rw [← hg]; exact hc), fun W hW => Kd.wE ht (fun k hk _ => ?_)⟩
  rw [hv] at hk
  injection hk with hk
  rw [hk, hc]
  exact hW g hv
theorem St.Rj (hE : d.E = []) (S : St w P bs ow ts ro W) (h : d.R e W1 W.heap.size ok v xs) (hb : Below W.heap.size W W1) : ∃ o, St w P ((v.ownBlock, o) :: bs) ow ts ro W1 ∧ KR d e w.heap.size v xs o := by
 obtain ⟨o, h1, h2⟩ := Ko hE h S.below.size
 exact ⟨o, S.VA v.ownBlock (fun g hg => ⟨Kd.Bz h g hg, h1 g hg⟩) hb, h2⟩
theorem La (d : Kd α) (e : TypeId) (base : Nat) : KR d e base (.slice none 0 0) [] (.cells #[] 0 (0, 0)) := fun _ _ => Kd.uy _ _ _ _ _
theorem St.noK (S : St w P bs ow ts ro W) : St w P (((Value.slice none 0 0).ownBlock, .cells #[] 0 (0, 0)) :: bs) ow ts ro W := S.VA none (fun _ h => by cases h) (Below.refl _ _)
theorem K_ {base : Nat} (HI : KR d e base v xs o) (S : St w P bs ow ts ro W) (hm : (v.ownBlock, o) ∈ bs) : d.R e W base (fun k => some k = v.ownBlock) v xs := HI W (S.blk _ hm)
theorem aa0 {base : Nat} {A : Option Addr} {c : Nat} (HI : KR d e base (.slice A xs.length c) xs o) (S : St w P bs ow ts ro W) (hm : ((Value.slice A xs.length c).ownBlock, o) ∈ bs) : d.C W A xs.length xs ∧ xs.length ≤ c :=
 have h := Kd.fD (K_ HI S hm)
 ⟨h.2.2, h.2.1⟩
theorem St.perm (hp : bs.Perm bs') (S : St w P bs ow ts ro W) : St w P bs' ow ts ro W := by
 have hk : (keys bs ow).Perm (keys bs' ow) := (hp.filterMap _).append_right _
 have hm : ∀ k, k ∈ keys bs' ow ↔ k ∈ keys bs ow := fun k => hk.symm.mem_iff
 have hO : ∀ k, Ok w P (keys bs ow) k → Ok w P (keys bs' ow) k := fun k h => ⟨h.1, fun h2 => h.2 ((hm k).1 h2)⟩
 exact ⟨S.below, fun x hx => S.blk x (hp.symm.mem_iff.1 hx), fun k hk => S.new k ((hm k).1 hk), hk.nodup_iff.1 S.nd, fun t ht => Kd.iP (S.tree t ht) hO, fun r hr => Kd.iM (S.own r hr) (fun k h => h.imp (hO k) id), fun c hc => ⟨(S.cell c hc).1, fun h => (S.cell c hc).2 ((hm _).1 h)⟩⟩
variable {x b1 b2 b3 b4 b5 b6 : Option Nat × Obj}
theorem St.uf (S : St w P (b1 :: x :: bs) ow ts ro W) : St w P (x :: b1 :: bs) ow ts ro W := S.perm (List.perm_middle (l₁ := [b1]))
theorem St.JB (S : St w P (b1 :: b2 :: x :: bs) ow ts ro W) : St w P (x :: b1 :: b2 :: bs) ow ts ro W := S.perm (List.perm_middle (l₁ := [b1, b2]))
theorem St.qN (S : St w P (b1 :: b2 :: b3 :: x :: bs) ow ts ro W) : St w P (x :: b1 :: b2 :: b3 :: bs) ow ts ro W := S.perm (List.perm_middle (l₁ := [b1, b2, b3]))
end
section
variable {α : Type} {d : Kd α} {e : TypeId} {Pr : Program} {ops : Array Oper} {rest : List Oper} {op : Oper} {a : Act} {Q : Exit → Act → World → Prop} {Kc : Act → World → Prop} {w W : World} {P : Nat → Prop} {bs : List (Option Nat × Obj)} {ow : List (Value × List ai)} {ts : List (Value × List ai)} {ro : List (Addr × Value)} {v : Value} {xs : List α} {o : Obj}
theorem mQ (d : Kd α) (e : TypeId) (hE : d.E = []) (N : Tmp) (S : ae (St w P bs ow ts ro W)) (h : ∀ A c o w1, ae (St w P (((Value.slice A 0 c).ownBlock, o) :: bs) ow ts ro w1) → ae (KR d e w.heap.size (.slice A 0 c) [] o) → wpList Pr ops Q rest (a.put op.dst (.slice A 0 c)) w1)
  (hd : op.dst = some N := by rfl) (hgd : op.guard = none := by rfl) (hrun : (execOp a.eval op).run Pr W = .ok (.value (.slice (some ⟨W.heap.size, 0, none⟩) 0 0)) (W.alloc (.cells #[] e)) := by first | (go_simp; done) | (go_simp; rfl)) : wpList Pr ops Q (op :: rest) a W :=
 Kd.vN d (w0 := W) W.heap.size e hgd hd (xs := ([] : List α)) (inner := []) (ok := fun _ => True) (dY := fun _ => True) hrun (bI.none _ _) (fun _ hk => hk) trivial (Below.refl _ _) (Nat.le_refl _) (by simp) (fun v1 w1 hR hb hg _ => by
  obtain ⟨A, c, rfl⟩ := Kd.ja hR
  obtain ⟨o, S1, HI⟩ := S.out.Rj hE hR (uD hg)
  exact h A c o w1 ⟨S1⟩ ⟨HI⟩)
theorem t_ (d : Kd α) (e : TypeId) (hE : d.E = []) (s x : Tmp) (t : TypeId) (z : Value) (bytes : Nat) (ht : Pr.underlying t = some (.slice e)) (hinfo : (Pr.info? e).map (fun i => (i.zero, i.size, i.bytes)) = some (some z, d.sz, bytes)) (hz : z.cells.size = d.sz) (hs0 : 0 < d.sz) (hb0 : 0 < bytes) (hbb : bytes ≤ 1000)
  (S : ae (St w P ((v.ownBlock, o) :: bs) ow ts ro W)) (hI : ae (KR d e w.heap.size v xs o)) (y : α) (cs : List Value) (hM : ∀ W b ok, d.M W b ok y cs) (hl : xs.length ≤ 10000000)
  (h : ∀ A1 c1 o1 w1, ae (St w P (((Value.slice A1 (xs ++ [y]).length c1).ownBlock, o1) :: bs) ow ts ro w1) → ae (KR d e w.heap.size (.slice A1 (xs ++ [y]).length c1) (xs ++ [y]) o1) → wpList Pr ops Q rest (a.put op.dst (.slice A1 (xs ++ [y]).length c1)) w1)
  (hgd : op.guard = none := by rfl) (ho : op.op = .call { callee := .builtin .append, args := #[.tmp s, .tmp x], argTypes := #[t, t] } := by rfl) (hs : a.eval (.tmp s) = v := by rfl) (hx : a.eval (.tmp x) = .slice (some ⟨W.heap.size, 0, none⟩) 1 1 := by first | rfl | (go_simp; rfl)) :
  wpList Pr ops Q (op :: rest) a (W.alloc (.cells cs.toArray e)) := by
 have hR := hI.out W (S.out.blk _ List.mem_cons_self)
 refine Kd.Ep d (w0 := w) w.heap.size hgd (.tmp s) (.tmp x) t e z bytes ho ht hinfo hz hs0 hb0 v xs y cs (fun _ => True) (fun _ => False) hs hx (hM _ _ _) (fun _ hk => hk.elim) (fun _ _ => trivial) (Kd.kF hR (fun _ _ => trivial)) S.out.below S.out.below.size
  (Nat.le_trans (Nat.mul_le_mul (show xs.length + 1 ≤ 10000001 by omega) hbb) (by decide)) ?_
 intro v1 w1 hr hb hg hat
 obtain ⟨A1, c1, rfl⟩ := Kd.ja hr
 obtain ⟨o1, h1, h2⟩ := Ko hE hr (Nat.le_refl _)
 exact h A1 c1 o1 w1 ⟨S.out.Jb hb hg hat h1⟩ ⟨h2⟩
theorem LQ (d : Kd α) (e : TypeId) (hE : d.E = []) (s x : Tmp) (t : TypeId) (z : Value) (bytes : Nat) (ht : Pr.underlying t = some (.slice e)) (hinfo : (Pr.info? e).map (fun i => (i.zero, i.size, i.bytes)) = some (some z, d.sz, bytes)) (hz : z.cells.size = d.sz) (hs0 : 0 < d.sz) (hb0 : 0 < bytes) (hbb : bytes ≤ 1000)
  (S : ae (St w P ((v.ownBlock, o) :: bs) ow ts ro W)) (hI : ae (KR d e w.heap.size v xs o)) (y : α) (cs : List Value) (hM : ∀ W b ok, d.M W b ok y cs) (hl : xs.length ≤ 10000000)
  (h : ∀ A1 c1 o1 w1, ae (St w P (((Value.slice A1 (xs ++ [y]).length c1).ownBlock, o1) :: bs) ow ts ro w1) → ae (KR d e w.heap.size (.slice A1 (xs ++ [y]).length c1) (xs ++ [y]) o1) → Kc (a.put op.dst (.slice A1 (xs ++ [y]).length c1)) w1)
  (hw : Region.wanted op (yielded ops a.tmps) = true := by rfl) (ho : op.op = .call { callee := .builtin .append, args := #[.tmp s, .tmp x], argTypes := #[t, t] } := by rfl) (hs : a.eval (.tmp s) = v := by rfl) (hx : a.eval (.tmp x) = .slice (some ⟨W.heap.size, 0, none⟩) 1 1 := by first | rfl | (go_simp; rfl)) :
  if Region.wanted op (yielded ops a.tmps) = true then Oper.wp Pr op a (W.alloc (.cells cs.toArray e)) Kc Q else Kc (a.put op.dst undef) (W.alloc (.cells cs.toArray e)) := by
 have hR := hI.out W (S.out.blk _ List.mem_cons_self)
 refine Kd.JZ d (w0 := w) w.heap.size hw (.tmp s) (.tmp x) t e z bytes ho ht hinfo hz hs0 hb0 v xs y cs (fun _ => True) (fun _ => False) hs hx (hM _ _ _) (fun _ hk => hk.elim) (fun _ _ => trivial) (Kd.kF hR (fun _ _ => trivial)) S.out.below S.out.below.size
  (Nat.le_trans (Nat.mul_le_mul (show xs.length + 1 ≤ 10000001 by omega) hbb) (by decide)) ?_
 intro v1 w1 hr hb hg hat
 obtain ⟨A1, c1, rfl⟩ := Kd.ja hr
 obtain ⟨o1, h1, h2⟩ := Ko hE hr (Nat.le_refl _)
 exact h A1 c1 o1 w1 ⟨S.out.Jb hb hg hat h1⟩ ⟨h2⟩
theorem Vu (d : Kd α) (e : TypeId) (hE : d.E = []) (s x : Tmp) (t : TypeId) (z : Value) (bytes : Nat) (ht : Pr.underlying t = some (.slice e)) (hinfo : (Pr.info? e).map (fun i => (i.zero, i.size, i.bytes)) = some (some z, d.sz, bytes)) (hz : z.cells.size = d.sz) (hs0 : 0 < d.sz) (hb0 : 0 < bytes) (hbb : bytes ≤ 1000)
  (S : ae (St w P ((v.ownBlock, o) :: bs) ow ts ro W)) (hI : ae (KR d e w.heap.size v xs o)) {A : Option Addr} {c : Nat} (ys : List α) (hC : d.C W A ys.length ys) (hK : ∀ W b ok y cs, d.K W y cs → d.M W b ok y cs) (hl : xs.length + ys.length ≤ 1000000000)
  (h : ∀ A1 c1 o1 w1, ae (St w P (((Value.slice A1 (xs ++ ys).length c1).ownBlock, o1) :: bs) ow ts ro w1) → ae (KR d e w.heap.size (.slice A1 (xs ++ ys).length c1) (xs ++ ys) o1) → wpList Pr ops Q rest (a.put op.dst (.slice A1 (xs ++ ys).length c1)) w1)
  (hgd : op.guard = none := by rfl) (ho : op.op = .call { callee := .builtin .append, args := #[.tmp s, .tmp x], argTypes := #[t, t] } := by rfl) (hs : a.eval (.tmp s) = v := by rfl) (hx : a.eval (.tmp x) = .slice A ys.length c := by rfl) :
  wpList Pr ops Q (op :: rest) a W := by
 have hR := hI.out W (S.out.blk _ List.mem_cons_self)
 refine Kd.qo d (Rr := d.K W) (w0 := w) w.heap.size hgd (.tmp s) (.tmp x) t e z bytes ho ht hinfo hz hs0 hb0 v xs ys A ys.length c (fun _ => True) (fun _ => False) hs hx (Kd.kF hR (fun _ _ => trivial)) hC (fun y cs h => hK _ _ _ y cs h) (fun _ hk => hk.elim) (fun _ _ => trivial) S.out.below S.out.below.size
  (Nat.le_trans (Nat.mul_le_mul hl hbb) (by decide)) ?_
 intro v1 w1 hr hb hg hat
 obtain ⟨A1, c1, rfl⟩ := Kd.ja hr
 obtain ⟨o1, h1, h2⟩ := Ko hE hr (Nat.le_refl _)
 exact h A1 c1 o1 w1 ⟨S.out.Jb hb hg hat h1⟩ ⟨h2⟩
end
section
variable {w W W1 : World} {P : Nat → Prop} {bs : List (Option Nat × Obj)} {ow : List (Value × List ai)} {ts : List (Value × List ai)} {ro : List (Addr × Value)}
theorem St.aed (new : List (Option Nat × Obj)) (S : St w P bs ow ts ro W) (hk : ∀ p, p ∈ new → ∀ g, p.1 = some g → W.heap.size ≤ g ∧ W1.heap[g]? = some p.2) (hnd : (new.filterMap (·.1)).Nodup) (hb : Below W.heap.size W W1) : St w P (new ++ bs) ow ts ro W1 := by
 have ke : keys (new ++ bs) ow = new.filterMap (·.1) ++ keys bs ow := by unfold keys; rw [List.filterMap_append, List.append_assoc]
 have hn : ∀ k, k ∈ new.filterMap (·.1) → W.heap.size ≤ k ∧ k < W1.heap.size := fun k h => by
  obtain ⟨p, hp, he⟩ := List.mem_filterMap.1 h
  exact ⟨(hk p hp k he).1, eH (hk p hp k he).2⟩
 have hnot : ∀ k, k < W.heap.size → k ∉ keys bs ow → k ∉ keys (new ++ bs) ow := fun k h1 h2 h3 => by
  rw [ke] at h3
  rcases List.mem_append.1 h3 with h | h
  ·have := (hn k h).1; omega
  ·exact h2 h
 refine ⟨ak S.below hb, fun p hp g hg => ?_, fun k h => ?_, ?_, fun t ht => ?_, fun r hr => ?_, fun c hc => ?_⟩
 ·rcases List.mem_append.1 hp with h | h
  ·exact (hk p h g hg).2
  ·exact aJ (S.blk p h g hg) hb
 ·rw [ke] at h
  rcases List.mem_append.1 h with h | h
  ·exact ⟨Nat.le_trans S.below.size (hn k h).1, (hn k h).2⟩
  ·exact ⟨(S.new k h).1, Nat.lt_of_lt_of_le (S.new k h).2 hb.size⟩
 ·rw [ke]
  refine List.nodup_append.2 ⟨hnd, S.nd, fun x hx y hy => ?_⟩
  rintro rfl
  have := (hn x hx).1
  have := S.lt hy
  omega
 ·exact Kd.iP (Kd.lH (Kd.Dl (S.tree t ht)) hb) (fun k h => ⟨h.1.1, hnot k h.2 h.1.2⟩)
 ·exact Kd.iM (Kd.qy (Kd.yU (S.own r hr)) hb) (fun k h => h.1.imp (fun h1 => ⟨h1.1, hnot k h.2 h1.2⟩) id)
 ·exact ⟨(hb.cell (World.block_lt_of_cell? W _ (S.cell c hc).1)).trans (S.cell c hc).1, hnot _ (World.block_lt_of_cell? W _ (S.cell c hc).1) (S.cell c hc).2⟩
structure Two {α β : Type} (d : Kd α) (e : TypeId) (d' : Kd β) (e' : TypeId) (w w' : World) (v : Value) (l : List α) (v' : Value) (l' : List β) (o o' : Obj) : Prop where
 one : KR d e w.heap.size v l o
 two : KR d' e' w.heap.size v' l' o'
 at1 : ∀ g, v.ownBlock = some g → w.heap.size ≤ g ∧ w'.heap[g]? = some o
 at2 : ∀ g, v'.ownBlock = some g → w.heap.size ≤ g ∧ w'.heap[g]? = some o'
 ne : ∀ g, v.ownBlock = some g → v'.ownBlock ≠ some g
theorem zH {α : Type} {d : Kd α} {e : TypeId} {b b' : Nat} {v : Value} {l : List α} {o : Obj} (h : KR d e b v l o) (hb : b' ≤ b) : KR d e b' v l o := fun W hW => Kd.qA (h W hW) hb
theorem St.two {α β : Type} {d : Kd α} {e : TypeId} {d' : Kd β} {e' : TypeId} {v v' : Value} {l : List α} {l' : List β} {o o' : Obj} (S : St w P bs ow ts ro W) (h : Two d e d' e' W W1 v l v' l' o o') (hb : Below W.heap.size W W1) :
  St w P ((v.ownBlock, o) :: (v'.ownBlock, o') :: bs) ow ts ro W1 ∧ KR d e w.heap.size v l o ∧ KR d' e' w.heap.size v' l' o' := by
 refine ⟨S.aed [(v.ownBlock, o), (v'.ownBlock, o')] (fun p hp g hg => ?_) ?_ hb, zH h.one S.below.size, zH h.two S.below.size⟩
 ·simp only [List.mem_cons, List.not_mem_nil, or_false] at hp
  rcases hp with rfl | rfl
  ·exact h.at1 g hg
  ·exact h.at2 g hg
 ·cases h1 : v.ownBlock with
  | none => cases h2 : v'.ownBlock <;> simp
  | some g =>
   have hn := h.ne g h1
   cases h2 : v'.ownBlock with
   | none => simp
   | some g' =>
    rw [h2] at hn
    simp
    intro he
    exact hn (by rw [he])
theorem St.UH {α β : Type} {d : Kd α} {e : TypeId} {d' : Kd β} {e' : TypeId} {v v' : Value} {l : List α} {l' : List β} {o o' : Obj} (S : St w P ((v.ownBlock, o) :: (v'.ownBlock, o') :: bs) ow ts ro W) (h1 : KR d e w.heap.size v l o) (h2 : KR d' e' w.heap.size v' l' o') : Two d e d' e' w W v l v' l' o o' := by
 refine ⟨h1, h2, fun g hg => ⟨(S.new g (mem_keys (List.mem_cons_self) hg)).1, S.blk _ List.mem_cons_self g hg⟩, fun g hg => ⟨(S.new g (mem_keys (List.mem_cons_of_mem _ List.mem_cons_self) hg)).1, S.blk _ (List.mem_cons_of_mem _ List.mem_cons_self) g hg⟩, fun g hg hg2 => ?_⟩
 have hnd := S.nd
 unfold keys at hnd
 rw [List.filterMap_cons, List.filterMap_cons, hg, hg2] at hnd
 exact (List.nodup_cons.1 hnd).1 (by simp)
theorem St.QY {α : Type} {d : Kd α} {e : TypeId} {v : Value} {l : List α} {o : Obj} (S : St w P bs ow ts ro W) (h : KR d e w.heap.size v l o) (hm : (v.ownBlock, o) ∈ bs) : d.R e W w.heap.size (fun _ => True) v l := Kd.kF (K_ h S hm) (fun _ _ => trivial)
end
end Go.Proofs.Ytfdmfgaiblfbhaa.P
namespace Go.Proofs.Ytfdmfgaiblfbhaa.P
open Go.RowKit Go.Proofs.ag.aA Go.Proofs.ag.a_ Go.Proofs.ag.bG
attribute [local go_sem] jf jr jG jR iV iW jB jC
def vH.f (az : Int) (aN : Int) (aH : Int) (aK : Int) : Option (Bool) := if az ≥ 0 then (if aH ≥ 1 then (if aH ≤ 10000 then (if az ≤ (wrap64 (10000 - aH)) then (if aN ≥ 0 then (if aK ≥ 1 then (if aK ≤ 10000 then (some (decide (aN ≤ (wrap64 (10000 - aK))))) else (some false)) else (some false)) else (some false)) else (some false)) else (some false)) else (some false)) else (some false)
theorem vH.calls (az : Int) (aN : Int) (aH : Int) (aK : Int) (r : Bool) (w : World) (h : vH.f az aN aH aK = some r) :
  Calls Try.prog 128 #[.agg #[.int .i64 az, .int .i64 aN, .int .i64 aH, .int .i64 aK]] w fun e w' => e = .returned (.bool r) ∧ Below w.heap.size w w' := by
 have QN := Try.underlying23
 have HB := ae.mk (Below.refl w.heap.size w)
 have H : (if az ≥ 0 then (if aH ≥ 1 then (if aH ≤ 10000 then (if az ≤ (wrap64 (10000 - aH)) then (if aN ≥ 0 then (if aK ≥ 1 then (if aK ≤ 10000 then (some (decide (aN ≤ (wrap64 (10000 - aK))))) else (some false)) else (some false)) else (some false)) else (some false)) else (some false)) else (some false)) else (some false)) = some r := h
 clear h
 by_cases c2 : az ≥ 0
 ·rw [if_pos c2] at H
  have Ew : decide (0 ≤ az) = true := decide_eq_true c2
  clear c2
  by_cases c3 : aH ≥ 1
  ·rw [if_pos c3] at H
   have uT : decide (1 ≤ aH) = true := decide_eq_true c3
   clear c3
   by_cases c4 : aH ≤ 10000
   ·rw [if_pos c4] at H
    have uU : decide (aH ≤ 10000) = true := decide_eq_true c4
    clear c4
    by_cases c5 : az ≤ (wrap64 (10000 - aH))
    ·rw [if_pos c5] at H
     have BB : decide (az ≤ (wrap64 (10000 - aH))) = true := decide_eq_true c5
     clear c5
     by_cases c6 : aN ≥ 0
     ·rw [if_pos c6] at H
      have zQ : decide (0 ≤ aN) = true := decide_eq_true c6
      clear c6
      by_cases c7 : aK ≥ 1
      ·rw [if_pos c7] at H
       have Ie : decide (1 ≤ aK) = true := decide_eq_true c7
       clear c7
       by_cases c8 : aK ≤ 10000
       ·rw [if_pos c8] at H
        have Ez : decide (aK ≤ 10000) = true := decide_eq_true c8
        clear c8
        obtain rfl := Option.some.inj H
        go_enter Try.func128, Try.ntmps128
        go_wp2_with (((with_reducible refine ay (N := 1) rfl ?_); refine aG ?hg (N := 1) ?hd (cs := #[.int .i64 az, .int .i64 aN, .int .i64 aH, .int .i64 aK]) (t := 23) ?hr ?_; (case hd => rfl); (case hg => rfl); (case hr => (go_simp; done)); intro gm hg w9 hbox hb; have dA := ae.mk (hbox); replace HB := ae.mk (ak (by repeat ((with_reducible exact HB.out))) hb); clear hb hbox hg; have Ir : w9.cell? ⟨gm, 0, none⟩ = some (.int .i64 az) := (af dA.out 0).trans rfl; have Iu : w9.cell? ⟨gm, 1, none⟩ = some (.int .i64 aN) := (af dA.out 1).trans rfl; have Iw : w9.cell? ⟨gm, 2, none⟩ = some (.int .i64 aH) := (af dA.out 2).trans rfl; have Iy : w9.cell? ⟨gm, 3, none⟩ = some (.int .i64 aK) := (af dA.out 3).trans rfl; have Iz := ah dA.out 0; have IA := ah dA.out 1; have IB := ah dA.out 2; have IC := ah dA.out 3))
        go_ret
        exact ⟨by rfl, by repeat ((with_reducible exact HB.out))⟩
       ·rw [if_neg c8] at H
        have Ez : decide (aK ≤ 10000) = false := decide_eq_false c8
        clear c8
        obtain rfl := Option.some.inj H
        go_enter Try.func128, Try.ntmps128
        go_wp2_with (((with_reducible refine ay (N := 1) rfl ?_); refine aG ?hg (N := 1) ?hd (cs := #[.int .i64 az, .int .i64 aN, .int .i64 aH, .int .i64 aK]) (t := 23) ?hr ?_; (case hd => rfl); (case hg => rfl); (case hr => (go_simp; done)); intro gm hg rZ hbox hb; have dA := ae.mk (hbox); replace HB := ae.mk (ak (by repeat ((with_reducible exact HB.out))) hb); clear hb hbox hg; have O8 : rZ.cell? ⟨gm, 0, none⟩ = some (.int .i64 az) := (af dA.out 0).trans rfl; have O9 : rZ.cell? ⟨gm, 1, none⟩ = some (.int .i64 aN) := (af dA.out 1).trans rfl; have O_ : rZ.cell? ⟨gm, 2, none⟩ = some (.int .i64 aH) := (af dA.out 2).trans rfl; have Pg : rZ.cell? ⟨gm, 3, none⟩ = some (.int .i64 aK) := (af dA.out 3).trans rfl; have Po := ah dA.out 0; have Pq := ah dA.out 1; have Pv := ah dA.out 2; have Px := ah dA.out 3))
        go_ret
        exact ⟨by rfl, by repeat ((with_reducible exact HB.out))⟩
      ·rw [if_neg c7] at H
       have Ie : decide (1 ≤ aK) = false := decide_eq_false c7
       clear c7
       obtain rfl := Option.some.inj H
       go_enter Try.func128, Try.ntmps128
       go_wp2_with (((with_reducible refine ay (N := 1) rfl ?_); refine aG ?hg (N := 1) ?hd (cs := #[.int .i64 az, .int .i64 aN, .int .i64 aH, .int .i64 aK]) (t := 23) ?hr ?_; (case hd => rfl); (case hg => rfl); (case hr => (go_simp; done)); intro gm hg yK hbox hb; have dA := ae.mk (hbox); replace HB := ae.mk (ak (by repeat ((with_reducible exact HB.out))) hb); clear hb hbox hg; have Ph : yK.cell? ⟨gm, 0, none⟩ = some (.int .i64 az) := (af dA.out 0).trans rfl; have Pj : yK.cell? ⟨gm, 1, none⟩ = some (.int .i64 aN) := (af dA.out 1).trans rfl; have Pm : yK.cell? ⟨gm, 2, none⟩ = some (.int .i64 aH) := (af dA.out 2).trans rfl; have Pn : yK.cell? ⟨gm, 3, none⟩ = some (.int .i64 aK) := (af dA.out 3).trans rfl; have Py := ah dA.out 0; have Pz := ah dA.out 1; have PD := ah dA.out 2; have PE := ah dA.out 3))
       go_ret
       exact ⟨by rfl, by repeat ((with_reducible exact HB.out))⟩
     ·rw [if_neg c6] at H
      have zQ : decide (0 ≤ aN) = false := decide_eq_false c6
      clear c6
      obtain rfl := Option.some.inj H
      go_enter Try.func128, Try.ntmps128
      go_wp2_with (((with_reducible refine ay (N := 1) rfl ?_); refine aG ?hg (N := 1) ?hd (cs := #[.int .i64 az, .int .i64 aN, .int .i64 aH, .int .i64 aK]) (t := 23) ?hr ?_; (case hd => rfl); (case hg => rfl); (case hr => (go_simp; done)); intro gm hg zB hbox hb; have dA := ae.mk (hbox); replace HB := ae.mk (ak (by repeat ((with_reducible exact HB.out))) hb); clear hb hbox hg; have Yq : zB.cell? ⟨gm, 0, none⟩ = some (.int .i64 az) := (af dA.out 0).trans rfl; have Yr : zB.cell? ⟨gm, 1, none⟩ = some (.int .i64 aN) := (af dA.out 1).trans rfl; have Yt : zB.cell? ⟨gm, 2, none⟩ = some (.int .i64 aH) := (af dA.out 2).trans rfl; have Yu : zB.cell? ⟨gm, 3, none⟩ = some (.int .i64 aK) := (af dA.out 3).trans rfl; have YW := ah dA.out 0; have YX := ah dA.out 1; have YY := ah dA.out 2; have YZ := ah dA.out 3))
      go_ret
      exact ⟨by rfl, by repeat ((with_reducible exact HB.out))⟩
    ·rw [if_neg c5] at H
     have BB : decide (az ≤ (wrap64 (10000 - aH))) = false := decide_eq_false c5
     clear c5
     obtain rfl := Option.some.inj H
     go_enter Try.func128, Try.ntmps128
     go_wp2_with (((with_reducible refine ay (N := 1) rfl ?_); refine aG ?hg (N := 1) ?hd (cs := #[.int .i64 az, .int .i64 aN, .int .i64 aH, .int .i64 aK]) (t := 23) ?hr ?_; (case hd => rfl); (case hg => rfl); (case hr => (go_simp; done)); intro gm hg XO hbox hb; have dA := ae.mk (hbox); replace HB := ae.mk (ak (by repeat ((with_reducible exact HB.out))) hb); clear hb hbox hg; have Yv : XO.cell? ⟨gm, 0, none⟩ = some (.int .i64 az) := (af dA.out 0).trans rfl; have Yw : XO.cell? ⟨gm, 1, none⟩ = some (.int .i64 aN) := (af dA.out 1).trans rfl; have Yx : XO.cell? ⟨gm, 2, none⟩ = some (.int .i64 aH) := (af dA.out 2).trans rfl; have Yy : XO.cell? ⟨gm, 3, none⟩ = some (.int .i64 aK) := (af dA.out 3).trans rfl; have Y0 := ah dA.out 0; have Y1 := ah dA.out 1; have Y2 := ah dA.out 2; have Y3 := ah dA.out 3))
     go_ret
     exact ⟨by rfl, by repeat ((with_reducible exact HB.out))⟩
   ·rw [if_neg c4] at H
    have uU : decide (aH ≤ 10000) = false := decide_eq_false c4
    clear c4
    obtain rfl := Option.some.inj H
    go_enter Try.func128, Try.ntmps128
    go_wp2_with (((with_reducible refine ay (N := 1) rfl ?_); refine aG ?hg (N := 1) ?hd (cs := #[.int .i64 az, .int .i64 aN, .int .i64 aH, .int .i64 aK]) (t := 23) ?hr ?_; (case hd => rfl); (case hg => rfl); (case hr => (go_simp; done)); intro gm hg Ht hbox hb; have dA := ae.mk (hbox); replace HB := ae.mk (ak (by repeat ((with_reducible exact HB.out))) hb); clear hb hbox hg; have Yz : Ht.cell? ⟨gm, 0, none⟩ = some (.int .i64 az) := (af dA.out 0).trans rfl; have YA : Ht.cell? ⟨gm, 1, none⟩ = some (.int .i64 aN) := (af dA.out 1).trans rfl; have YB : Ht.cell? ⟨gm, 2, none⟩ = some (.int .i64 aH) := (af dA.out 2).trans rfl; have YC : Ht.cell? ⟨gm, 3, none⟩ = some (.int .i64 aK) := (af dA.out 3).trans rfl; have Y4 := ah dA.out 0; have Y5 := ah dA.out 1; have Y6 := ah dA.out 2; have Y7 := ah dA.out 3))
    go_ret
    exact ⟨by rfl, by repeat ((with_reducible exact HB.out))⟩
  ·rw [if_neg c3] at H
   have uT : decide (1 ≤ aH) = false := decide_eq_false c3
   clear c3
   obtain rfl := Option.some.inj H
   go_enter Try.func128, Try.ntmps128
   go_wp2_with (((with_reducible refine ay (N := 1) rfl ?_); refine aG ?hg (N := 1) ?hd (cs := #[.int .i64 az, .int .i64 aN, .int .i64 aH, .int .i64 aK]) (t := 23) ?hr ?_; (case hd => rfl); (case hg => rfl); (case hr => (go_simp; done)); intro gm hg Ee hbox hb; have dA := ae.mk (hbox); replace HB := ae.mk (ak (by repeat ((with_reducible exact HB.out))) hb); clear hb hbox hg; have YD : Ee.cell? ⟨gm, 0, none⟩ = some (.int .i64 az) := (af dA.out 0).trans rfl; have YE : Ee.cell? ⟨gm, 1, none⟩ = some (.int .i64 aN) := (af dA.out 1).trans rfl; have YF : Ee.cell? ⟨gm, 2, none⟩ = some (.int .i64 aH) := (af dA.out 2).trans rfl; have YG : Ee.cell? ⟨gm, 3, none⟩ = some (.int .i64 aK) := (af dA.out 3).trans rfl; have Y8 := ah dA.out 0; have Y9 := ah dA.out 1; have Y_ := ah dA.out 2; have Za := ah dA.out 3))
   go_ret
   exact ⟨by rfl, by repeat ((with_reducible exact HB.out))⟩
 ·rw [if_neg c2] at H
  have Ew : decide (0 ≤ az) = false := decide_eq_false c2
  clear c2
  obtain rfl := Option.some.inj H
  go_enter Try.func128, Try.ntmps128
  go_wp2_with (((with_reducible refine ay (N := 1) rfl ?_); refine aG ?hg (N := 1) ?hd (cs := #[.int .i64 az, .int .i64 aN, .int .i64 aH, .int .i64 aK]) (t := 23) ?hr ?_; (case hd => rfl); (case hg => rfl); (case hr => (go_simp; done)); intro gm hg Hu hbox hb; have dA := ae.mk (hbox); replace HB := ae.mk (ak (by repeat ((with_reducible exact HB.out))) hb); clear hb hbox hg; have YH : Hu.cell? ⟨gm, 0, none⟩ = some (.int .i64 az) := (af dA.out 0).trans rfl; have YI : Hu.cell? ⟨gm, 1, none⟩ = some (.int .i64 aN) := (af dA.out 1).trans rfl; have YJ : Hu.cell? ⟨gm, 2, none⟩ = some (.int .i64 aH) := (af dA.out 2).trans rfl; have YK : Hu.cell? ⟨gm, 3, none⟩ = some (.int .i64 aK) := (af dA.out 3).trans rfl; have Zb := ah dA.out 0; have Zc := ah dA.out 1; have Zd := ah dA.out 2; have Ze := ah dA.out 3))
  go_ret
  exact ⟨by rfl, by repeat ((with_reducible exact HB.out))⟩
def nV.f (az : Int) (aN : Int) (aH : Int) (aK : Int) : Option (Bool) := if az < 0 then (some false) else (if az > 10000 then (some false) else (if aN < 0 then (some false) else (if aN > 10000 then (some false) else (if aH > 0 then (if aH ≤ 10000 then (if aK > 0 then (if aK ≤ 10000 then (if (wrap64 (az + aH)) ≤ 10000 then (some (decide ((wrap64 (aN + aK)) ≤ 10000))) else (some false)) else (some false)) else (some false)) else (some false)) else (some false)))))
theorem nV.calls (az : Int) (aN : Int) (aH : Int) (aK : Int) (r : Bool) (w : World) (h : nV.f az aN aH aK = some r) :
  Calls Try.prog 57 #[.agg #[.int .i64 az, .int .i64 aN, .int .i64 aH, .int .i64 aK]] w fun e w' => e = .returned (.bool r) ∧ Below w.heap.size w w' := by
 have QN := Try.underlying23
 have HB := ae.mk (Below.refl w.heap.size w)
 have H : (if az < 0 then (some false) else (if az > 10000 then (some false) else (if aN < 0 then (some false) else (if aN > 10000 then (some false) else (if aH > 0 then (if aH ≤ 10000 then (if aK > 0 then (if aK ≤ 10000 then (if (wrap64 (az + aH)) ≤ 10000 then (some (decide ((wrap64 (aN + aK)) ≤ 10000))) else (some false)) else (some false)) else (some false)) else (some false)) else (some false)))))) = some r := h
 clear h
 by_cases c2 : az < 0
 ·rw [if_pos c2] at H
  have Ew : decide (az < 0) = true := decide_eq_true c2
  clear c2
  obtain rfl := Option.some.inj H
  go_enter Try.func57, Try.ntmps57
  go_wp2_with (((with_reducible refine ay (N := 1) rfl ?_); refine aG ?hg (N := 1) ?hd (cs := #[.int .i64 az, .int .i64 aN, .int .i64 aH, .int .i64 aK]) (t := 23) ?hr ?_; (case hd => rfl); (case hg => rfl); (case hr => (go_simp; done)); intro eF hg w3 hbox hb; have bH := ae.mk (hbox); replace HB := ae.mk (ak (by repeat ((with_reducible exact HB.out))) hb); clear hb hbox hg; have MX : w3.cell? ⟨eF, 0, none⟩ = some (.int .i64 az) := (af bH.out 0).trans rfl; have MZ : w3.cell? ⟨eF, 1, none⟩ = some (.int .i64 aN) := (af bH.out 1).trans rfl; have M_ : w3.cell? ⟨eF, 2, none⟩ = some (.int .i64 aH) := (af bH.out 2).trans rfl; have Na : w3.cell? ⟨eF, 3, none⟩ = some (.int .i64 aK) := (af bH.out 3).trans rfl; have Nh := ah bH.out 0; have Nl := ah bH.out 1; have Np := ah bH.out 2; have Nq := ah bH.out 3))
  go_ret
  exact ⟨by rfl, by repeat ((with_reducible exact HB.out))⟩
 ·rw [if_neg c2] at H
  have Ew : decide (az < 0) = false := decide_eq_false c2
  clear c2
  by_cases c5 : az > 10000
  ·rw [if_pos c5] at H
   have BB : decide (10000 < az) = true := decide_eq_true c5
   clear c5
   obtain rfl := Option.some.inj H
   go_enter Try.func57, Try.ntmps57
   go_wp2_with (((with_reducible refine ay (N := 1) rfl ?_); refine aG ?hg (N := 1) ?hd (cs := #[.int .i64 az, .int .i64 aN, .int .i64 aH, .int .i64 aK]) (t := 23) ?hr ?_; (case hd => rfl); (case hg => rfl); (case hr => (go_simp; done)); intro eF hg w6 hbox hb; have bH := ae.mk (hbox); replace HB := ae.mk (ak (by repeat ((with_reducible exact HB.out))) hb); clear hb hbox hg; have TL : w6.cell? ⟨eF, 0, none⟩ = some (.int .i64 az) := (af bH.out 0).trans rfl; have TM : w6.cell? ⟨eF, 1, none⟩ = some (.int .i64 aN) := (af bH.out 1).trans rfl; have TN : w6.cell? ⟨eF, 2, none⟩ = some (.int .i64 aH) := (af bH.out 2).trans rfl; have TP : w6.cell? ⟨eF, 3, none⟩ = some (.int .i64 aK) := (af bH.out 3).trans rfl; have Ub := ah bH.out 0; have Uc := ah bH.out 1; have Ud := ah bH.out 2; have Ue := ah bH.out 3))
   go_ret
   exact ⟨by rfl, by repeat ((with_reducible exact HB.out))⟩
  ·rw [if_neg c5] at H
   have BB : decide (10000 < az) = false := decide_eq_false c5
   clear c5
   by_cases c8 : aN < 0
   ·rw [if_pos c8] at H
    have Ez : decide (aN < 0) = true := decide_eq_true c8
    clear c8
    obtain rfl := Option.some.inj H
    go_enter Try.func57, Try.ntmps57
    go_wp2_with (((with_reducible refine ay (N := 1) rfl ?_); refine aG ?hg (N := 1) ?hd (cs := #[.int .i64 az, .int .i64 aN, .int .i64 aH, .int .i64 aK]) (t := 23) ?hr ?_; (case hd => rfl); (case hg => rfl); (case hr => (go_simp; done)); intro eF hg w9 hbox hb; have bH := ae.mk (hbox); replace HB := ae.mk (ak (by repeat ((with_reducible exact HB.out))) hb); clear hb hbox hg; have Ir : w9.cell? ⟨eF, 0, none⟩ = some (.int .i64 az) := (af bH.out 0).trans rfl; have Iu : w9.cell? ⟨eF, 1, none⟩ = some (.int .i64 aN) := (af bH.out 1).trans rfl; have Iw : w9.cell? ⟨eF, 2, none⟩ = some (.int .i64 aH) := (af bH.out 2).trans rfl; have Iy : w9.cell? ⟨eF, 3, none⟩ = some (.int .i64 aK) := (af bH.out 3).trans rfl; have Iz := ah bH.out 0; have IA := ah bH.out 1; have IB := ah bH.out 2; have IC := ah bH.out 3))
    go_ret
    exact ⟨by rfl, by repeat ((with_reducible exact HB.out))⟩
   ·rw [if_neg c8] at H
    have Ez : decide (aN < 0) = false := decide_eq_false c8
    clear c8
    by_cases c11 : aN > 10000
    ·rw [if_pos c11] at H
     have Xp : decide (10000 < aN) = true := decide_eq_true c11
     clear c11
     obtain rfl := Option.some.inj H
     go_enter Try.func57, Try.ntmps57
     go_wp2_with (((with_reducible refine ay (N := 1) rfl ?_); refine aG ?hg (N := 1) ?hd (cs := #[.int .i64 az, .int .i64 aN, .int .i64 aH, .int .i64 aK]) (t := 23) ?hr ?_; (case hd => rfl); (case hg => rfl); (case hr => (go_simp; done)); intro eF hg w12 hbox hb; have bH := ae.mk (hbox); replace HB := ae.mk (ak (by repeat ((with_reducible exact HB.out))) hb); clear hb hbox hg; have Ym : w12.cell? ⟨eF, 0, none⟩ = some (.int .i64 az) := (af bH.out 0).trans rfl; have Yn : w12.cell? ⟨eF, 1, none⟩ = some (.int .i64 aN) := (af bH.out 1).trans rfl; have Yo : w12.cell? ⟨eF, 2, none⟩ = some (.int .i64 aH) := (af bH.out 2).trans rfl; have Yp : w12.cell? ⟨eF, 3, none⟩ = some (.int .i64 aK) := (af bH.out 3).trans rfl; have YS := ah bH.out 0; have YT := ah bH.out 1; have YU := ah bH.out 2; have YV := ah bH.out 3))
     go_ret
     exact ⟨by rfl, by repeat ((with_reducible exact HB.out))⟩
    ·rw [if_neg c11] at H
     have Xp : decide (10000 < aN) = false := decide_eq_false c11
     clear c11
     by_cases c14 : aH > 0
     ·rw [if_pos c14] at H
      have aef : decide (0 < aH) = true := decide_eq_true c14
      clear c14
      by_cases c15 : aH ≤ 10000
      ·rw [if_pos c15] at H
       have aeg : decide (aH ≤ 10000) = true := decide_eq_true c15
       clear c15
       by_cases c16 : aK > 0
       ·rw [if_pos c16] at H
        have aeh : decide (0 < aK) = true := decide_eq_true c16
        clear c16
        by_cases c17 : aK ≤ 10000
        ·rw [if_pos c17] at H
         have aei : decide (aK ≤ 10000) = true := decide_eq_true c17
         clear c17
         by_cases c18 : (wrap64 (az + aH)) ≤ 10000
         ·rw [if_pos c18] at H
          have aej : decide ((wrap64 (az + aH)) ≤ 10000) = true := decide_eq_true c18
          clear c18
          obtain rfl := Option.some.inj H
          go_enter Try.func57, Try.ntmps57
          go_wp2_with (((with_reducible refine ay (N := 1) rfl ?_); refine aG ?hg (N := 1) ?hd (cs := #[.int .i64 az, .int .i64 aN, .int .i64 aH, .int .i64 aK]) (t := 23) ?hr ?_; (case hd => rfl); (case hg => rfl); (case hr => (go_simp; done)); intro eF hg Ht hbox hb; have bH := ae.mk (hbox); replace HB := ae.mk (ak (by repeat ((with_reducible exact HB.out))) hb); clear hb hbox hg; have Yz : Ht.cell? ⟨eF, 0, none⟩ = some (.int .i64 az) := (af bH.out 0).trans rfl; have YA : Ht.cell? ⟨eF, 1, none⟩ = some (.int .i64 aN) := (af bH.out 1).trans rfl; have YB : Ht.cell? ⟨eF, 2, none⟩ = some (.int .i64 aH) := (af bH.out 2).trans rfl; have YC : Ht.cell? ⟨eF, 3, none⟩ = some (.int .i64 aK) := (af bH.out 3).trans rfl; have Y4 := ah bH.out 0; have Y5 := ah bH.out 1; have Y6 := ah bH.out 2; have Y7 := ah bH.out 3))
          go_ret
          exact ⟨by rfl, by repeat ((with_reducible exact HB.out))⟩
         ·rw [if_neg c18] at H
          have aej : decide ((wrap64 (az + aH)) ≤ 10000) = false := decide_eq_false c18
          clear c18
          obtain rfl := Option.some.inj H
          go_enter Try.func57, Try.ntmps57
          go_wp2_with (((with_reducible refine ay (N := 1) rfl ?_); refine aG ?hg (N := 1) ?hd (cs := #[.int .i64 az, .int .i64 aN, .int .i64 aH, .int .i64 aK]) (t := 23) ?hr ?_; (case hd => rfl); (case hg => rfl); (case hr => (go_simp; done)); intro eF hg Ee hbox hb; have bH := ae.mk (hbox); replace HB := ae.mk (ak (by repeat ((with_reducible exact HB.out))) hb); clear hb hbox hg; have YD : Ee.cell? ⟨eF, 0, none⟩ = some (.int .i64 az) := (af bH.out 0).trans rfl; have YE : Ee.cell? ⟨eF, 1, none⟩ = some (.int .i64 aN) := (af bH.out 1).trans rfl; have YF : Ee.cell? ⟨eF, 2, none⟩ = some (.int .i64 aH) := (af bH.out 2).trans rfl; have YG : Ee.cell? ⟨eF, 3, none⟩ = some (.int .i64 aK) := (af bH.out 3).trans rfl; have Y8 := ah bH.out 0; have Y9 := ah bH.out 1; have Y_ := ah bH.out 2; have Za := ah bH.out 3))
          go_ret
          exact ⟨by rfl, by repeat ((with_reducible exact HB.out))⟩
        ·rw [if_neg c17] at H
         have aei : decide (aK ≤ 10000) = false := decide_eq_false c17
         clear c17
         obtain rfl := Option.some.inj H
         go_enter Try.func57, Try.ntmps57
         go_wp2_with (((with_reducible refine ay (N := 1) rfl ?_); refine aG ?hg (N := 1) ?hd (cs := #[.int .i64 az, .int .i64 aN, .int .i64 aH, .int .i64 aK]) (t := 23) ?hr ?_; (case hd => rfl); (case hg => rfl); (case hr => (go_simp; done)); intro eF hg Hu hbox hb; have bH := ae.mk (hbox); replace HB := ae.mk (ak (by repeat ((with_reducible exact HB.out))) hb); clear hb hbox hg; have YH : Hu.cell? ⟨eF, 0, none⟩ = some (.int .i64 az) := (af bH.out 0).trans rfl; have YI : Hu.cell? ⟨eF, 1, none⟩ = some (.int .i64 aN) := (af bH.out 1).trans rfl; have YJ : Hu.cell? ⟨eF, 2, none⟩ = some (.int .i64 aH) := (af bH.out 2).trans rfl; have YK : Hu.cell? ⟨eF, 3, none⟩ = some (.int .i64 aK) := (af bH.out 3).trans rfl; have Zb := ah bH.out 0; have Zc := ah bH.out 1; have Zd := ah bH.out 2; have Ze := ah bH.out 3))
         go_ret
         exact ⟨by rfl, by repeat ((with_reducible exact HB.out))⟩
       ·rw [if_neg c16] at H
        have aeh : decide (0 < aK) = false := decide_eq_false c16
        clear c16
        obtain rfl := Option.some.inj H
        go_enter Try.func57, Try.ntmps57
        go_wp2_with (((with_reducible refine ay (N := 1) rfl ?_); refine aG ?hg (N := 1) ?hd (cs := #[.int .i64 az, .int .i64 aN, .int .i64 aH, .int .i64 aK]) (t := 23) ?hr ?_; (case hd => rfl); (case hg => rfl); (case hr => (go_simp; done)); intro eF hg XP hbox hb; have bH := ae.mk (hbox); replace HB := ae.mk (ak (by repeat ((with_reducible exact HB.out))) hb); clear hb hbox hg; have ag8 : XP.cell? ⟨eF, 0, none⟩ = some (.int .i64 az) := (af bH.out 0).trans rfl; have ag9 : XP.cell? ⟨eF, 1, none⟩ = some (.int .i64 aN) := (af bH.out 1).trans rfl; have ag_ : XP.cell? ⟨eF, 2, none⟩ = some (.int .i64 aH) := (af bH.out 2).trans rfl; have ag' : XP.cell? ⟨eF, 3, none⟩ = some (.int .i64 aK) := (af bH.out 3).trans rfl; have ahC := ah bH.out 0; have ahD := ah bH.out 1; have ahE := ah bH.out 2; have ahF := ah bH.out 3))
        go_ret
        exact ⟨by rfl, by repeat ((with_reducible exact HB.out))⟩
      ·rw [if_neg c15] at H
       have aeg : decide (aH ≤ 10000) = false := decide_eq_false c15
       clear c15
       obtain rfl := Option.some.inj H
       go_enter Try.func57, Try.ntmps57
       go_wp2_with (((with_reducible refine ay (N := 1) rfl ?_); refine aG ?hg (N := 1) ?hd (cs := #[.int .i64 az, .int .i64 aN, .int .i64 aH, .int .i64 aK]) (t := 23) ?hr ?_; (case hd => rfl); (case hg => rfl); (case hr => (go_simp; done)); intro eF hg XQ hbox hb; have bH := ae.mk (hbox); replace HB := ae.mk (ak (by repeat ((with_reducible exact HB.out))) hb); clear hb hbox hg; have aha : XQ.cell? ⟨eF, 0, none⟩ = some (.int .i64 az) := (af bH.out 0).trans rfl; have ahb : XQ.cell? ⟨eF, 1, none⟩ = some (.int .i64 aN) := (af bH.out 1).trans rfl; have ahc : XQ.cell? ⟨eF, 2, none⟩ = some (.int .i64 aH) := (af bH.out 2).trans rfl; have ahd : XQ.cell? ⟨eF, 3, none⟩ = some (.int .i64 aK) := (af bH.out 3).trans rfl; have ahG := ah bH.out 0; have ahH := ah bH.out 1; have ahI := ah bH.out 2; have ahJ := ah bH.out 3))
       go_ret
       exact ⟨by rfl, by repeat ((with_reducible exact HB.out))⟩
     ·rw [if_neg c14] at H
      have aef : decide (0 < aH) = false := decide_eq_false c14
      clear c14
      obtain rfl := Option.some.inj H
      go_enter Try.func57, Try.ntmps57
      go_wp2_with (((with_reducible refine ay (N := 1) rfl ?_); refine aG ?hg (N := 1) ?hd (cs := #[.int .i64 az, .int .i64 aN, .int .i64 aH, .int .i64 aK]) (t := 23) ?hr ?_; (case hd => rfl); (case hg => rfl); (case hr => (go_simp; done)); intro eF hg XR hbox hb; have bH := ae.mk (hbox); replace HB := ae.mk (ak (by repeat ((with_reducible exact HB.out))) hb); clear hb hbox hg; have ahe : XR.cell? ⟨eF, 0, none⟩ = some (.int .i64 az) := (af bH.out 0).trans rfl; have ahf : XR.cell? ⟨eF, 1, none⟩ = some (.int .i64 aN) := (af bH.out 1).trans rfl; have ahg : XR.cell? ⟨eF, 2, none⟩ = some (.int .i64 aH) := (af bH.out 2).trans rfl; have ahh : XR.cell? ⟨eF, 3, none⟩ = some (.int .i64 aK) := (af bH.out 3).trans rfl; have ahK := ah bH.out 0; have ahL := ah bH.out 1; have ahM := ah bH.out 2; have ahN := ah bH.out 3))
      go_ret
      exact ⟨by rfl, by repeat ((with_reducible exact HB.out))⟩
end Go.Proofs.Ytfdmfgaiblfbhaa.P
namespace Go.Proofs.Ytfdmfgaiblfbhaa.P
open Go.RowKit Go.Proofs.ag.aA Go.Proofs.ag.a_ Go.Proofs.ag.bG
theorem wq {x : Int} (h0 : -9223372036854775808 ≤ x) (h1 : x ≤ 9223372036854775807) : wrap64 x = x := by unfold wrap64; omega
theorem F8 {α : Type} {c : Prop} [Decidable c] {g f : Nat → Option α} {r : α} (hc : c) (h : Ev g r) : Ev (fun k => if c then g k else f k) r := by simp only [if_pos hc]; exact h
theorem abU {α : Type} {c : Prop} [Decidable c] {g f : Nat → Option α} {r : α} (hc : ¬c) (h : Ev f r) : Ev (fun k => if c then g k else f k) r := by simp only [if_neg hc]; exact h
def o9 (X Y W H : Int) : Bool := decide (0 ≤ X ∧ 1 ≤ W ∧ W ≤ 10000 ∧ X + W ≤ 10000 ∧ 0 ≤ Y ∧ 1 ≤ H ∧ H ≤ 10000 ∧ Y + H ≤ 10000)
theorem uh {X Y W H : Int} : o9 X Y W H = true ↔ (0 ≤ X ∧ 1 ≤ W ∧ W ≤ 10000 ∧ X + W ≤ 10000 ∧ 0 ≤ Y ∧ 1 ≤ H ∧ H ≤ 10000 ∧ Y + H ≤ 10000) := by unfold o9; rw [decide_eq_true_iff]
theorem NH (X Y W H : Int) : vH.f X Y W H = some (o9 X Y W H) := by
 unfold vH.f o9
 by_cases h1 : X ≥ 0
 ·by_cases h2 : W ≥ 1
  ·by_cases h3 : W ≤ 10000
   ·rw [if_pos h1, if_pos h2, if_pos h3, wq (x := 10000 - W) (by omega) (by omega)]
    by_cases h4 : X ≤ 10000 - W
    ·rw [if_pos h4]
     by_cases h5 : Y ≥ 0
     ·by_cases h6 : H ≥ 1
      ·by_cases h7 : H ≤ 10000
       ·rw [if_pos h5, if_pos h6, if_pos h7, wq (x := 10000 - H) (by omega) (by omega)]
        congr 1
        rw [decide_eq_decide]
        omega
       ·rw [if_pos h5, if_pos h6, if_neg h7, decide_eq_false (by omega)]
      ·rw [if_pos h5, if_neg h6, decide_eq_false (by omega)]
     ·rw [if_neg h5, decide_eq_false (by omega)]
    ·rw [if_neg h4, decide_eq_false (by omega)]
   ·rw [if_pos h1, if_pos h2, if_neg h3, decide_eq_false (by omega)]
  ·rw [if_pos h1, if_neg h2, decide_eq_false (by omega)]
 ·rw [if_neg h1, decide_eq_false (by omega)]
theorem Ed (X Y W H : Int) : nV.f X Y W H = some (o9 X Y W H) := by
 unfold nV.f o9
 by_cases h1 : X < 0
 ·rw [if_pos h1, decide_eq_false (by omega)]
 ·rw [if_neg h1]
  by_cases h2 : X > 10000
  ·rw [if_pos h2, decide_eq_false (by omega)]
  ·rw [if_neg h2]
   by_cases h3 : Y < 0
   ·rw [if_pos h3, decide_eq_false (by omega)]
   ·rw [if_neg h3]
    by_cases h4 : Y > 10000
    ·rw [if_pos h4, decide_eq_false (by omega)]
    ·rw [if_neg h4]
     by_cases h5 : W > 0
     ·by_cases h6 : W ≤ 10000
      ·by_cases h7 : H > 0
       ·by_cases h8 : H ≤ 10000
        ·rw [if_pos h5, if_pos h6, if_pos h7, if_pos h8, wq (x := X + W) (by omega) (by omega), wq (x := Y + H) (by omega) (by omega)]
         by_cases h9 : X + W ≤ 10000
         ·rw [if_pos h9]
          congr 1
          rw [decide_eq_decide]
          omega
         ·rw [if_neg h9, decide_eq_false (by omega)]
        ·rw [if_pos h5, if_pos h6, if_pos h7, if_neg h8, decide_eq_false (by omega)]
       ·rw [if_pos h5, if_pos h6, if_neg h7, decide_eq_false (by omega)]
      ·rw [if_pos h5, if_neg h6, decide_eq_false (by omega)]
     ·rw [if_neg h5, decide_eq_false (by omega)]
def jX (r : dF) : Bool := o9 r.f0 r.f1 r.f2 r.f3
def tX (ax X Y : Int) : Int := if ax = 2 then Y else X
def wZ (ax X Y W H : Int) : Int → List Int → List dF
 | _, [] => []
 | off, n :: ns => (⟨tX ax (tX ax X Y + off) (tX ax Y X), tX ax (tX ax Y X) (tX ax X Y + off), tX ax n (tX ax H W), tX ax (tX ax H W) n⟩ : dF) :: wZ ax X Y W H (off + n + 1) ns
theorem MK (ax X Y W H : Int) : ∀ (ns : List Int) (off : Int), (wZ ax X Y W H off ns).length = ns.length := by
 intro ns
 induction ns with
 | nil => intro off; rfl
 | cons n ns ih => intro off; simp [wZ, ih]
def nC (ax s t e n : Int) : dF := ⟨tX ax s t, tX ax t s, tX ax n e, tX ax e n⟩
def ng (ax s t d e : Int) : Int → Bool → List dF → List dF → List Int → List dF × List dF × Bool
 | off, _, ps, ls, [] => if off = d then (ps, ls, true) else ([], [], false)
 | off, fst, ps, ls, n :: ns => if n < 1 ∨ d < (if fst then off else off + 1) + n then ([], [], false) else
  ng ax s t d e ((if fst then off else off + 1) + n) false (ps ++ [nC ax (s + (if fst then off else off + 1)) t e n]) (if fst then ls else ls ++ [nC ax (s + off) t e 1]) ns
def pY (X Y W H ax : Int) (sizes : List Int) : List dF × List dF × Bool :=
 if (ax = 1 ∨ ax = 2) ∧ o9 X Y W H = true ∧ sizes ≠ [] then ng ax (tX ax X Y) (tX ax Y X) (tX ax W H) (tX ax H W) 0 true [] [] sizes else ([], [], false)
theorem VJ (ax s t d e : Int) : ∀ (ns : List Int) (off : Int) (f : Bool) (ps ls : List dF), (ng ax s t d e off f ps ls ns).1.length ≤ ps.length + ns.length ∧ (ng ax s t d e off f ps ls ns).2.1.length ≤ ls.length + ns.length := by
 intro ns
 induction ns with
 | nil => intro off f ps ls; unfold ng; split <;> simp
 | cons n ns ih =>
  intro off f ps ls
  unfold ng
  have hl : (if f then ls else ls ++ [nC ax (s + off) t e 1]).length ≤ ls.length + 1 := by cases f <;> simp
  generalize (if f then ls else ls ++ [nC ax (s + off) t e 1]) = ls' at hl ⊢
  generalize (if f then off else off + 1) = o
  by_cases hc : n < 1 ∨ d < o + n
  ·rw [if_pos hc]; simp
  ·rw [if_neg hc]
   have h := ih (o + n) false (ps ++ [nC ax (s + o) t e n]) ls'
   rw [List.length_append, List.length_singleton] at h
   rw [List.length_cons]
   omega
theorem Tj (ax X Y W H : Int) : ∀ (ns : List Int) (off : Int) (f : Bool) (ps ls : List dF), (ng ax (tX ax X Y) (tX ax Y X) (tX ax W H) (tX ax H W) off f ps ls ns).2.2 = true →
  (ng ax (tX ax X Y) (tX ax Y X) (tX ax W H) (tX ax H W) off f ps ls ns).1 = ps ++ wZ ax X Y W H (if f then off else off + 1) ns ∧ off + ns.sum + (ns.length : Int) - (if f ∧ ns ≠ [] then 1 else 0) = tX ax W H ∧ ∀ m, m ∈ ns → 1 ≤ m := by
 intro ns
 induction ns with
 | nil =>
  intro off f ps ls h
  unfold ng at h ⊢
  split at h
  ·rename_i ho
   rw [if_pos ho]
   exact ⟨by simp [wZ], by simp [ho], fun m hm => by cases hm⟩
  ·cases h
 | cons n ns ih =>
  intro off f ps ls h
  unfold ng at h ⊢
  by_cases hn : n < 1 ∨ tX ax W H < (if f then off else off + 1) + n
  ·rw [if_pos hn] at h; cases h
  ·rw [if_neg hn] at h ⊢
   obtain ⟨h1, h2, h3⟩ := ih _ _ _ _ h
   refine ⟨?_, ?_, fun m hm => ?_⟩
   ·rw [h1, List.append_assoc]
    cases f <;> rfl
   ·rw [List.sum_cons, List.length_cons]
    cases f with
    | false => simp only [Bool.false_eq_true, if_false, false_and] at h2 ⊢; omega
    | true => simp only [Bool.false_eq_true, if_false, if_true, false_and] at h2 ⊢; rw [if_pos (by simp)]; omega
   ·rcases List.mem_cons.1 hm with rfl | hm
    ·omega
    ·exact h3 m hm
theorem Jd : ∀ (l : List Int), (∀ m, m ∈ l → 1 ≤ m) → (l.length : Int) ≤ l.sum := by
 intro l
 induction l with
 | nil => intro _; simp
 | cons x xs ih =>
  intro h
  have h1 := h x (by simp)
  have h2 := ih (fun m hm => h m (by simp [hm]))
  rw [List.sum_cons, List.length_cons]
  omega
theorem Yd (ax s t d e : Int) : ∀ (ns : List Int) (off : Int) (f : Bool) (ps ls : List dF), off + ns.sum + (ns.length : Int) - (if f ∧ ns ≠ [] then 1 else 0) = d → (∀ m, m ∈ ns → 1 ≤ m) → (ng ax s t d e off f ps ls ns).2.2 = true := by
 intro ns
 induction ns with
 | nil =>
  intro off f ps ls h _
  unfold ng
  simp at h
  rw [if_pos h]
 | cons n ns ih =>
  intro off f ps ls h hp
  have hn := hp n (by simp)
  have hr := Jd ns (fun m hm => hp m (by simp [hm]))
  unfold ng
  rw [List.sum_cons, List.length_cons] at h
  rw [if_neg (by
   cases f with
   | false => simp only [Bool.false_eq_true, if_false, false_and] at h ⊢; omega
   | true => simp only [if_true] at h ⊢; rw [if_pos (by simp)] at h; omega)]
  refine ih _ _ _ _ ?_ (fun m hm => hp m (by simp [hm]))
  cases f with
  | false => simp only [Bool.false_eq_true, if_false, false_and] at h ⊢; omega
  | true => simp only [Bool.false_eq_true, if_false, if_true, false_and] at h ⊢; rw [if_pos (by simp)] at h; omega
theorem VI (X Y W H ax : Int) (sizes : List Int) : (pY X Y W H ax sizes).1.length ≤ sizes.length ∧ (pY X Y W H ax sizes).2.1.length ≤ sizes.length := by
 unfold pY
 split
 ·have := VJ ax (tX ax X Y) (tX ax Y X) (tX ax W H) (tX ax H W) sizes 0 true [] []
  simpa using this
 ·simp
theorem Ti {X Y W H ax : Int} {sizes : List Int} (h : (pY X Y W H ax sizes).2.2 = true) : (ax = 1 ∨ ax = 2) ∧ (pY X Y W H ax sizes).1 = wZ ax X Y W H 0 sizes ∧ sizes.sum + (sizes.length : Int) - 1 = tX ax W H ∧ ∀ m, m ∈ sizes → 1 ≤ m := by
 unfold pY at h ⊢
 split at h
 ·rename_i hc
  rw [if_pos hc]
  obtain ⟨h1, h2, h3⟩ := Tj ax X Y W H sizes 0 true [] [] h
  rw [if_pos ⟨rfl, hc.2.2⟩] at h2
  exact ⟨hc.1, by simpa using h1, by omega, h3⟩
 ·cases h
theorem Yc {X Y W H ax : Int} {sizes : List Int} (hax : ax = 1 ∨ ax = 2) (hm : o9 X Y W H = true) (hne : sizes ≠ []) (hs : sizes.sum + (sizes.length : Int) - 1 = tX ax W H) (hp : ∀ m, m ∈ sizes → 1 ≤ m) : (pY X Y W H ax sizes).2.2 = true := by
 unfold pY
 rw [if_pos ⟨hax, hm, hne⟩]
 exact Yd _ _ _ _ _ _ _ _ _ _ (by rw [if_pos ⟨rfl, hne⟩]; omega) hp
end Go.Proofs.Ytfdmfgaiblfbhaa.P
namespace Go.Proofs.Ytfdmfgaiblfbhaa.P
open Go.RowKit Go.Proofs.ag.aA Go.Proofs.ag.a_ Go.Proofs.ag.bG
attribute [local go_sem] jf jr jG jR iV iW jB jC
def oM.f (az : Int) (aN : Int) (aH : Int) (aK : Int) (a1 : Int) : Option (Int × Int × Int × Int × Bool) := if a1 = 2 then (some (aN, az, aK, aH, true)) else (if a1 = 1 then (some (az, aN, aH, aK, true)) else (some (0, 0, 0, 0, false)))
theorem oM.calls (az : Int) (aN : Int) (aH : Int) (aK : Int) (a1 : Int) (r1 : Int) (r2 : Int) (r3 : Int) (r4 : Int) (r5 : Bool) (w : World) (h : oM.f az aN aH aK a1 = some (r1, r2, r3, r4, r5)) :
  Calls Try.prog 127 #[.agg #[.int .i64 az, .int .i64 aN, .int .i64 aH, .int .i64 aK], .int .u8 a1] w fun e w' => e = .returned (.tuple #[.agg #[.int .i64 r1, .int .i64 r2, .int .i64 r3, .int .i64 r4], .bool r5]) ∧ Below w.heap.size w w' := by
 have QN := Try.underlying23
 have HB := ae.mk (Below.refl w.heap.size w)
 have H : (if a1 = 2 then (some (aN, az, aK, aH, true)) else (if a1 = 1 then (some (az, aN, aH, aK, true)) else (some (0, 0, 0, 0, false)))) = some (r1, r2, r3, r4, r5) := h
 clear h
 by_cases c3 : a1 = 2
 ·rw [if_pos c3] at H
  have uT : (a1 == 2) = true := beq_iff_eq.mpr c3
  have Ey : (a1 != 2) = false := bne_eq_false_iff_eq.mpr c3
  clear c3
  simp only [Option.some.injEq, Prod.mk.injEq] at H
  obtain ⟨rfl, rfl, rfl, rfl, rfl⟩ := H
  go_enter Try.func127, Try.ntmps127
  go_wp2_with (first | ((with_reducible refine ay (N := 2) rfl ?_); refine aG ?hg (N := 2) ?hd (cs := #[.int .i64 az, .int .i64 aN, .int .i64 aH, .int .i64 aK]) (t := 23) ?hr ?_; (case hd => rfl); (case hg => rfl); (case hr => (go_simp; done)); intro mF hg w4 hbox hb; have jl := ae.mk (hbox); have Qd := ae.mk ((by rw [hg]; exact (dC (by repeat ((with_reducible exact HB.out)))) : w.heap.size ≤ mF)); replace HB := ae.mk (ak (by repeat ((with_reducible exact HB.out))) hb); clear hb hbox hg) | ((with_reducible refine ay (N := 4) rfl ?_); refine aG ?hg (N := 4) ?hd (cs := #[.int .i64 0, .int .i64 0, .int .i64 0, .int .i64 0]) (t := 23) ?hr ?_; (case hd => rfl); (case hg => rfl); (case hr => (go_simp; done)); intro jP hg w5 hbox hb; have jw := ae.mk (hbox); have Fp := ae.mk ((by rw [hg]; exact (dC (by repeat ((with_reducible exact HB.out)))) : w.heap.size ≤ jP)); have wo := ae.mk ((by rw [hg]; exact Nat.ne_of_lt (eH jl.out) : mF ≠ jP)); have nZ := ae.mk ((by rw [hg]; exact Nat.ne_of_gt (eH jl.out) : jP ≠ mF)); replace jl := ae.mk (aJ jl.out hb); replace HB := ae.mk (ak (by repeat ((with_reducible exact HB.out))) hb); clear hb hbox hg; have aki := wo.out; have akj := nZ.out; have TL : w5.cell? ⟨mF, 0, none⟩ = some (.int .i64 az) := (af jl.out 0).trans rfl; have TM : w5.cell? ⟨mF, 1, none⟩ = some (.int .i64 aN) := (af jl.out 1).trans rfl; have TN : w5.cell? ⟨mF, 2, none⟩ = some (.int .i64 aH) := (af jl.out 2).trans rfl; have TP : w5.cell? ⟨mF, 3, none⟩ = some (.int .i64 aK) := (af jl.out 3).trans rfl; have Ub := ah jl.out 0; have Uc := ah jl.out 1; have Ud := ah jl.out 2; have Ue := ah jl.out 3; have TQ : w5.cell? ⟨jP, 0, none⟩ = some (.int .i64 0) := (af jw.out 0).trans rfl; have TR : w5.cell? ⟨jP, 1, none⟩ = some (.int .i64 0) := (af jw.out 1).trans rfl; have TS : w5.cell? ⟨jP, 2, none⟩ = some (.int .i64 0) := (af jw.out 2).trans rfl; have TT : w5.cell? ⟨jP, 3, none⟩ = some (.int .i64 0) := (af jw.out 3).trans rfl; have Uf := ah jw.out 0; have Ug := ah jw.out 1; have Uh := ah jw.out 2; have Ui := ah jw.out 3))
  refine bodyPost_ret (gy rfl _ _ jP 23 _ (0, 0) _ rfl (by refine dP (cs := #[.int .i64 aN, .int .i64 az, .int .i64 aK, .int .i64 aH]) ?_ 3 _ rfl; refine dP (cs := #[.int .i64 aN, .int .i64 az, .int .i64 aK, .int .i64 aH]) ?_ 2 _ rfl; refine dP (cs := #[.int .i64 aN, .int .i64 az, .int .i64 aK, .int .i64 aH]) ?_ 1 _ rfl; refine dP (cs := #[.int .i64 aN, .int .i64 az, .int .i64 aK, .int .i64 aH]) ?_ 0 _ rfl; refine dP (cs := #[.int .i64 aN, .int .i64 az, .int .i64 aK, .int .i64 0]) ?_ 3 _ rfl; refine dP (cs := #[.int .i64 aN, .int .i64 az, .int .i64 0, .int .i64 0]) ?_ 2 _ rfl; refine dP (cs := #[.int .i64 aN, .int .i64 0, .int .i64 0, .int .i64 0]) ?_ 1 _ rfl; refine dP (cs := #[.int .i64 0, .int .i64 0, .int .i64 0, .int .i64 0]) ?_ 0 _ rfl; refine Dq ?_ nZ.out _; refine Dq ?_ nZ.out _; refine Dq ?_ nZ.out _; refine Dq ?_ nZ.out _; exact jw.out) Try.underlying23 rfl (by kernel_rfl)) rfl ?_
  exact ⟨by rfl, by repeat ((with_reducible first | exact HB.out | refine gG ?_ Qd.out | refine gG ?_ Fp.out))⟩
 ·rw [if_neg c3] at H
  have uT : (a1 == 2) = false := beq_eq_false_iff_ne.mpr c3
  have Ey : (a1 != 2) = true := bne_iff_ne.mpr c3
  by_cases c9 : a1 = 1
  ·rw [if_pos c9] at H
   have Qy : (a1 == 1) = true := beq_iff_eq.mpr c9
   have af5 : (a1 != 1) = false := bne_eq_false_iff_eq.mpr c9
   clear c9
   simp only [Option.some.injEq, Prod.mk.injEq] at H
   obtain ⟨rfl, rfl, rfl, rfl, rfl⟩ := H
   go_enter Try.func127, Try.ntmps127
   go_wp2_with (first | ((with_reducible refine ay (N := 2) rfl ?_); refine aG ?hg (N := 2) ?hd (cs := #[.int .i64 az, .int .i64 aN, .int .i64 aH, .int .i64 aK]) (t := 23) ?hr ?_; (case hd => rfl); (case hg => rfl); (case hr => (go_simp; done)); intro mF hg w10 hbox hb; have jl := ae.mk (hbox); have Qd := ae.mk ((by rw [hg]; exact (dC (by repeat ((with_reducible exact HB.out)))) : w.heap.size ≤ mF)); replace HB := ae.mk (ak (by repeat ((with_reducible exact HB.out))) hb); clear hb hbox hg) | ((with_reducible refine ay (N := 4) rfl ?_); refine aG ?hg (N := 4) ?hd (cs := #[.int .i64 0, .int .i64 0, .int .i64 0, .int .i64 0]) (t := 23) ?hr ?_; (case hd => rfl); (case hg => rfl); (case hr => (go_simp; done)); intro jP hg rZ hbox hb; have jw := ae.mk (hbox); have Fp := ae.mk ((by rw [hg]; exact (dC (by repeat ((with_reducible exact HB.out)))) : w.heap.size ≤ jP)); have wo := ae.mk ((by rw [hg]; exact Nat.ne_of_lt (eH jl.out) : mF ≠ jP)); have nZ := ae.mk ((by rw [hg]; exact Nat.ne_of_gt (eH jl.out) : jP ≠ mF)); replace jl := ae.mk (aJ jl.out hb); replace HB := ae.mk (ak (by repeat ((with_reducible exact HB.out))) hb); clear hb hbox hg; have aj7 := wo.out; have aj9 := nZ.out; have Ym : rZ.cell? ⟨mF, 0, none⟩ = some (.int .i64 az) := (af jl.out 0).trans rfl; have Yn : rZ.cell? ⟨mF, 1, none⟩ = some (.int .i64 aN) := (af jl.out 1).trans rfl; have Yo : rZ.cell? ⟨mF, 2, none⟩ = some (.int .i64 aH) := (af jl.out 2).trans rfl; have Yp : rZ.cell? ⟨mF, 3, none⟩ = some (.int .i64 aK) := (af jl.out 3).trans rfl; have YS := ah jl.out 0; have YT := ah jl.out 1; have YU := ah jl.out 2; have YV := ah jl.out 3; have Ph : rZ.cell? ⟨jP, 0, none⟩ = some (.int .i64 0) := (af jw.out 0).trans rfl; have Pj : rZ.cell? ⟨jP, 1, none⟩ = some (.int .i64 0) := (af jw.out 1).trans rfl; have Pm : rZ.cell? ⟨jP, 2, none⟩ = some (.int .i64 0) := (af jw.out 2).trans rfl; have Pn : rZ.cell? ⟨jP, 3, none⟩ = some (.int .i64 0) := (af jw.out 3).trans rfl; have Py := ah jw.out 0; have Pz := ah jw.out 1; have PD := ah jw.out 2; have PE := ah jw.out 3))
   refine bodyPost_ret (gy rfl _ _ jP 23 _ (0, 0) _ rfl (by refine dP (cs := #[.int .i64 az, .int .i64 aN, .int .i64 aH, .int .i64 aK]) ?_ 3 _ rfl; refine dP (cs := #[.int .i64 az, .int .i64 aN, .int .i64 aH, .int .i64 aK]) ?_ 2 _ rfl; refine dP (cs := #[.int .i64 az, .int .i64 aN, .int .i64 aH, .int .i64 aK]) ?_ 1 _ rfl; refine dP (cs := #[.int .i64 az, .int .i64 aN, .int .i64 aH, .int .i64 aK]) ?_ 0 _ rfl; refine dP (cs := #[.int .i64 az, .int .i64 aN, .int .i64 aH, .int .i64 0]) ?_ 3 _ rfl; refine dP (cs := #[.int .i64 az, .int .i64 aN, .int .i64 0, .int .i64 0]) ?_ 2 _ rfl; refine dP (cs := #[.int .i64 az, .int .i64 0, .int .i64 0, .int .i64 0]) ?_ 1 _ rfl; refine dP (cs := #[.int .i64 0, .int .i64 0, .int .i64 0, .int .i64 0]) ?_ 0 _ rfl; exact jw.out) Try.underlying23 rfl (by kernel_rfl)) rfl ?_
   exact ⟨by rfl, by repeat ((with_reducible first | exact HB.out | refine gG ?_ Fp.out))⟩
  ·rw [if_neg c9] at H
   have Qy : (a1 == 1) = false := beq_eq_false_iff_ne.mpr c9
   have af5 : (a1 != 1) = true := bne_iff_ne.mpr c9
   simp only [Option.some.injEq, Prod.mk.injEq] at H
   obtain ⟨rfl, rfl, rfl, rfl, rfl⟩ := H
   go_enter Try.func127, Try.ntmps127
   go_wp2_with (first | ((with_reducible refine ay (N := 2) rfl ?_); refine aG ?hg (N := 2) ?hd (cs := #[.int .i64 az, .int .i64 aN, .int .i64 aH, .int .i64 aK]) (t := 23) ?hr ?_; (case hd => rfl); (case hg => rfl); (case hr => (go_simp; done)); intro mF hg zB hbox hb; have jl := ae.mk (hbox); have Qd := ae.mk ((by rw [hg]; exact (dC (by repeat ((with_reducible exact HB.out)))) : w.heap.size ≤ mF)); replace HB := ae.mk (ak (by repeat ((with_reducible exact HB.out))) hb); clear hb hbox hg) | ((with_reducible refine ay (N := 4) rfl ?_); refine aG ?hg (N := 4) ?hd (cs := #[.int .i64 0, .int .i64 0, .int .i64 0, .int .i64 0]) (t := 23) ?hr ?_; (case hd => rfl); (case hg => rfl); (case hr => (go_simp; done)); intro jP hg w16 hbox hb; have jw := ae.mk (hbox); have Fp := ae.mk ((by rw [hg]; exact (dC (by repeat ((with_reducible exact HB.out)))) : w.heap.size ≤ jP)); have wo := ae.mk ((by rw [hg]; exact Nat.ne_of_lt (eH jl.out) : mF ≠ jP)); have nZ := ae.mk ((by rw [hg]; exact Nat.ne_of_gt (eH jl.out) : jP ≠ mF)); replace jl := ae.mk (aJ jl.out hb); replace HB := ae.mk (ak (by repeat ((with_reducible exact HB.out))) hb); clear hb hbox hg; have aj8 := nZ.out; have aj_ := wo.out; have Yv : w16.cell? ⟨jP, 0, none⟩ = some (.int .i64 0) := (af jw.out 0).trans rfl; have Yw : w16.cell? ⟨jP, 1, none⟩ = some (.int .i64 0) := (af jw.out 1).trans rfl; have Yx : w16.cell? ⟨jP, 2, none⟩ = some (.int .i64 0) := (af jw.out 2).trans rfl; have Yy : w16.cell? ⟨jP, 3, none⟩ = some (.int .i64 0) := (af jw.out 3).trans rfl; have Y0 := ah jw.out 0; have Y1 := ah jw.out 1; have Y2 := ah jw.out 2; have Y3 := ah jw.out 3))
   refine bodyPost_ret (gy rfl _ _ jP 23 _ (0, 0) _ rfl (by refine dP (cs := #[.int .i64 0, .int .i64 0, .int .i64 0, .int .i64 0]) ?_ 3 _ rfl; refine dP (cs := #[.int .i64 0, .int .i64 0, .int .i64 0, .int .i64 0]) ?_ 2 _ rfl; refine dP (cs := #[.int .i64 0, .int .i64 0, .int .i64 0, .int .i64 0]) ?_ 1 _ rfl; refine dP (cs := #[.int .i64 0, .int .i64 0, .int .i64 0, .int .i64 0]) ?_ 0 _ rfl; exact jw.out) Try.underlying23 rfl (by kernel_rfl)) rfl ?_
   exact ⟨by rfl, by repeat ((with_reducible first | exact HB.out | refine gG ?_ Fp.out))⟩
end Go.Proofs.Ytfdmfgaiblfbhaa.P
namespace Go.Proofs.Ytfdmfgaiblfbhaa.P
open Go.RowKit Go.Proofs.ag.aA Go.Proofs.ag.a_ Go.Proofs.ag.bG
section
variable {W : World}
theorem Oy {ax : Int} (h : ax = 1 ∨ ax = 2) (X Y W H : Int) : oM.f X Y W H ax = some (tX ax X Y, tX ax Y X, tX ax W H, tX ax H W, true) := by
 unfold oM.f tX
 rcases h with rfl | rfl
 ·rfl
 ·rfl
theorem Fa {ax : Int} (h : ax = 1 ∨ ax = 2) (x y u v : Int) : Calls Try.prog 127 #[.agg #[.int .i64 x, .int .i64 y, .int .i64 u, .int .i64 v], .int .u8 ax] W fun e w' => e = .returned (.tuple #[.agg #[.int .i64 (tX ax x y), .int .i64 (tX ax y x), .int .i64 (tX ax u v), .int .i64 (tX ax v u)], .bool true]) ∧ Below W.heap.size W w' :=
 oM.calls _ _ _ _ _ _ _ _ _ _ W (Oy h x y u v)
theorem U3 {ax : Int} (h : ¬ (ax = 1 ∨ ax = 2)) (x y u v : Int) : Calls Try.prog 127 #[.agg #[.int .i64 x, .int .i64 y, .int .i64 u, .int .i64 v], .int .u8 ax] W fun e w' => e = .returned (.tuple #[.agg #[.int .i64 0, .int .i64 0, .int .i64 0, .int .i64 0], .bool false]) ∧ Below W.heap.size W w' :=
 oM.calls _ _ _ _ _ _ _ _ _ _ W (by unfold oM.f; rw [if_neg (fun e => h (.inr e)), if_neg (fun e => h (.inl e))])
theorem NQ {x y u v : Int} {b : Bool} (h : o9 x y u v = b) : Calls Try.prog 128 #[.agg #[.int .i64 x, .int .i64 y, .int .i64 u, .int .i64 v]] W fun e w' => e = .returned (.bool b) ∧ Below W.heap.size W w' :=
 vH.calls _ _ _ _ _ W ((NH _ _ _ _).trans (congrArg some h))
theorem CO {x y u v : Int} {b : Bool} (h : o9 x y u v = b) : Calls Try.prog 57 #[.agg #[.int .i64 x, .int .i64 y, .int .i64 u, .int .i64 v]] W fun e w' => e = .returned (.bool b) ∧ Below W.heap.size W w' :=
 nV.calls _ _ _ _ _ W ((Ed _ _ _ _).trans (congrArg some h))
end
abbrev KF (w : World) (t : List dF × List dF × Bool) (e : Ending) (w' : World) : Prop := ∃ A c A' c' o o', e = .returned (.tuple #[.slice A t.1.length c, .slice A' t.2.1.length c', .bool t.2.2]) ∧ (t.2.2 = true → Two k23 23 k23 23 w w' (.slice A t.1.length c) t.1 (.slice A' t.2.1.length c') t.2.1 o o') ∧ Below w.heap.size w w'
theorem xQ {X Y W H ax : Int} {sizes : List Int} (h : ¬ (ax = 1 ∨ ax = 2) ∨ o9 X Y W H = false ∨ sizes.length = 0) : pY X Y W H ax sizes = ([], [], false) := by
 unfold pY
 refine if_neg (fun hc => ?_)
 rcases h with h | h | h
 ·exact h hc.1
 ·rw [hc.2.1] at h; cases h
 ·exact hc.2.2 (List.eq_nil_of_length_eq_zero h)
theorem Tm {X Y W H ax : Int} {sizes : List Int} (h1 : ax = 1 ∨ ax = 2) (h2 : o9 X Y W H = true) (h3 : sizes.length ≠ 0) : pY X Y W H ax sizes = ng ax (tX ax X Y) (tX ax Y X) (tX ax W H) (tX ax H W) 0 true [] [] sizes := by
 unfold pY
 exact if_pos ⟨h1, h2, fun h => h3 (by rw [h]; rfl)⟩
theorem MJ {ax s t d e off : Int} {f : Bool} {ps ls : List dF} {R : List dF × List dF × Bool} (h : ng ax s t d e off f ps ls [] = R) : R = if off = d then (ps, ls, true) else ([], [], false) := h.symm
def yN (ax s t d e o : Int) (ps ls : List dF) (n : Int) (ns : List Int) : List dF × List dF × Bool := if n < 1 ∨ d < o + n then ([], [], false) else ng ax s t d e (o + n) false (ps ++ [nC ax (s + o) t e n]) ls ns
theorem yZ {ax s t d e o : Int} {ps ls : List dF} {n : Int} {ns : List Int} (h : n < 1 ∨ d < o + n) : yN ax s t d e o ps ls n ns = ([], [], false) := if_pos h
theorem O0 {ax s t d e o : Int} {ps ls : List dF} {n : Int} {ns : List Int} (h : ¬ (n < 1 ∨ d < o + n)) : yN ax s t d e o ps ls n ns = ng ax s t d e (o + n) false (ps ++ [nC ax (s + o) t e n]) ls ns := if_neg h
theorem U1 {X Y W H ax : Int} (h1 : ax = 1 ∨ ax = 2) (h2 : o9 X Y W H = true) : 0 ≤ tX ax X Y ∧ 1 ≤ tX ax W H ∧ tX ax X Y + tX ax W H ≤ 10000 := by
 have hm := uh.1 h2
 unfold tX
 rcases h1 with rfl | rfl
 ·rw [if_neg (by omega), if_neg (by omega)]; omega
 ·rw [if_pos rfl, if_pos rfl]; omega
mutual
def dZ : ai → List ai
 | ⟨a, b, d, l⟩ => ⟨a, b, d, l⟩ :: allL l
def allL : List ai → List ai
 | [] => []
 | c :: cs => dZ c ++ allL cs
end
theorem jY (c : ai) : dZ c = c :: allL c.f3 := by cases c; simp [dZ]
theorem jW : allL [] = [] := by simp [allL]
theorem g_ (c : ai) (cs : List ai) : allL (c :: cs) = dZ c ++ allL cs := by simp [allL]
theorem oK (a b : List ai) : allL (a ++ b) = allL a ++ allL b := by
 induction a with
 | nil => simp [jW]
 | cons x xs ih => rw [List.cons_append, g_, g_, ih, List.append_assoc]
def sz (c : ai) : Nat := (dZ c).length
def dM (l : List ai) : Nat := (allL l).length
theorem dB (c : ai) : sz c = 1 + dM c.f3 := by unfold sz dM; rw [jY, List.length_cons]; omega
theorem lW : dM [] = 0 := by unfold dM; rw [jW]; rfl
theorem b_ (c : ai) (cs : List ai) : dM (c :: cs) = sz c + dM cs := by unfold dM sz; rw [g_, List.length_append]
theorem jH (a b : List ai) : dM (a ++ b) = dM a + dM b := by unfold dM; rw [oK, List.length_append]
theorem ku (l : List ai) : l.length ≤ dM l := by
 induction l with
 | nil => simp
 | cons x xs ih => rw [b_, List.length_cons, dB]; omega
theorem Kv (c : ai) : (⟨c.f0, ⟨c.f1.f0, c.f1.f1, c.f1.f2, c.f1.f3⟩, c.f2, c.f3⟩ : ai) = c := by cases c; rfl
theorem Z5 (l : List ai) : dM l = (l.map sz).sum := by
 induction l with
 | nil => rw [lW]; rfl
 | cons x xs ih => rw [b_, List.map_cons, List.sum_cons, ih]
end Go.Proofs.Ytfdmfgaiblfbhaa.P
namespace Go.Proofs.Ytfdmfgaiblfbhaa.P
open Go.RowKit Go.Proofs.ag.aA Go.Proofs.ag.a_ Go.Proofs.ag.bG
attribute [local go_sem] jf jr jG jR iV iW jB jC
mutual
def df.l0 : Nat → Int → Int → Int → Int → Int → Int → Int → Int → Int → Int → List (ai) → Option (Int)
 | 0, _, _, _, _, _, _, _, _, _, _, _ => none
 | k + 1, x1, x5, x9, x10, aaf, aag, aah, aai, aaj, aak, rW => if x10 < x9 then (if x5 > x1 then (some x5) else (if 0 ≤ x10 then (if x10 < (rW.length : Int) then ((df.f k ((aj rW x10).f0) ((aj rW x10).f1.f0) ((aj rW x10).f1.f1) ((aj rW x10).f1.f2) ((aj rW x10).f1.f3) ((aj rW x10).f2) ((aj rW x10).f3) x1).bind fun t103 => (df.l0 k x1 (wrap64 (x5 + t103)) x9 (wrap64 (x10 + 1)) aaf aag aah aai aaj aak rW)) else (none)) else (none))) else (some x5)
def df.f : Nat → Int → Int → Int → Int → Int → Int → List (ai) → Int → Option (Int)
 | 0, _, _, _, _, _, _, _, _ => none
 | k + 1, az, aN, aH, aK, dm, dn, aT, a1 => df.l0 k a1 1 (aT.length : Int) 0 az aN aH aK dm dn aT
end
theorem df.calls (k : Nat) : ∀ (az : Int) (aN : Int) (aH : Int) (aK : Int) (dm : Int) (dn : Int) (eY : Option Addr) (fA : Nat) (aT : List (ai)) (a1 : Int) (r : Int) (w : World) (tC : Kd.C k26 w eY aT.length aT) (uF : aT.length ≤ fA) (h : df.f k az aN aH aK dm dn aT a1 = some r),
  Calls Try.prog 124 #[.agg #[.int .u8 az, .int .i64 aN, .int .i64 aH, .int .i64 aK, .int .i64 dm, .int .i64 dn, .slice eY aT.length fA], .int .i64 a1] w fun e w' => e = .returned (.int .i64 r) ∧ Below w.heap.size w w' := by
 induction k using Nat.strongRecOn with
 | _ k ih =>
 intro az aN aH aK dm dn eY fA aT a1 r w tC uF h
 cases k with
 | zero => exact absurd h (by simp [df.f])
 | succ k =>
 simp only [df.f] at h
 have IJ := Try.underlying26
 have Qj := ae.mk tC
 clear tC uF
 have HB := ae.mk (Below.refl w.heap.size w)
 have H : (df.l0 k a1 1 (aT.length : Int) 0 az aN aH aK dm dn aT) = some r := h
 clear h
 have H' := ae.mk H
 clear H
 go_enter Try.func124, Try.ntmps124
 go_wp2_with (((with_reducible refine ay (N := 2) rfl ?_); refine aG ?hg (N := 2) ?hd (cs := #[.int .u8 az, .int .i64 aN, .int .i64 aH, .int .i64 aK, .int .i64 dm, .int .i64 dn, .slice eY aT.length fA]) (t := 26) ?hr ?_; (case hd => rfl); (case hg => rfl); (case hr => (go_simp; done)); intro qc hg w3 hbox hb; have iK := ae.mk (hbox); replace HB := ae.mk (ak (by repeat ((with_reducible exact HB.out))) hb); clear hb hbox hg; have MX : w3.cell? ⟨qc, 0, none⟩ = some (.int .u8 az) := (af iK.out 0).trans rfl; have MZ : w3.cell? ⟨qc, 1, none⟩ = some (.int .i64 aN) := (af iK.out 1).trans rfl; have M_ : w3.cell? ⟨qc, 2, none⟩ = some (.int .i64 aH) := (af iK.out 2).trans rfl; have Na : w3.cell? ⟨qc, 3, none⟩ = some (.int .i64 aK) := (af iK.out 3).trans rfl; have TI : w3.cell? ⟨qc, 4, none⟩ = some (.int .i64 dm) := (af iK.out 4).trans rfl; have TJ : w3.cell? ⟨qc, 5, none⟩ = some (.int .i64 dn) := (af iK.out 5).trans rfl; have TK : w3.cell? ⟨qc, 6, none⟩ = some (.slice eY aT.length fA) := (af iK.out 6).trans rfl; have Nh := ah iK.out 0; have Nl := ah iK.out 1; have Np := ah iK.out 2; have Nq := ah iK.out 3; have TZ := ah iK.out 4; have T_ := ah iK.out 5; have Ua := ah iK.out 6))
 go_loopg [5, 10] k (fun kq v5 v10 w' => ∃ (CZ : Int) (aY : Int), v5 = .int .i64 CZ ∧ v10 = .int .i64 aY ∧ ae (df.l0 kq a1 CZ (aT.length : Int) aY az aN aH aK dm dn aT = some r) ∧ ae (kq ≤ k) ∧ ae (w'.heap[qc]? = some (.cells #[.int .u8 az, .int .i64 aN, .int .i64 aH, .int .i64 aK, .int .i64 dm, .int .i64 dn, (.slice eY aT.length fA)] 26 (0, 0))) ∧ ae (Below w.heap.size w w'))
 case atStart => exact ⟨(1), (0), (by rfl), (by rfl), H', ⟨Nat.le_refl _⟩, ⟨by exact iK.out⟩, ⟨by repeat ((with_reducible exact HB.out))⟩⟩
 case round =>
  clear H'
  clear MX MZ M_ Na TI TJ TK Nh Nl Np Nq TZ T_ Ua
  obtain ⟨CZ, aY, rfl, rfl, HA, pI, iK, HB⟩ := hrel
  cases gk with
  | zero => exact absurd HA.out (by simp [df.l0])
  | succ k1 =>
   have H := HA.out
   clear HA
   simp only [df.l0] at H
   by_cases c5 : aY < (aT.length : Int)
   ·rw [if_pos c5] at H
    have BB : decide (aY < (aT.length : Int)) = true := decide_eq_true c5
    clear c5
    by_cases c6 : CZ > a1
    ·rw [if_pos c6] at H
     have zQ : decide (a1 < CZ) = true := decide_eq_true c6
     clear c6
     obtain rfl := Option.some.inj H
     go_wp2
     go_ret
     exact ⟨by rfl, by repeat ((with_reducible exact HB.out))⟩
    ·rw [if_neg c6] at H
     have zQ : decide (a1 < CZ) = false := decide_eq_false c6
     clear c6
     by_cases c7 : 0 ≤ aY
     ·rw [if_pos c7] at H
      have Ie : decide (0 ≤ aY) = true := decide_eq_true c7
      clear c7
      by_cases c8 : aY < (aT.length : Int)
      ·rw [if_pos c8] at H
       have Ez : decide (aY < (aT.length : Int)) = true := decide_eq_true c8
       clear c8
       replace H := Option.bind_eq_some_iff.mp H
       obtain ⟨t103, A90, H⟩ := H
       replace H : (df.l0 k1 a1 (wrap64 (CZ + t103)) (aT.length : Int) (wrap64 (aY + 1)) az aN aH aK dm dn aT) = some r := H
       have A9 := ae.mk A90
       clear A90
       have H' := ae.mk H
       clear H
       have Ir : wr.cell? ⟨qc, 0, none⟩ = some (.int .u8 az) := (af iK.out 0).trans rfl
       have Iu : wr.cell? ⟨qc, 1, none⟩ = some (.int .i64 aN) := (af iK.out 1).trans rfl
       have Iw : wr.cell? ⟨qc, 2, none⟩ = some (.int .i64 aH) := (af iK.out 2).trans rfl
       have Iy : wr.cell? ⟨qc, 3, none⟩ = some (.int .i64 aK) := (af iK.out 3).trans rfl
       have Yg : wr.cell? ⟨qc, 4, none⟩ = some (.int .i64 dm) := (af iK.out 4).trans rfl
       have Yh : wr.cell? ⟨qc, 5, none⟩ = some (.int .i64 dn) := (af iK.out 5).trans rfl
       have Yi : wr.cell? ⟨qc, 6, none⟩ = some (.slice eY aT.length fA) := (af iK.out 6).trans rfl
       have Iz := ah iK.out 0
       have IA := ah iK.out 1
       have IB := ah iK.out 2
       have IC := ah iK.out 3
       have YM := ah iK.out 4
       have YN := ah iK.out 5
       have YO := ah iK.out 6
       have Wv : 0 ≤ (aY : Int) := of_decide_eq_true (by (with_reducible assumption))
       have WB : aY < (aT.length : Int) := of_decide_eq_true (by (with_reducible assumption))
       obtain ⟨ajV, aaw, abj, af9, IK, IL, IM, IP, IQ, IU, IV, PI, PG⟩ := n_ Qj.out aY Wv WB
       cases af9
       replace IK := (HB.out.cell (World.block_lt_of_cell? w _ IK)).trans IK
       replace IL := (HB.out.cell (World.block_lt_of_cell? w _ IL)).trans IL
       replace IM := (HB.out.cell (World.block_lt_of_cell? w _ IM)).trans IM
       replace IP := (HB.out.cell (World.block_lt_of_cell? w _ IP)).trans IP
       replace IQ := (HB.out.cell (World.block_lt_of_cell? w _ IQ)).trans IQ
       replace IU := (HB.out.cell (World.block_lt_of_cell? w _ IU)).trans IU
       replace IV := (HB.out.cell (World.block_lt_of_cell? w _ IV)).trans IV
       have X3 := ae.mk PG
       have XZ := ae.mk PI
       clear PG PI
       replace Wv := eq_true Wv
       replace WB := eq_true WB
       go_wp2_with (((with_reducible refine kE (f := 124) rfl ?_); refine ny (some 24) rfl rfl Try.func124 (by kernel_rfl) rfl #[.agg #[.int .u8 ((aj aT aY).f0), .int .i64 ((aj aT aY).f1.f0), .int .i64 ((aj aT aY).f1.f1), .int .i64 ((aj aT aY).f1.f2), .int .i64 ((aj aT aY).f1.f3), .int .i64 ((aj aT aY).f2), .slice aaw ((aj aT aY).f3).length abj], .int .i64 a1] rfl (by (try simp only [List.map_toArray, List.map_cons, List.map_nil]); rfl) ?_; (with_reducible refine (ih k1 (by have := pI.out; omega) ((aj aT aY).f0) ((aj aT aY).f1.f0) ((aj aT aY).f1.f1) ((aj aT aY).f1.f2) ((aj aT aY).f1.f3) ((aj aT aY).f2) _ _ ((aj aT aY).f3) a1 t103 _ ?ql ?uN A9.out).mono ?_); (case ql => repeat (exact (Kd.dL X3.out HB.out))); (case uN => exact XZ.out); rintro e rZ ⟨rfl, hb⟩; refine ⟨_, rfl, ?_⟩; replace iK := ae.mk (aJ iK.out hb); replace HB := ae.mk (ak (by repeat ((with_reducible exact HB.out))) hb); (try clear hb)))
       go_roundg k1
       case measure => have := pI.out; omega
       case rel => exact ⟨(wrap64 (CZ + t103)), (wrap64 (aY + 1)), (by rfl), (by rfl), H', ⟨by have := pI.out; omega⟩, ⟨by exact iK.out⟩, ⟨by repeat ((with_reducible exact HB.out))⟩⟩
      ·rw [if_neg c8] at H
       exact absurd H (by simp)
     ·rw [if_neg c7] at H
      exact absurd H (by simp)
   ·rw [if_neg c5] at H
    have BB : decide (aY < (aT.length : Int)) = false := decide_eq_false c5
    clear c5
    obtain rfl := Option.some.inj H
    go_wp2
    go_ret
    exact ⟨by rfl, by repeat ((with_reducible exact HB.out))⟩
def iF.f (k : Nat) (az : Int) (aN : Int) (aH : Int) (aK : Int) (dm : Int) (dn : Int) (aT : List (ai)) : Option (Bool) := (df.f k az aN aH aK dm dn aT 200).bind fun t105 => (some (decide (t105 > 200)))
theorem iF.calls (k : Nat) (az : Int) (aN : Int) (aH : Int) (aK : Int) (dm : Int) (dn : Int) (eY : Option Addr) (fA : Nat) (aT : List (ai)) (r : Bool) (w : World) (tC : Kd.C k26 w eY aT.length aT) (uF : aT.length ≤ fA) (h : iF.f k az aN aH aK dm dn aT = some r) :
  Calls Try.prog 34 #[.agg #[.int .u8 az, .int .i64 aN, .int .i64 aH, .int .i64 aK, .int .i64 dm, .int .i64 dn, .slice eY aT.length fA]] w fun e w' => e = .returned (.bool r) ∧ Below w.heap.size w w' := by
 have IJ := Try.underlying26
 have Qj := ae.mk tC
 have adM := ae.mk uF
 clear tC uF
 have HB := ae.mk (Below.refl w.heap.size w)
 have H : ((df.f k az aN aH aK dm dn aT 200).bind fun t105 => (some (decide (t105 > 200)))) = some r := h
 clear h
 replace H := Option.bind_eq_some_iff.mp H
 obtain ⟨t105, RN, H⟩ := H
 replace H : (some (decide (t105 > 200))) = some r := H
 have A2 := ae.mk RN
 clear RN
 obtain rfl := Option.some.inj H
 go_enter Try.func34, Try.ntmps34
 go_wp2_with (first | ((with_reducible refine ay (N := 1) rfl ?_); refine aG ?hg (N := 1) ?hd (cs := #[.int .u8 az, .int .i64 aN, .int .i64 aH, .int .i64 aK, .int .i64 dm, .int .i64 dn, .slice eY aT.length fA]) (t := 26) ?hr ?_; (case hd => rfl); (case hg => rfl); (case hr => (go_simp; done)); intro zY hg w3 hbox hb; have oQ := ae.mk (hbox); replace HB := ae.mk (ak (by repeat ((with_reducible exact HB.out))) hb); clear hb hbox hg; have MX : w3.cell? ⟨zY, 0, none⟩ = some (.int .u8 az) := (af oQ.out 0).trans rfl; have MZ : w3.cell? ⟨zY, 1, none⟩ = some (.int .i64 aN) := (af oQ.out 1).trans rfl; have M_ : w3.cell? ⟨zY, 2, none⟩ = some (.int .i64 aH) := (af oQ.out 2).trans rfl; have Na : w3.cell? ⟨zY, 3, none⟩ = some (.int .i64 aK) := (af oQ.out 3).trans rfl; have TI : w3.cell? ⟨zY, 4, none⟩ = some (.int .i64 dm) := (af oQ.out 4).trans rfl; have TJ : w3.cell? ⟨zY, 5, none⟩ = some (.int .i64 dn) := (af oQ.out 5).trans rfl; have TK : w3.cell? ⟨zY, 6, none⟩ = some (.slice eY aT.length fA) := (af oQ.out 6).trans rfl; have Nh := ah oQ.out 0; have Nl := ah oQ.out 1; have Np := ah oQ.out 2; have Nq := ah oQ.out 3; have TZ := ah oQ.out 4; have T_ := ah oQ.out 5; have Ua := ah oQ.out 6) | ((with_reducible refine kE (f := 124) rfl ?_); refine ny (some 4) rfl rfl Try.func124 (by kernel_rfl) rfl #[.agg #[.int .u8 az, .int .i64 aN, .int .i64 aH, .int .i64 aK, .int .i64 dm, .int .i64 dn, .slice eY aT.length fA], .int .i64 200] rfl (by (try simp only [List.map_toArray, List.map_cons, List.map_nil]); rfl) ?_; (with_reducible refine (df.calls k az aN aH aK dm dn _ _ aT 200 t105 _ ?ql ?uN A2.out).mono ?_); (case ql => repeat (exact (Kd.dL Qj.out HB.out))); (case uN => exact adM.out); rintro e w5 ⟨rfl, hb⟩; refine ⟨_, rfl, ?_⟩; replace oQ := ae.mk (aJ oQ.out hb); replace HB := ae.mk (ak (by repeat ((with_reducible exact HB.out))) hb); (try clear hb)))
 go_ret
 exact ⟨by rfl, by repeat ((with_reducible exact HB.out))⟩
mutual
def dw.l0 : Nat → List (ai) → Int → Int → Int → Int → Int → Int → Int → Int → List (ai) → Option ((List (ai)))
 | 0, _, _, _, _, _, _, _, _, _, _ => none
 | k + 1, x3, x9, x10, aal, aam, aan, aao, aap, aaq, rX => if x10 < x9 then (if 0 ≤ x10 then (if x10 < (rX.length : Int) then ((dw.f k ((aj rX x10).f0) ((aj rX x10).f1.f0) ((aj rX x10).f1.f1) ((aj rX x10).f1.f2) ((aj rX x10).f1.f3) ((aj rX x10).f2) ((aj rX x10).f3)).bind fun t136 => (if x3.length + t136.length < 1954687338268 then (dw.l0 k (x3 ++ t136) x9 (wrap64 (x10 + 1)) aal aam aan aao aap aaq rX) else (none))) else (none)) else (none)) else (some x3)
def dw.f : Nat → Int → Int → Int → Int → Int → Int → List (ai) → Option ((List (ai)))
 | 0, _, _, _, _, _, _, _ => none
 | k + 1, az, aN, aH, aK, dm, dn, aT => dw.l0 k (([(⟨az, (⟨aN, aH, aK, dm⟩ : dF), dn, aT⟩ : ai)] : List (ai))) (aT.length : Int) 0 az aN aH aK dm dn aT
end
theorem dw.calls (k : Nat) : ∀ (az : Int) (aN : Int) (aH : Int) (aK : Int) (dm : Int) (dn : Int) (gI : Nat → Prop) (eY : Option Addr) (fA : Nat) (aT : List (ai)) (r : List (ai)) (w : World) (Ky : Kd.V k26 26 w w.heap.size (fun k_ => gI k_) (.slice eY aT.length fA) aT) (h : dw.f k az aN aH aK dm dn aT = some r),
  Calls Try.prog 79 #[.agg #[.int .u8 az, .int .i64 aN, .int .i64 aH, .int .i64 aK, .int .i64 dm, .int .i64 dn, .slice eY aT.length fA]] w fun e w' => ∃ CX : Value, e = .returned (CX) ∧ Kd.N k26 26 w' w.heap.size (fun k_ => (gI k_ ∨ w.heap.size ≤ k_)) CX r ∧ Below w.heap.size w w' := by
 induction k using Nat.strongRecOn with
 | _ k ih =>
 intro az aN aH aK dm dn gI eY fA aT r w Ky h
 cases k with
 | zero => exact absurd h (by simp [dw.f])
 | succ k =>
 simp only [dw.f] at h
 have IJ := Try.underlying26
 have oU := ae.mk (show Kd.V k26 26 w w.heap.size (fun k_ => (gI k_ ∨ w.heap.size ≤ k_)) (.slice eY aT.length fA) aT from Kd.iP Ky (fun k_ hk => .inl hk))
 have HB := ae.mk (Below.refl w.heap.size w)
 have H : (dw.l0 k (([(⟨az, (⟨aN, aH, aK, dm⟩ : dF), dn, aT⟩ : ai)] : List (ai))) (aT.length : Int) 0 az aN aH aK dm dn aT) = some r := h
 clear h
 obtain ⟨adE, QO⟩ : ∃ y_ : List (ai), y_ = (([(⟨az, (⟨aN, aH, aK, dm⟩ : dF), dn, aT⟩ : ai)] : List (ai))) := ⟨_, rfl⟩
 replace H : (dw.l0 k adE (aT.length : Int) 0 az aN aH aK dm dn aT) = some r := by (rw [QO]; with_reducible exact H)
 have adW := ae.mk QO
 clear QO
 have H' := ae.mk H
 clear H
 go_enter Try.func79, Try.ntmps79
 go_wp2_with (first | ((with_reducible refine ay (N := 1) rfl ?_); refine aG ?hg (N := 1) ?hd (cs := #[.int .u8 az, .int .i64 aN, .int .i64 aH, .int .i64 aK, .int .i64 dm, .int .i64 dn, .slice eY aT.length fA]) (t := 26) ?hr ?_; (case hd => rfl); (case hg => rfl); (case hr => (go_simp; done)); intro gY hg w2 hbox hb; have dR := ae.mk (hbox); replace oU := ae.mk (Kd.lH (Kd.oI oU.out gY (Nat.le_of_eq hg.symm)) hb); replace HB := ae.mk (ak (by repeat ((with_reducible exact HB.out))) hb); clear hb hbox hg; have ach : w2.cell? ⟨gY, 0, none⟩ = some (.int .u8 az) := (af dR.out 0).trans rfl; have aci : w2.cell? ⟨gY, 1, none⟩ = some (.int .i64 aN) := (af dR.out 1).trans rfl; have acj : w2.cell? ⟨gY, 2, none⟩ = some (.int .i64 aH) := (af dR.out 2).trans rfl; have ack : w2.cell? ⟨gY, 3, none⟩ = some (.int .i64 aK) := (af dR.out 3).trans rfl; have acm : w2.cell? ⟨gY, 4, none⟩ = some (.int .i64 dm) := (af dR.out 4).trans rfl; have acn : w2.cell? ⟨gY, 5, none⟩ = some (.int .i64 dn) := (af dR.out 5).trans rfl; have aco : w2.cell? ⟨gY, 6, none⟩ = some (.slice eY aT.length fA) := (af dR.out 6).trans rfl; have acA := ah dR.out 0; have acB := ah dR.out 1; have acC := ah dR.out 2; have acD := ah dR.out 3; have acE := ah dR.out 4; have acF := ah dR.out 5; have acG := ah dR.out 6) | ((with_reducible refine ay (N := 6) rfl ?_); refine Kd.zK k26 _ 26 ?hg (N' := 6) ?hd (xs := ([(⟨az, (⟨aN, aH, aK, dm⟩ : dF), dn, aT⟩ : ai)] : List (ai))) (inner := [.int .u8 az, .int .i64 aN, .int .i64 aH, .int .i64 aK, .int .i64 dm, .int .i64 dn, .slice eY aT.length fA]) (ok := (fun k_ => (gI k_ ∨ w.heap.size ≤ k_) ∧ k_ ≠ gY)) (dY := (fun k_ => (gI k_ ∨ w.heap.size ≤ k_) ∧ k_ ≠ gY)) ?hr ?hp (fun _ hk => hk) ((show ∀ k_, w2.heap.size ≤ k_ → (fun k_ => (gI k_ ∨ w.heap.size ≤ k_) ∧ k_ ≠ gY) k_ from fun k_ hk => ⟨(.inr (Nat.le_trans (dC (by repeat ((with_reducible exact HB.out)))) hk)), Kd.y7 dR.out k_ hk⟩) _ (Nat.le_refl _)) (Below.refl _ _) (Nat.le_refl _) (by simp) ?_; (case hd => rfl); (case hg => rfl); (case hr => (go_simp; done)); (case hp => exact (bI.c7 (show Kd.FK k26 _ _ (⟨az, (⟨aN, aH, aK, dm⟩ : dF), dn, aT⟩ : ai) [.int .u8 az, .int .i64 aN, .int .i64 aH, .int .i64 aK, .int .i64 dm, .int .i64 dn, .slice eY aT.length fA] from (o8 _ _ (⟨az, (⟨aN, aH, aK, dm⟩ : dF), dn, aT⟩ : ai) (Kd.oJ (Kd.iP (ok' := (fun k_ => (gI k_ ∨ w.heap.size ≤ k_) ∧ k_ ≠ gY)) (oU.out) (fun k_ hk => ⟨hk.1, hk.2⟩))).2.1 (Kd.Lt (Kd.iP (ok' := (fun k_ => (gI k_ ∨ w.heap.size ≤ k_) ∧ k_ ≠ gY)) (oU.out) (fun k_ hk => ⟨hk.1, hk.2⟩))))) (bI.none _ _))); intro ako w4 Gy hb o7 jQ; clear o7 jQ; (rw [← adW.out] at Gy); have adN := ae.mk (Kd.xB Gy (dC (by repeat ((with_reducible exact HB.out))))); replace oU := ae.mk (Kd.xO oU.out (Kd.qY Gy) hb); replace dR := ae.mk (aJ dR.out hb); replace HB := ae.mk (ak (by repeat ((with_reducible exact HB.out))) hb); clear hb Gy; have Gh : w4.cell? ⟨gY, 0, none⟩ = some (.int .u8 az) := (af dR.out 0).trans rfl; have Gi : w4.cell? ⟨gY, 1, none⟩ = some (.int .i64 aN) := (af dR.out 1).trans rfl; have Gj : w4.cell? ⟨gY, 2, none⟩ = some (.int .i64 aH) := (af dR.out 2).trans rfl; have Gl : w4.cell? ⟨gY, 3, none⟩ = some (.int .i64 aK) := (af dR.out 3).trans rfl; have Gm : w4.cell? ⟨gY, 4, none⟩ = some (.int .i64 dm) := (af dR.out 4).trans rfl; have Gn : w4.cell? ⟨gY, 5, none⟩ = some (.int .i64 dn) := (af dR.out 5).trans rfl; have Gp : w4.cell? ⟨gY, 6, none⟩ = some (.slice eY aT.length fA) := (af dR.out 6).trans rfl; have Gq := ah dR.out 0; have Gs := ah dR.out 1; have Gt := ah dR.out 2; have Gu := ah dR.out 3; have Gv := ah dR.out 4; have Gw := ah dR.out 5; have Gx := ah dR.out 6))
 go_loopg [3, 10] k (fun kq v3 v10 w' => ∃ (jI : List (ai)) (aY : Int), v10 = .int .i64 aY ∧ ae (dw.l0 kq jI (aT.length : Int) aY az aN aH aK dm dn aT = some r) ∧ ae (kq ≤ k) ∧ ae (Kd.N k26 26 w' w.heap.size (fun k_ => (gI k_ ∨ w.heap.size ≤ k_) ∧ k_ ≠ gY) v3 jI) ∧ ae (Kd.V k26 26 w' w.heap.size (fun k_ => (gI k_ ∨ w.heap.size ≤ k_) ∧ some k_ ≠ (v3 : Value).ownBlock ∧ k_ ≠ gY) (.slice eY aT.length fA) aT) ∧ ae (w'.heap[gY]? = some (.cells #[.int .u8 az, .int .i64 aN, .int .i64 aH, .int .i64 aK, .int .i64 dm, .int .i64 dn, (.slice eY aT.length fA)] 26 (0, 0))) ∧ ae (Below w.heap.size w w'))
 case atStart => exact ⟨(adE), (0), (by rfl), H', ⟨Nat.le_refl _⟩, ⟨by exact adN.out⟩, ⟨by exact Kd.iP oU.out (fun _ hk => ⟨hk.1.1, ⟨hk.2, hk.1.2⟩⟩)⟩, ⟨by exact dR.out⟩, ⟨by repeat ((with_reducible exact HB.out))⟩⟩
 case round =>
  clear H'
  clear ach aci acj ack acm acn aco Gh Gi Gj Gl Gm Gn Gp acA acB acC acD acE acF acG Gq Gs Gt Gu Gv Gw Gx
  obtain ⟨jI, aY, rfl, HA, pI, jV, qX, dR, HB⟩ := hrel
  cases gk with
  | zero => exact absurd HA.out (by simp [dw.l0])
  | succ k1 =>
   have H := HA.out
   clear HA
   simp only [dw.l0] at H
   by_cases c7 : aY < (aT.length : Int)
   ·rw [if_pos c7] at H
    have Ie : decide (aY < (aT.length : Int)) = true := decide_eq_true c7
    clear c7
    by_cases c8 : 0 ≤ aY
    ·rw [if_pos c8] at H
     have Ez : decide (0 ≤ aY) = true := decide_eq_true c8
     clear c8
     by_cases c9 : aY < (aT.length : Int)
     ·rw [if_pos c9] at H
      have Qy : decide (aY < (aT.length : Int)) = true := decide_eq_true c9
      clear c9
      replace H := Option.bind_eq_some_iff.mp H
      obtain ⟨t136, aav, H⟩ := H
      replace H : (if jI.length + t136.length < 1954687338268 then (dw.l0 k1 (jI ++ t136) (aT.length : Int) (wrap64 (aY + 1)) az aN aH aK dm dn aT) else (none)) = some r := H
      have A10 := ae.mk aav
      clear aav
      by_cases c11 : jI.length + t136.length < 1954687338268
      ·rw [if_pos c11] at H
       have adT := ae.mk c11
       clear c11
       obtain ⟨adF, QP⟩ : ∃ y_ : List (ai), y_ = (jI ++ t136) := ⟨_, rfl⟩
       replace H : (dw.l0 k1 adF (aT.length : Int) (wrap64 (aY + 1)) az aN aH aK dm dn aT) = some r := by (rw [QP]; with_reducible exact H)
       have adX := ae.mk QP
       clear QP
       have H' := ae.mk H
       clear H
       have O8 : wr.cell? ⟨gY, 0, none⟩ = some (.int .u8 az) := (af dR.out 0).trans rfl
       have O9 : wr.cell? ⟨gY, 1, none⟩ = some (.int .i64 aN) := (af dR.out 1).trans rfl
       have O_ : wr.cell? ⟨gY, 2, none⟩ = some (.int .i64 aH) := (af dR.out 2).trans rfl
       have Pg : wr.cell? ⟨gY, 3, none⟩ = some (.int .i64 aK) := (af dR.out 3).trans rfl
       have Yj : wr.cell? ⟨gY, 4, none⟩ = some (.int .i64 dm) := (af dR.out 4).trans rfl
       have Yk : wr.cell? ⟨gY, 5, none⟩ = some (.int .i64 dn) := (af dR.out 5).trans rfl
       have Yl : wr.cell? ⟨gY, 6, none⟩ = some (.slice eY aT.length fA) := (af dR.out 6).trans rfl
       have Po := ah dR.out 0
       have Pq := ah dR.out 1
       have Pv := ah dR.out 2
       have Px := ah dR.out 3
       have YP := ah dR.out 4
       have YQ := ah dR.out 5
       have YR := ah dR.out 6
       have Q4 : 0 ≤ (aY : Int) := of_decide_eq_true (by (with_reducible assumption))
       have Q9 : aY < (aT.length : Int) := of_decide_eq_true (by (with_reducible assumption))
       obtain ⟨ajW, aax, abk, af_, ahO, ahP, ahQ, ahR, ahS, ahT, Zj, Zh, Zf⟩ := n_ (Kd.oJ qX.out).2.2 aY Q4 Q9
       cases af_
       obtain ⟨ajZ, acf, ab9, TF⟩ := Kd.aea qX.out z26 aY Q4 Q9
       obtain ⟨ah0, ah2, rfl, Jf, Il⟩ := mP ab9
       have DI := TF 6 _ rfl
       rw [jO _ _ 6 (by omega)] at DI
       replace DI := Option.some.inj (DI.symm.trans Zj)
       injection DI with xX EL xY
       rw [xX] at Il
       rw [xY] at Jf
       have yS := ae.mk (show Kd.V k26 26 _ w.heap.size _ _ ((aj aT aY).f3) from Kd.tK Jf Il)
       clear xX EL xY Il Jf
       clear TF acf
       clear Zf Zh
       replace Q4 := eq_true Q4
       replace Q9 := eq_true Q9
       go_wp2_with (first | ((with_reducible refine kE (f := 79) rfl ?_); refine ny (some 19) rfl rfl Try.func79 (by kernel_rfl) rfl #[.agg #[.int .u8 ((aj aT aY).f0), .int .i64 ((aj aT aY).f1.f0), .int .i64 ((aj aT aY).f1.f1), .int .i64 ((aj aT aY).f1.f2), .int .i64 ((aj aT aY).f1.f3), .int .i64 ((aj aT aY).f2), .slice aax ((aj aT aY).f3).length abk]] rfl (by (try simp only [List.map_toArray, List.map_cons, List.map_nil]); rfl) ?_; (with_reducible refine (ih k1 (by have := pI.out; omega) ((aj aT aY).f0) ((aj aT aY).f1.f0) ((aj aT aY).f1.f1) ((aj aT aY).f1.f2) ((aj aT aY).f1.f3) ((aj aT aY).f2) (fun k_ => ((gI k_ ∨ w.heap.size ≤ k_) ∧ (some k_ ≠ (u3 : Value).ownBlock ∧ k_ ≠ gY))) _ _ ((aj aT aY).f3) t136 _ ?ql A10.out).mono ?_); (case ql => exact yS.out); rintro e yK ⟨akp, rfl, ho0, hb⟩; refine ⟨_, rfl, ?_⟩; have J9 := ae.mk (Kd.xB (Kd.iM (ok' := fun k_ => (gI k_ ∨ w.heap.size ≤ k_) ∧ some k_ ≠ (u3 : Value).ownBlock ∧ k_ ≠ gY) ho0 (fun k_ Nw => ⟨Or.elim Nw (fun hs_ => hs_.1) (fun BR => (.inr (Nat.le_trans (dC (by repeat ((with_reducible exact HB.out)))) BR))), Or.elim Nw (fun hs_ => hs_.2.1) (fun BR => (Kd.fresh' (Kd.Bq jV.out) k_ BR)), Or.elim Nw (fun hs_ => hs_.2.2) (fun BR => (Kd.y7 dR.out k_ BR))⟩)) (dC (by repeat ((with_reducible exact HB.out))))); replace jV := ae.mk (Kd.Lh jV.out (Kd.qY ho0) hb); replace qX := ae.mk (Kd.xO qX.out (Kd.qY ho0) hb); replace yS := ae.mk (Kd.xO yS.out (Kd.qY ho0) hb); replace dR := ae.mk (aJ dR.out hb); replace HB := ae.mk (ak (by repeat ((with_reducible exact HB.out))) hb); (try clear hb); (try clear ho0); obtain ⟨Qa, QA, VP⟩ := Kd.jE J9.out; subst VP) | ((with_reducible refine ni (b := .append) (xs := #[.tmp 13, .tmp 19]) rfl ?_); at_builtin; refine Kd.wX k26 (w0 := w) w.heap.size rfl (.tmp 13) (.tmp 19) 24 26 (.agg #[(.int .u8 0), (.int .i64 0), (.int .i64 0), (.int .i64 0), (.int .i64 0), (.int .i64 0), (.slice none 0 0)]) 72 rfl Try.underlying24 info26 rfl (by decide) (by omega) u3 jI t136 _ _ _ (fun k_ => (gI k_ ∨ w.heap.size ≤ k_) ∧ k_ ≠ gY) (fun k_ => ((fun k_ => (gI k_ ∨ w.heap.size ≤ k_) ∧ k_ ≠ gY)) k_ ∧ some k_ ≠ (u3 : Value).ownBlock) rfl rfl ?aO ?aR (fun _ hk => hk) ?aF ?aB ?aS ?aL ?_; (case aR => exact (by exact Kd.Xi (Kd.iM (ok' := (fun k_ => ((fun k_ => (gI k_ ∨ w.heap.size ≤ k_) ∧ k_ ≠ gY)) k_ ∧ some k_ ≠ (u3 : Value).ownBlock)) (J9.out) (fun k_ hk => ⟨⟨hk.1, hk.2.2⟩, hk.2.1⟩)))); (case aB => exact (by repeat ((with_reducible exact HB.out)))); (case aF => exact (fun k_ hk => ⟨(.inr (Nat.le_trans (dC (by repeat ((with_reducible exact HB.out)))) hk)), Kd.y7 dR.out k_ hk⟩)); (case aO => exact (by exact Kd.iM jV.out (fun _ hk => ⟨hk.1.1, hk.1.2⟩))); (case aS => exact (dC (by repeat ((with_reducible exact HB.out))))); (case aL => have := adT.out; omega); intro akq w14 ho hb hg hat; rw [← adX.out] at ho; have adO := ae.mk (ho); replace qX := ae.mk (Kd.zL (ok := (fun k_ => (gI k_ ∨ w.heap.size ≤ k_) ∧ some k_ ≠ (.slice Qa t136.length QA : Value).ownBlock ∧ k_ ≠ gY)) (by exact Kd.iP qX.out (fun _ hk => ⟨⟨hk.1.1, ⟨hk.2, hk.1.2.2⟩⟩, hk.1.2.1⟩)) hg hat); replace dR := ae.mk (bP dR.out hg (Kd.Sz jV.out (fun _ hk => hk.1.2))); replace yS := ae.mk (Kd.zL (ok := (fun k_ => (gI k_ ∨ w.heap.size ≤ k_) ∧ some k_ ≠ (.slice Qa t136.length QA : Value).ownBlock ∧ k_ ≠ gY)) (by exact Kd.iP yS.out (fun _ hk => ⟨⟨hk.1.1, ⟨hk.2, hk.1.2.2⟩⟩, hk.1.2.1⟩)) hg hat); replace J9 := ae.mk (Kd.Le (ok := (fun k_ => (gI k_ ∨ w.heap.size ≤ k_) ∧ k_ ≠ gY)) (by exact Kd.iM J9.out (fun _ hk => ⟨⟨hk.1, hk.2.2⟩, hk.2.1⟩)) hg hat); replace HB := ae.mk (hb); clear jV; clear ho hb hg hat))
       go_roundg k1
       case measure => have := pI.out; omega
       case rel => exact ⟨(adF), (wrap64 (aY + 1)), (by rfl), H', ⟨by have := pI.out; omega⟩, ⟨by exact adO.out⟩, ⟨by exact Kd.iP qX.out (fun _ hk => ⟨hk.1.1, ⟨hk.2, hk.1.2.2⟩⟩)⟩, ⟨by exact dR.out⟩, ⟨by repeat ((with_reducible exact HB.out))⟩⟩
      ·rw [if_neg c11] at H
       exact absurd H (by simp)
     ·rw [if_neg c9] at H
      exact absurd H (by simp)
    ·rw [if_neg c8] at H
     exact absurd H (by simp)
   ·rw [if_neg c7] at H
    have Ie : decide (aY < (aT.length : Int)) = false := decide_eq_false c7
    clear c7
    obtain rfl := Option.some.inj H
    go_wp2
    go_ret
    exact ⟨_, by rfl, by exact Kd.iM jV.out (fun _ hk => hk.1), by repeat ((with_reducible exact HB.out))⟩
def dJ.l0 : Nat → List (ai) → List (ai) → Int → Int → Option ((List (ai)))
 | 0, _, _, _, _ => none
 | k + 1, x3, x4, x10, x11 => if x11 < x10 then (if 0 ≤ x11 then (if x11 < (x4.length : Int) then (if ((aj x4 x11).f0) = 1 then (if x3.length < 1954687338268 then (dJ.l0 k (x3 ++ [(⟨(aj x4 x11).f0, (⟨(aj x4 x11).f1.f0, (aj x4 x11).f1.f1, (aj x4 x11).f1.f2, (aj x4 x11).f1.f3⟩ : dF), (aj x4 x11).f2, (aj x4 x11).f3⟩ : ai)]) x4 x10 (wrap64 (x11 + 1))) else (none)) else (dJ.l0 k x3 x4 x10 (wrap64 (x11 + 1)))) else (none)) else (none)) else (some x3)
def dJ.f (k : Nat) (az : Int) (aN : Int) (aH : Int) (aK : Int) (dm : Int) (dn : Int) (aT : List (ai)) : Option ((List (ai))) := (dw.f k az aN aH aK dm dn aT).bind fun t146 => (dJ.l0 k (([] : List (ai))) t146 (t146.length : Int) 0)
theorem dJ.calls (k : Nat) (az : Int) (aN : Int) (aH : Int) (aK : Int) (dm : Int) (dn : Int) (gI : Nat → Prop) (eY : Option Addr) (fA : Nat) (aT : List (ai)) (r : List (ai)) (w : World) (Ky : Kd.V k26 26 w w.heap.size (fun k_ => gI k_) (.slice eY aT.length fA) aT) (h : dJ.f k az aN aH aK dm dn aT = some r) :
  Calls Try.prog 126 #[.agg #[.int .u8 az, .int .i64 aN, .int .i64 aH, .int .i64 aK, .int .i64 dm, .int .i64 dn, .slice eY aT.length fA]] w fun e w' => ∃ CX : Value, e = .returned (CX) ∧ Kd.N k26 26 w' w.heap.size (fun k_ => (gI k_ ∨ w.heap.size ≤ k_)) CX r ∧ Below w.heap.size w w' := by
 have IJ := Try.underlying26
 have oU := ae.mk (show Kd.V k26 26 w w.heap.size (fun k_ => (gI k_ ∨ w.heap.size ≤ k_)) (.slice eY aT.length fA) aT from Kd.iP Ky (fun k_ hk => .inl hk))
 have HB := ae.mk (Below.refl w.heap.size w)
 have H : ((dw.f k az aN aH aK dm dn aT).bind fun t146 => (dJ.l0 k (([] : List (ai))) t146 (t146.length : Int) 0)) = some r := h
 clear h
 obtain ⟨W9, QQ⟩ : ∃ y_ : List (ai), y_ = (([] : List (ai))) := ⟨_, rfl⟩
 replace H : ((dw.f k az aN aH aK dm dn aT).bind fun t146 => (dJ.l0 k W9 t146 (t146.length : Int) 0)) = some r := by (rw [QQ]; with_reducible exact H)
 have adY := ae.mk QQ
 clear QQ
 replace H := Option.bind_eq_some_iff.mp H
 obtain ⟨t146, RN, H⟩ := H
 replace H : (dJ.l0 k W9 t146 (t146.length : Int) 0) = some r := H
 have A2 := ae.mk RN
 clear RN
 have H' := ae.mk H
 clear H
 go_enter Try.func126, Try.ntmps126
 go_wp2_with (first | ((with_reducible refine ay (N := 1) rfl ?_); refine aG ?hg (N := 1) ?hd (cs := #[.int .u8 az, .int .i64 aN, .int .i64 aH, .int .i64 aK, .int .i64 dm, .int .i64 dn, .slice eY aT.length fA]) (t := 26) ?hr ?_; (case hd => rfl); (case hg => rfl); (case hr => (go_simp; done)); intro kz hg w3 hbox hb; have jD := ae.mk (hbox); replace oU := ae.mk (Kd.lH (Kd.oI oU.out kz (Nat.le_of_eq hg.symm)) hb); replace HB := ae.mk (ak (by repeat ((with_reducible exact HB.out))) hb); clear hb hbox hg) | ((with_reducible refine ay (N := 6) rfl ?_); refine Kd.zK k26 _ 26 ?hg (N' := 6) ?hd (xs := ([] : List (ai))) (inner := []) (ok := (fun k_ => (gI k_ ∨ w.heap.size ≤ k_) ∧ k_ ≠ kz)) (dY := (fun k_ => (gI k_ ∨ w.heap.size ≤ k_) ∧ k_ ≠ kz)) ?hr ?hp (fun _ hk => hk) ((show ∀ k_, w3.heap.size ≤ k_ → (fun k_ => (gI k_ ∨ w.heap.size ≤ k_) ∧ k_ ≠ kz) k_ from fun k_ hk => ⟨(.inr (Nat.le_trans (dC (by repeat ((with_reducible exact HB.out)))) hk)), Kd.y7 jD.out k_ hk⟩) _ (Nat.le_refl _)) (Below.refl _ _) (Nat.le_refl _) (by simp) ?_; (case hd => rfl); (case hg => rfl); (case hr => (go_simp; done)); (case hp => exact (bI.none _ _)); intro adx w4 Gy hb o7 jQ; clear o7 jQ; (rw [← adY.out] at Gy); have J_ := ae.mk (Kd.xB Gy (dC (by repeat ((with_reducible exact HB.out))))); replace oU := ae.mk (Kd.xO oU.out (Kd.qY Gy) hb); replace jD := ae.mk (aJ jD.out hb); replace HB := ae.mk (ak (by repeat ((with_reducible exact HB.out))) hb); clear hb Gy; have Gh : w4.cell? ⟨kz, 0, none⟩ = some (.int .u8 az) := (af jD.out 0).trans rfl; have Gi : w4.cell? ⟨kz, 1, none⟩ = some (.int .i64 aN) := (af jD.out 1).trans rfl; have Gj : w4.cell? ⟨kz, 2, none⟩ = some (.int .i64 aH) := (af jD.out 2).trans rfl; have Gl : w4.cell? ⟨kz, 3, none⟩ = some (.int .i64 aK) := (af jD.out 3).trans rfl; have Gm : w4.cell? ⟨kz, 4, none⟩ = some (.int .i64 dm) := (af jD.out 4).trans rfl; have Gn : w4.cell? ⟨kz, 5, none⟩ = some (.int .i64 dn) := (af jD.out 5).trans rfl; have Gp : w4.cell? ⟨kz, 6, none⟩ = some (.slice eY aT.length fA) := (af jD.out 6).trans rfl; have Gq := ah jD.out 0; have Gs := ah jD.out 1; have Gt := ah jD.out 2; have Gu := ah jD.out 3; have Gv := ah jD.out 4; have Gw := ah jD.out 5; have Gx := ah jD.out 6) | ((with_reducible refine kE (f := 79) rfl ?_); refine ny (some 8) rfl rfl Try.func79 (by kernel_rfl) rfl #[.agg #[.int .u8 az, .int .i64 aN, .int .i64 aH, .int .i64 aK, .int .i64 dm, .int .i64 dn, .slice eY aT.length fA]] rfl (by (try simp only [List.map_toArray, List.map_cons, List.map_nil]); rfl) ?_; (with_reducible refine (dw.calls k az aN aH aK dm dn (fun k_ => (((gI k_ ∨ w.heap.size ≤ k_) ∧ k_ ≠ kz) ∧ some k_ ≠ (adx : Value).ownBlock)) _ _ aT t146 _ ?ql A2.out).mono ?_); (case ql => exact oU.out); rintro e w7 ⟨akr, rfl, ho0, hb⟩; refine ⟨_, rfl, ?_⟩; have Xf := ae.mk (Kd.xB (Kd.iM (ok' := fun k_ => (gI k_ ∨ w.heap.size ≤ k_) ∧ some k_ ≠ (adx : Value).ownBlock ∧ k_ ≠ kz) ho0 (fun k_ Nw => ⟨Or.elim Nw (fun hs_ => hs_.1.1) (fun BR => (.inr (Nat.le_trans (dC (by repeat ((with_reducible exact HB.out)))) BR))), Or.elim Nw (fun hs_ => hs_.2) (fun BR => (Kd.fresh' (Kd.Bq J_.out) k_ BR)), Or.elim Nw (fun hs_ => hs_.1.2) (fun BR => (Kd.y7 jD.out k_ BR))⟩)) (dC (by repeat ((with_reducible exact HB.out))))); replace oU := ae.mk (Kd.xO oU.out (Kd.qY ho0) hb); replace J_ := ae.mk (Kd.Lh J_.out (Kd.qY ho0) hb); replace jD := ae.mk (aJ jD.out hb); replace HB := ae.mk (ak (by repeat ((with_reducible exact HB.out))) hb); (try clear hb); (try clear ho0); obtain ⟨Ao8, F6, eo8⟩ := Kd.jE Xf.out; subst eo8))
 go_loopg [3, 11] k (fun kq v3 v11 w' => ∃ (jI : List (ai)) (dO : Int), v11 = .int .i64 dO ∧ ae (dJ.l0 kq jI t146 (t146.length : Int) dO = some r) ∧ ae (kq ≤ k) ∧ ae (Kd.N k26 26 w' w.heap.size (fun k_ => (gI k_ ∨ w.heap.size ≤ k_) ∧ some k_ ≠ ((.slice Ao8 t146.length F6) : Value).ownBlock ∧ k_ ≠ kz) v3 jI) ∧ ae (Kd.N k26 26 w' w.heap.size (fun k_ => (gI k_ ∨ w.heap.size ≤ k_) ∧ some k_ ≠ (v3 : Value).ownBlock ∧ k_ ≠ kz) (.slice Ao8 t146.length F6) t146) ∧ ae (Kd.V k26 26 w' w.heap.size (fun k_ => (gI k_ ∨ w.heap.size ≤ k_) ∧ some k_ ≠ (v3 : Value).ownBlock ∧ some k_ ≠ ((.slice Ao8 t146.length F6) : Value).ownBlock ∧ k_ ≠ kz) (.slice eY aT.length fA) aT) ∧ ae (w'.heap[kz]? = some (.cells #[.int .u8 az, .int .i64 aN, .int .i64 aH, .int .i64 aK, .int .i64 dm, .int .i64 dn, (.slice eY aT.length fA)] 26 (0, 0))) ∧ ae (Below w.heap.size w w'))
 case atStart => exact ⟨(W9), (0), (by rfl), H', ⟨Nat.le_refl _⟩, ⟨by exact Kd.iM J_.out (fun _ hk => ⟨hk.1.1, ⟨hk.2, hk.1.2⟩⟩)⟩, ⟨by exact Xf.out⟩, ⟨by exact Kd.iP oU.out (fun _ hk => ⟨hk.1.1.1, ⟨hk.1.2, ⟨hk.2, hk.1.1.2⟩⟩⟩)⟩, ⟨by exact jD.out⟩, ⟨by repeat ((with_reducible exact HB.out))⟩⟩
 case round =>
  clear H'
  clear Gh Gi Gj Gl Gm Gn Gp Gq Gs Gt Gu Gv Gw Gx
  obtain ⟨jI, dO, rfl, HA, pI, jV, xM, yA, jD, HB⟩ := hrel
  cases gk with
  | zero => exact absurd HA.out (by simp [dJ.l0])
  | succ k1 =>
   have H := HA.out
   clear HA
   simp only [dJ.l0] at H
   by_cases c9 : dO < (t146.length : Int)
   ·rw [if_pos c9] at H
    have Qy : decide (dO < (t146.length : Int)) = true := decide_eq_true c9
    clear c9
    by_cases c10 : 0 ≤ dO
    ·rw [if_pos c10] at H
     have ajY : decide (0 ≤ dO) = true := decide_eq_true c10
     clear c10
     by_cases c11 : dO < (t146.length : Int)
     ·rw [if_pos c11] at H
      have Xp : decide (dO < (t146.length : Int)) = true := decide_eq_true c11
      clear c11
      by_cases c12 : ((aj t146 dO).f0) = 1
      ·rw [if_pos c12] at H
       have Qw : (((aj t146 dO).f0) == 1) = true := beq_iff_eq.mpr c12
       have Qx : (((aj t146 dO).f0) != 1) = false := bne_eq_false_iff_eq.mpr c12
       clear c12
       by_cases c13 : jI.length < 1954687338268
       ·rw [if_pos c13] at H
        have adU := ae.mk c13
        clear c13
        obtain ⟨y151, hy151⟩ : ∃ y_ : List (ai), y_ = (jI ++ [(⟨(aj t146 dO).f0, (⟨(aj t146 dO).f1.f0, (aj t146 dO).f1.f1, (aj t146 dO).f1.f2, (aj t146 dO).f1.f3⟩ : dF), (aj t146 dO).f2, (aj t146 dO).f3⟩ : ai)]) := ⟨_, rfl⟩
        replace H : (dJ.l0 k1 y151 t146 (t146.length : Int) (wrap64 (dO + 1))) = some r := by (rw [hy151]; with_reducible exact H)
        have adZ := ae.mk hy151
        clear hy151
        have H' := ae.mk H
        clear H
        have AQ : 0 ≤ (dO : Int) := of_decide_eq_true (by (with_reducible assumption))
        have AV : dO < (t146.length : Int) := of_decide_eq_true (by (with_reducible assumption))
        obtain ⟨yB, RJ, SX, VM, Zk, Zl, Zm, Zn, Zo, Zp, DK, II, IE⟩ := n_ (Kd.jo xM.out).2.2 dO AQ AV
        cases VM
        obtain ⟨aen, MW, MR, BQ⟩ := Kd.Qk xM.out z26 dO AQ AV
        obtain ⟨aab, aac, rfl, zA, y8⟩ := mP MR
        have rV := BQ 6 _ rfl
        rw [jO _ _ 6 (by omega)] at rV
        replace rV := Option.some.inj (rV.symm.trans DK)
        injection rV with xX EL xY
        rw [xX] at y8
        rw [xY] at zA
        clear xX EL xY y8 zA
        clear BQ MW
        clear IE II
        replace AQ := eq_true AQ
        replace AV := eq_true AV
        have Q5 : 0 ≤ (dO : Int) := of_decide_eq_true (by (with_reducible assumption))
        have Q_ : dO < (t146.length : Int) := of_decide_eq_true (by (with_reducible assumption))
        obtain ⟨aeb, ah5, aiJ, af', ahU, ahV, ahW, ahX, ahY, ahZ, PL, Zi, Zg⟩ := n_ (Kd.jo xM.out).2.2 dO Q5 Q_
        obtain rfl : yB = aeb := (by injection af')
        obtain ⟨aj0, acg, ab_, TG⟩ := Kd.Qk xM.out z26 dO Q5 Q_
        obtain ⟨ah1, ah3, rfl, Jg, Io⟩ := mP ab_
        have DJ := TG 6 _ rfl
        rw [jO _ _ 6 (by omega)] at DJ
        replace DJ := Option.some.inj (DJ.symm.trans PL)
        injection DJ with xX EL xY
        rw [xX] at Io
        rw [xY] at Jg
        have Dh := ae.mk (show Kd.V k26 26 _ w.heap.size _ _ ((aj t146 dO).f3) from Kd.tK Jg Io)
        clear xX EL xY Io Jg
        clear TG acg
        clear Zg Zi
        replace Q5 := eq_true Q5
        replace Q_ := eq_true Q_
        have ea_ := Option.some.inj (DK.symm.trans PL)
        injection ea_ with ea_ en_ ec_
        subst ea_
        subst ec_
        clear en_
        go_wp2_with (((with_reducible refine ni (b := .append) (xs := #[.tmp 20, .tmp 25]) rfl ?_); at_builtin; refine Kd.Vh k26 (w0 := w) w.heap.size rfl (.tmp 20) (.tmp 25) 24 26 (.agg #[(.int .u8 0), (.int .i64 0), (.int .i64 0), (.int .i64 0), (.int .i64 0), (.int .i64 0), (.slice none 0 0)]) 72 rfl Try.underlying24 info26 rfl (by decide) (by omega) u3 jI (⟨(aj t146 dO).f0, (⟨(aj t146 dO).f1.f0, (aj t146 dO).f1.f1, (aj t146 dO).f1.f2, (aj t146 dO).f1.f3⟩ : dF), (aj t146 dO).f2, (aj t146 dO).f3⟩ : ai) [.int .u8 ((aj t146 dO).f0), .int .i64 ((aj t146 dO).f1.f0), .int .i64 ((aj t146 dO).f1.f1), .int .i64 ((aj t146 dO).f1.f2), .int .i64 ((aj t146 dO).f1.f3), .int .i64 ((aj t146 dO).f2), .slice RJ ((aj t146 dO).f3).length SX] (fun k_ => (gI k_ ∨ w.heap.size ≤ k_) ∧ some k_ ≠ (.slice (some yB) t146.length F6 : Value).ownBlock ∧ k_ ≠ kz) (fun k_ => ((fun k_ => (gI k_ ∨ w.heap.size ≤ k_) ∧ some k_ ≠ (.slice (some yB) t146.length F6 : Value).ownBlock ∧ k_ ≠ kz)) k_ ∧ some k_ ≠ (u3 : Value).ownBlock) rfl rfl ?aP (fun _ hk => hk) ?aF ?aO ?aB ?aS ?aL ?_; (case aP => exact (o8 _ _ (⟨(aj t146 dO).f0, (⟨(aj t146 dO).f1.f0, (aj t146 dO).f1.f1, (aj t146 dO).f1.f2, (aj t146 dO).f1.f3⟩ : dF), (aj t146 dO).f2, (aj t146 dO).f3⟩ : ai) (Kd.oJ (Kd.iP (ok' := (fun k_ => ((fun k_ => (gI k_ ∨ w.heap.size ≤ k_) ∧ some k_ ≠ (.slice (some yB) t146.length F6 : Value).ownBlock ∧ k_ ≠ kz)) k_ ∧ some k_ ≠ (u3 : Value).ownBlock)) (Dh.out) (fun k_ hk => ⟨⟨hk.1.1, ⟨hk.2, hk.1.2.2⟩⟩, hk.1.2.1⟩))).2.1 (Kd.Lt (Kd.iP (ok' := (fun k_ => ((fun k_ => (gI k_ ∨ w.heap.size ≤ k_) ∧ some k_ ≠ (.slice (some yB) t146.length F6 : Value).ownBlock ∧ k_ ≠ kz)) k_ ∧ some k_ ≠ (u3 : Value).ownBlock)) (Dh.out) (fun k_ hk => ⟨⟨hk.1.1, ⟨hk.2, hk.1.2.2⟩⟩, hk.1.2.1⟩))))); (case aB => exact (by repeat ((with_reducible exact HB.out)))); (case aF => exact (fun k_ hk => ⟨(.inr (Nat.le_trans (dC (by repeat ((with_reducible exact HB.out)))) hk)), Kd.fresh' (Kd.Bq xM.out) k_ hk, Kd.y7 jD.out k_ hk⟩)); (case aO => exact jV.out); (case aS => exact (dC (by repeat ((with_reducible exact HB.out))))); (case aL => have := adU.out; omega); intro v152 w14 ho hb hg hat; rw [← adZ.out] at ho; have adP := ae.mk (ho); replace xM := ae.mk (Kd.Le (ok := (fun k_ => (gI k_ ∨ w.heap.size ≤ k_) ∧ k_ ≠ kz)) (by exact Kd.iM xM.out (fun _ hk => ⟨⟨hk.1, hk.2.2⟩, hk.2.1⟩)) hg hat); replace yA := ae.mk (Kd.zL (ok := (fun k_ => (gI k_ ∨ w.heap.size ≤ k_) ∧ some k_ ≠ (.slice (some yB) t146.length F6 : Value).ownBlock ∧ k_ ≠ kz)) (by exact Kd.iP yA.out (fun _ hk => ⟨⟨hk.1, ⟨hk.2.2.1, hk.2.2.2⟩⟩, hk.2.1⟩)) hg hat); replace jD := ae.mk (bP jD.out hg (Kd.Sz jV.out (fun _ hk => hk.2.2))); replace Dh := ae.mk (Kd.zL (ok := (fun k_ => (gI k_ ∨ w.heap.size ≤ k_) ∧ some k_ ≠ (.slice (some yB) t146.length F6 : Value).ownBlock ∧ k_ ≠ kz)) (by exact Kd.iP Dh.out (fun _ hk => ⟨⟨hk.1.1, ⟨hk.2, hk.1.2.2⟩⟩, hk.1.2.1⟩)) hg hat); replace HB := ae.mk (hb); clear jV; clear ho hb hg hat))
        go_roundg k1
        case measure => have := pI.out; omega
        case rel => exact ⟨(y151), (wrap64 (dO + 1)), (by rfl), H', ⟨by have := pI.out; omega⟩, ⟨by exact adP.out⟩, ⟨by exact Kd.iM xM.out (fun _ hk => ⟨hk.1.1, ⟨hk.2, hk.1.2⟩⟩)⟩, ⟨by exact Kd.iP yA.out (fun _ hk => ⟨hk.1.1, ⟨hk.2, ⟨hk.1.2.1, hk.1.2.2⟩⟩⟩)⟩, ⟨by exact jD.out⟩, ⟨by repeat ((with_reducible exact HB.out))⟩⟩
       ·rw [if_neg c13] at H
        exact absurd H (by simp)
      ·rw [if_neg c12] at H
       have Qw : (((aj t146 dO).f0) == 1) = false := beq_eq_false_iff_ne.mpr c12
       have Qx : (((aj t146 dO).f0) != 1) = true := bne_iff_ne.mpr c12
       have H' := ae.mk H
       clear H
       have AQ : 0 ≤ (dO : Int) := of_decide_eq_true (by (with_reducible assumption))
       have AV : dO < (t146.length : Int) := of_decide_eq_true (by (with_reducible assumption))
       obtain ⟨yB, RJ, SX, VM, Zk, Zl, Zm, Zn, Zo, Zp, DK, II, IE⟩ := n_ (Kd.jo xM.out).2.2 dO AQ AV
       cases VM
       obtain ⟨aen, MW, MR, BQ⟩ := Kd.Qk xM.out z26 dO AQ AV
       obtain ⟨aab, aac, rfl, zA, y8⟩ := mP MR
       have rV := BQ 6 _ rfl
       rw [jO _ _ 6 (by omega)] at rV
       replace rV := Option.some.inj (rV.symm.trans DK)
       injection rV with xX EL xY
       rw [xX] at y8
       rw [xY] at zA
       clear xX EL xY y8 zA
       clear BQ MW
       clear IE II
       replace AQ := eq_true AQ
       replace AV := eq_true AV
       go_wp2
       go_roundg k1
       case measure => have := pI.out; omega
       case rel => exact ⟨(jI), (wrap64 (dO + 1)), (by rfl), H', ⟨by have := pI.out; omega⟩, ⟨by exact jV.out⟩, ⟨by exact xM.out⟩, ⟨by exact yA.out⟩, ⟨by exact jD.out⟩, ⟨by repeat ((with_reducible exact HB.out))⟩⟩
     ·rw [if_neg c11] at H
      exact absurd H (by simp)
    ·rw [if_neg c10] at H
     exact absurd H (by simp)
   ·rw [if_neg c9] at H
    have Qy : decide (dO < (t146.length : Int)) = false := decide_eq_false c9
    clear c9
    obtain rfl := Option.some.inj H
    go_wp2
    go_ret
    exact ⟨_, by rfl, by exact Kd.iM jV.out (fun _ hk => hk.1), by repeat ((with_reducible exact HB.out))⟩
end Go.Proofs.Ytfdmfgaiblfbhaa.P
namespace Go.Proofs.Ytfdmfgaiblfbhaa.P
open Go.RowKit Go.Proofs.ag.aA Go.Proofs.ag.a_ Go.Proofs.ag.bG
theorem mV (pre : List ai) (p : ai) (rest : List ai) : aj (pre ++ p :: rest) (pre.length : Int) = p := by
 simp [aj, List.getD_eq_getElem?_getD]
theorem DV {α : Type} (pre : List α) (p : α) (rest : List α) (h : (pre ++ p :: rest).length ≤ 9223372036854775807) : wrap64 ((pre.length : Int) + 1) = ((pre ++ [p]).length : Int) := by
 simp only [List.length_append, List.length_cons, List.length_nil] at h ⊢
 rw [wq (by omega) (by omega)]
 omega
theorem VH (L : Int) : ∀ (N : Nat) (c : ai), sz c ≤ N → N ≤ 1048576 → ∃ n : Int, Ev (fun k => df.f k c.f0 c.f1.f0 c.f1.f1 c.f1.f2 c.f1.f3 c.f2 c.f3 L) n ∧ 1 ≤ n ∧ n ≤ (sz c : Int) ∧ (n > L ∨ n = (sz c : Int)) := by
 intro N
 induction N with
 | zero => intro c h _; rw [dB] at h; omega
 | succ N ih =>
  intro c hc hN
  have hs := dB c
  have key : ∀ (rest pre : List ai), pre ++ rest = c.f3 → ∀ acc : Int, 1 ≤ acc → acc + (dM rest : Int) ≤ 1048576 → (acc > L ∨ acc = 1 + (dM pre : Int)) →
    ∃ n : Int, Ev (fun k => df.l0 k L acc (c.f3.length : Int) (pre.length : Int) c.f0 c.f1.f0 c.f1.f1 c.f1.f2 c.f1.f3 c.f2 c.f3) n ∧ acc ≤ n ∧ n ≤ acc + (dM rest : Int) ∧ (n > L ∨ n = 1 + (dM c.f3 : Int)) := by
   intro rest
   induction rest with
   | nil =>
    intro pre hp acc h1 h2 h3
    rw [List.append_nil] at hp
    refine ⟨acc, Ev.step (f := fun _ => some acc) (fun k => ?_) (Ev.now _), by omega, by omega, by rw [← hp]; exact h3⟩
    simp only [df.l0]
    rw [if_neg (by rw [hp]; omega)]
   | cons x xs ihr =>
    intro pre hp acc h1 h2 h3
    have hl : (pre.length : Int) < (c.f3.length : Int) := by rw [← hp, List.length_append, List.length_cons]; omega
    have hlen := ku c.f3
    by_cases hL : acc > L
    ·refine ⟨acc, Ev.step (f := fun _ => some acc) (fun k => ?_) (Ev.now _), by omega, by omega, .inl hL⟩
     simp only [df.l0]
     rw [if_pos hl, if_pos hL]
    ·have h3' : acc = 1 + (dM pre : Int) := by omega
     have hsum : dM c.f3 = dM pre + (sz x + dM xs) := by rw [← hp, jH, b_]
     obtain ⟨n1, e1, a1, b1, c1⟩ := ih x (by omega) (by omega)
     rw [b_] at h2
     obtain ⟨n, e2, a2, b2, c2⟩ := ihr (pre ++ [x]) (by rw [List.append_assoc]; exact hp) (acc + n1) (by omega) (by omega) (by
      rw [jH, b_, lW]
      omega)
     refine ⟨n, ?_, by omega, by rw [b_]; omega, c2⟩
     have hw : wrap64 (acc + n1) = acc + n1 := wq (by omega) (by omega)
     have hr : aj c.f3 (pre.length : Int) = x := by rw [← hp]; exact mV pre x xs
     have hu : wrap64 ((pre.length : Int) + 1) = ((pre ++ [x]).length : Int) := DV pre x xs (by rw [hp]; omega)
     refine Ev.step (f := fun k => (df.f k x.f0 x.f1.f0 x.f1.f1 x.f1.f2 x.f1.f3 x.f2 x.f3 L).bind fun t => df.l0 k L (wrap64 (acc + t)) (c.f3.length : Int) (wrap64 ((pre.length : Int) + 1)) c.f0 c.f1.f0 c.f1.f1 c.f1.f2 c.f1.f3 c.f2 c.f3) (fun k => ?_) (Ev.bind e1 ?_)
     ·simp only [df.l0]
      rw [if_pos hl, if_neg hL, if_pos (by omega), if_pos hl, hr]
     ·rw [hw, hu]
      exact e2
  obtain ⟨n, e, a, b, d⟩ := key c.f3 [] rfl 1 (by omega) (by omega) (.inr (by rw [lW]; rfl))
  refine ⟨n, Ev.step (fun k => ?_) e, a, by omega, by omega⟩
  simp only [df.f]
  rfl
theorem VS (c : ai) (h : sz c ≤ 1048576) : ∃ b : Bool, Ev (fun k => iF.f k c.f0 c.f1.f0 c.f1.f1 c.f1.f2 c.f1.f3 c.f2 c.f3) b ∧ (b = false → sz c ≤ 200) := by
 obtain ⟨n, e, h1, h2, h3⟩ := VH 200 1048576 c h (Nat.le_refl _)
 refine ⟨decide (n > 200), ?_, fun hb => ?_⟩
 ·unfold iF.f
  exact Ev.bind e (Ev.now _)
 ·have := of_decide_eq_false hb
  omega
theorem Jy : ∀ (N : Nat) (c : ai), sz c ≤ N → N ≤ 1048576 → Ev (fun k => dw.f k c.f0 c.f1.f0 c.f1.f1 c.f1.f2 c.f1.f3 c.f2 c.f3) (dZ c) := by
 intro N
 induction N with
 | zero => intro c h _; rw [dB] at h; omega
 | succ N ih =>
  intro c hc hN
  have hs := dB c
  have key : ∀ (rest pre : List ai), pre ++ rest = c.f3 → Ev (fun k => dw.l0 k (c :: allL pre) (c.f3.length : Int) (pre.length : Int) c.f0 c.f1.f0 c.f1.f1 c.f1.f2 c.f1.f3 c.f2 c.f3) (dZ c) := by
   intro rest
   induction rest with
   | nil =>
    intro pre hp
    rw [List.append_nil] at hp
    refine Ev.step (f := fun _ => some (dZ c)) (fun k => ?_) (Ev.now _)
    simp only [dw.l0]
    rw [if_neg (by rw [hp]; omega), hp, jY]
   | cons x xs ihr =>
    intro pre hp
    have hl : (pre.length : Int) < (c.f3.length : Int) := by rw [← hp, List.length_append, List.length_cons]; omega
    have hlen := ku c.f3
    have hsum : dM c.f3 = dM pre + (sz x + dM xs) := by rw [← hp, jH, b_]
    have e2 := ihr (pre ++ [x]) (by rw [List.append_assoc]; exact hp)
    have hr : aj c.f3 (pre.length : Int) = x := by rw [← hp]; exact mV pre x xs
    have hu : wrap64 ((pre.length : Int) + 1) = ((pre ++ [x]).length : Int) := DV pre x xs (by rw [hp]; omega)
    have ha : c :: allL (pre ++ [x]) = (c :: allL pre) ++ dZ x := by rw [oK, g_, jW, List.append_nil, List.cons_append]
    have hb : (c :: allL pre).length + (dZ x).length < 1954687338268 := by
     have h1 : (allL pre).length = dM pre := rfl
     have h2 : (dZ x).length = sz x := rfl
     rw [List.length_cons, h1, h2]
     omega
    rw [ha] at e2
    refine Ev.step (f := fun k => (dw.f k x.f0 x.f1.f0 x.f1.f1 x.f1.f2 x.f1.f3 x.f2 x.f3).bind fun t => (if (c :: allL pre).length + t.length < 1954687338268 then (dw.l0 k ((c :: allL pre) ++ t) (c.f3.length : Int) (wrap64 ((pre.length : Int) + 1)) c.f0 c.f1.f0 c.f1.f1 c.f1.f2 c.f1.f3 c.f2 c.f3) else none)) (fun k => ?_) (Ev.bind (ih x (by omega) (by omega)) (F8 hb ?_))
    ·simp only [dw.l0]
     rw [if_pos hl, if_pos (by omega), if_pos hl, hr]
    ·rw [hu]
     exact e2
  refine Ev.step (fun k => ?_) (key c.f3 [] rfl)
  simp only [dw.f, jW, Kv]
  rfl
def jc (c : ai) : List ai := (dZ c).filter fun x => decide (x.f0 = 1)
theorem QV (c : ai) : (jc c).length ≤ sz c := List.length_filter_le _ _
theorem JI (c : ai) (h : sz c ≤ 1048576) : Ev (fun k => dJ.f k c.f0 c.f1.f0 c.f1.f1 c.f1.f2 c.f1.f3 c.f2 c.f3) (jc c) := by
 unfold dJ.f
 refine Ev.bind (Jy _ c h (Nat.le_refl _)) ?_
 have key : ∀ (rest pre : List ai), pre ++ rest = dZ c → Ev (fun k => dJ.l0 k (pre.filter fun x => decide (x.f0 = 1)) (dZ c) ((dZ c).length : Int) (pre.length : Int)) (jc c) := by
  intro rest
  induction rest with
  | nil =>
   intro pre hp
   rw [List.append_nil] at hp
   refine Ev.step (f := fun _ => some (jc c)) (fun k => ?_) (Ev.now _)
   simp only [dJ.l0]
   rw [if_neg (by rw [hp]; omega), hp]
   rfl
  | cons x xs ihr =>
   intro pre hp
   have hsz : (dZ c).length ≤ 1048576 := h
   have hl : (pre.length : Int) < ((dZ c).length : Int) := by rw [← hp, List.length_append, List.length_cons]; omega
   have e2 := ihr (pre ++ [x]) (by rw [List.append_assoc]; exact hp)
   have hr : aj (dZ c) (pre.length : Int) = x := by rw [← hp]; exact mV pre x xs
   have hu : wrap64 ((pre.length : Int) + 1) = ((pre ++ [x]).length : Int) := DV pre x xs (by rw [hp]; omega)
   have hb : (pre.filter fun x => decide (x.f0 = 1)).length < 1954687338268 := by
    have := List.length_filter_le (fun x : ai => decide (x.f0 = 1)) pre
    omega
   rw [List.filter_append] at e2
   refine Ev.step (fun k => ?_) e2
   simp only [dJ.l0]
   rw [if_pos hl, if_pos (by omega), if_pos hl, hr, hu]
   by_cases h1 : x.f0 = 1
   ·rw [if_pos h1, if_pos hb, List.filter_cons_of_pos (by simpa using h1), Kv]
    rfl
   ·rw [if_neg h1, List.filter_cons_of_neg (by simpa using h1), List.filter_nil, List.append_nil]
 exact key (dZ c) [] rfl
end Go.Proofs.Ytfdmfgaiblfbhaa.P
namespace Go.Proofs.Ytfdmfgaiblfbhaa.P
open Go.RowKit Go.Proofs.ag.aA Go.Proofs.ag.a_ Go.Proofs.ag.bG
attribute [local go_sem] jf jr jG jR iV iW jB jC
theorem aep (d : Nat) (w : World) (x0 y0 : Int) (x1 y1 : Int) (x2 y2 : Int) (x3 y3 : Int) :
  (Op.equalIn (d + 2) 23 (.agg #[.int .i64 x0, .int .i64 x1, .int .i64 x2, .int .i64 x3]) (.agg #[.int .i64 y0, .int .i64 y1, .int .i64 y2, .int .i64 y3])).run Try.prog w = .ok (x0 == y0 && (x1 == y1 && (x2 == y2 && (x3 == y3)))) w := by
 refine abP Try.underlying23 (by kernel_rfl) ?_
 refine EE (by rfl) (by go_simp; rfl) (by go_simp; rfl) (by go_simp) ?_
 refine EE (by rfl) (by go_simp; rfl) (by go_simp; rfl) (by go_simp) ?_
 refine EE (by rfl) (by go_simp; rfl) (by go_simp; rfl) (by go_simp) ?_
 exact VQ (by rfl) (by go_simp; rfl) (by go_simp; rfl) (by go_simp)
end Go.Proofs.Ytfdmfgaiblfbhaa.P
namespace Go.Proofs.Ytfdmfgaiblfbhaa.P
open Go.RowKit Go.Proofs.ag.aA Go.Proofs.ag.a_ Go.Proofs.ag.bG
attribute [local go_sem] jf jr jG jR iV iW jB jC
attribute [local go_sem high] aep
mutual
def iQ.j0 : Nat → Bool → Int → Int → Int → Int → Int → Int → List (ai) → Int → Int → Int → Int → Int → Int → List (ai) → Option (Bool)
 | 0, _, _, _, _, _, _, _, _, _, _, _, _, _, _, _ => none
 | k + 1, x33, Jk, Jl, Jm, Jn, Jo, Jp, nX, Jq, Jr, Js, Jt, Ju, Jv, pG => if x33 = true then (some false) else (iQ.l0 k (nX.length : Int) 0 Jk Jl Jm Jn Jo Jp nX Jq Jr Js Jt Ju Jv pG)
def iQ.l0 : Nat → Int → Int → Int → Int → Int → Int → Int → Int → List (ai) → Int → Int → Int → Int → Int → Int → List (ai) → Option (Bool)
 | 0, _, _, _, _, _, _, _, _, _, _, _, _, _, _, _, _ => none
 | k + 1, x36, uO, Jk, Jl, Jm, Jn, Jo, Jp, nX, Jq, Jr, Js, Jt, Ju, Jv, pG => if uO < x36 then (if 0 ≤ uO then (if uO < (nX.length : Int) then (if uO < (pG.length : Int) then ((iQ.f k ((aj nX uO).f0) ((aj nX uO).f1.f0) ((aj nX uO).f1.f1) ((aj nX uO).f1.f2) ((aj nX uO).f1.f3) ((aj nX uO).f2) ((aj nX uO).f3) ((aj pG uO).f0) ((aj pG uO).f1.f0) ((aj pG uO).f1.f1) ((aj pG uO).f1.f2) ((aj pG uO).f1.f3) ((aj pG uO).f2) ((aj pG uO).f3)).bind fun agz => (if agz = true then (iQ.l0 k x36 (wrap64 (uO + 1)) Jk Jl Jm Jn Jo Jp nX Jq Jr Js Jt Ju Jv pG) else (some false))) else (none)) else (none)) else (none)) else (some true)
def iQ.f : Nat → Int → Int → Int → Int → Int → Int → List (ai) → Int → Int → Int → Int → Int → Int → List (ai) → Option (Bool)
 | 0, _, _, _, _, _, _, _, _, _, _, _, _, _, _ => none
 | k + 1, az, aN, aH, aK, dm, dn, aT, LC, LD, LG, LH, LJ, LM, NG => if az = LC then (if (!(aN == LD) || (!(aH == LG) || (!(aK == LH) || (!(dm == LJ))))) = true then (iQ.j0 k true az aN aH aK dm dn aT LC LD LG LH LJ LM NG) else (if dn = LM then (iQ.j0 k ((aT.length : Int) != (NG.length : Int)) az aN aH aK dm dn aT LC LD LG LH LJ LM NG) else (iQ.j0 k true az aN aH aK dm dn aT LC LD LG LH LJ LM NG))) else (iQ.j0 k true az aN aH aK dm dn aT LC LD LG LH LJ LM NG)
end
def iQ.T6 : Bool × List (List Nat × List Nat) := (true, [([], []), ([0], [0]), ([], []), ([1, 2], [1, 2]), ([3], [3]), ([], []), ([5], [5]), ([], []), ([6, 7], [6, 7]), ([8], [8]), ([4, 9], [4, 9]), ([10], [10])])
def iQ.B6 : List Nat := [0, 1, 0, 7, 15, 0, 32, 0, 224, 480, 1023, 2047]
end Go.Proofs.Ytfdmfgaiblfbhaa.P
namespace Go.Proofs.Ytfdmfgaiblfbhaa.P
open Go.RowKit Go.Proofs.ag.aA Go.Proofs.ag.a_ Go.Proofs.ag.bG
def qh (a b : dF) : Bool := a.f0 == b.f0 && (a.f1 == b.f1 && (a.f2 == b.f2 && a.f3 == b.f3))
mutual
def aeM : ai → ai → Bool
 | ⟨a, r, d, l⟩, ⟨a', r', d', l'⟩ => a == a' && (qh r r' && (d == d' && (l.length == l'.length && XG l l')))
def XG : List ai → List ai → Bool
 | [], _ => true
 | _ :: _, [] => true
 | c :: cs, e :: es => aeM c e && XG cs es
end
theorem pK {P : Program} {f : FuncId} {fn : Func} (hf : P.funcs[f]? = some fn) (hname : (fn.name == "runtime.NumGoroutine") = false) (hb : fn.body.isSome = true) : ∀ args w, (callFunc f args).run P w = .ok (.enter f args) w := by
 intro args w
 obtain ⟨c, hc⟩ := Option.isSome_iff_exists.1 hb
 have h1 : fn.name ≠ "runtime.NumGoroutine" := by simpa using hname
 simp [callFunc, hf, h1, hc, mark]
section
variable {σ α : Type}
def kC (step : σ → α → Bool × σ) : Int → σ → List α → Int × σ
 | _, s, [] => (-1, s)
 | i, s, x :: xs => if (step s x).1 = true then (i, (step s x).2) else kC step (i + 1) (step s x).2 xs
def qR (step : σ → α → Bool × σ) : σ → List α → Bool × σ
 | s, [] => (false, s)
 | s, x :: xs => if (step s x).1 = true then (true, (step s x).2) else qR step (step s x).2 xs
theorem ZV (step : σ → α → Bool × σ) : ∀ (l : List α) (i : Int) (s : σ), 0 ≤ i → (qR step s l).1 = decide (0 ≤ (kC step i s l).1) ∧ (qR step s l).2 = (kC step i s l).2 := by
 intro l
 induction l with
 | nil => intro i s h; exact ⟨by simp [qR, kC], rfl⟩
 | cons x xs ih =>
  intro i s h
  simp only [qR, kC]
  split
  ·exact ⟨by simp [h], rfl⟩
  ·exact ih (i + 1) _ (by omega)
theorem N8 (step : σ → α → Bool × σ) (s : σ) (l : List α) : qR step s l = (decide (0 ≤ (kC step 0 s l).1), (kC step 0 s l).2) := by
 have h := ZV step l 0 s (by omega)
 exact Prod.ext h.1 h.2
theorem PV (step : σ → α → Bool × σ) (z : α) (l : List α) (k : Nat) (h : k < l.length) (t : σ) :
  kC step k t (l.drop k) = if (step t (l.getD (k : Int).toNat z)).1 = true then ((k : Int), (step t (l.getD (k : Int).toNat z)).2) else kC step ((k + 1 : Nat) : Int) (step t (l.getD (k : Int).toNat z)).2 (l.drop (k + 1)) := by
 rw [List.drop_eq_getElem_cons h]
 simp only [kC, Int.toNat_natCast, List.getD_eq_getElem?_getD, List.getElem?_eq_getElem h, Option.getD_some]
 rfl
theorem AY (z : α) (l : List α) (k : Nat) (h : k < l.length) : l.getD (k : Int).toNat z ∈ l := by
 simp only [Int.toNat_natCast, List.getD_eq_getElem?_getD, List.getElem?_eq_getElem h, Option.getD_some]
 exact List.getElem_mem h
theorem JU (p : α → Bool) : ∀ (l : List α) (s : Unit), qR (fun _ x => (p x, ())) s l = (l.any p, ()) := by
 intro l
 induction l with
 | nil => intro s; rfl
 | cons x xs ih =>
  intro s
  simp only [qR, List.any_cons]
  cases h : p x with
  | true => simp
  | false => simp [ih]
end
def rD {α β : Type} (r : α → β → Bool) : List α → List β → Bool
 | a :: ta, b :: tb => r a b && rD r ta tb
 | [], _ => true
 | _ :: _, [] => true
theorem abQ {α β : Type} (r : α → β → Bool) (za : α) (zb : β) (la : List α) (lb : List β) (k : Nat) (ha : k < la.length) (hb : k < lb.length) :
  rD r (la.drop k) (lb.drop k) = (r (la.getD (k : Int).toNat za) (lb.getD (k : Int).toNat zb) && rD r (la.drop (k + 1)) (lb.drop (k + 1))) := by
 rw [List.drop_eq_getElem_cons ha, List.drop_eq_getElem_cons hb]
 simp only [rD, Int.toNat_natCast, List.getD_eq_getElem?_getD, List.getElem?_eq_getElem ha, List.getElem?_eq_getElem hb, Option.getD_some]
theorem Ij {α β : Type} (r : α → β → Bool) (lb : List β) : rD r ([] : List α) lb = true := by cases lb <;> rfl
def xm (k : Int) : Int := (((k - 2) % 256) + 1) % 256
def pU (f0 : Int) (k : ai) : Int := if f0 = 2 then k.f1.f2 else k.f1.f3
def szK (c k : ai) : Int := pU c.f0 k
def jk (c : ai) : List Int := c.f3.map (szK c)
def w_ (c : ai) : List dF × List dF × Bool := pY c.f1.f0 c.f1.f1 c.f1.f2 c.f1.f3 (xm c.f0) (jk c)
theorem ML (c : ai) : (w_ c).1.length ≤ c.f3.length ∧ (w_ c).2.1.length ≤ c.f3.length := by
 have h := VI c.f1.f0 c.f1.f1 c.f1.f2 c.f1.f3 (xm c.f0) (jk c)
 rwa [show (jk c).length = c.f3.length from List.length_map _] at h
theorem BN {c : ai} (h : (w_ c).2.2 = true) : (xm c.f0 = 1 ∨ xm c.f0 = 2) ∧ (w_ c).1 = wZ (xm c.f0) c.f1.f0 c.f1.f1 c.f1.f2 c.f1.f3 0 (jk c) ∧ (jk c).sum + ((jk c).length : Int) - 1 = tX (xm c.f0) c.f1.f2 c.f1.f3 ∧ ∀ m, m ∈ jk c → 1 ≤ m := Ti h
def AO (c : ai) (t : List dF × List dF × Bool) : Bool := c.f0 == 1 || (t.2.2 && (c.f3.length == t.1.length && rD (fun k r => qh k.f1 r) c.f3 t.1))
def l7 (c : ai) : Bool := AO c (w_ c)
def kS (c : ai) : Bool := (dZ c).all l7
theorem rM (c : ai) : kS c = (l7 c && c.f3.all kS) := by
 unfold kS
 rw [jY, List.all_cons]
 congr 1
 generalize c.f3 = l
 induction l with
 | nil => rw [jW]; rfl
 | cons x xs ih => rw [g_, List.all_append, List.all_cons, ih]
theorem O1 {W : World} {f : FuncId} {args : Array Value} {t1 t2 : List dF} (h : Calls Try.prog f args W (KF W (t1, t2, true))) :
  Calls Try.prog f args W fun e w' => ∃ A c A' c' o o', e = .returned (.tuple #[.slice A t1.length c, .slice A' t2.length c', .bool true]) ∧ Two k23 23 k23 23 W w' (.slice A t1.length c) t1 (.slice A' t2.length c') t2 o o' ∧ Below W.heap.size W w' :=
 h.mono (fun _ _ ⟨A, c, A', c', o, o', h1, h2, h3⟩ => ⟨A, c, A', c', o, o', h1, h2 rfl, h3⟩)
theorem MM {W : World} {f : FuncId} {args : Array Value} {t1 t2 : List dF} (h : Calls Try.prog f args W (KF W (t1, t2, false))) :
  Calls Try.prog f args W fun e w' => ∃ A n c A' n' c', e = .returned (.tuple #[.slice A n c, .slice A' n' c', .bool false]) ∧ Below W.heap.size W w' :=
 h.mono (fun _ _ ⟨A, c, A', c', _, _, h1, _, h3⟩ => ⟨A, _, c, A', _, c', h1, h3⟩)
abbrev Qn (w : World) (c : ai) (e : Ending) (w' : World) : Prop := ∃ A n cc, e = .returned (.tuple #[.slice A n cc, .bool (l7 c)]) ∧ (l7 c = true → ∃ ls : List dF, n = ls.length ∧ ls.length ≤ c.f3.length ∧ k23.R 23 w' w.heap.size (fun _ => True) (.slice A ls.length cc) ls) ∧ Below w.heap.size w w'
theorem X9 (k : Int) : (k - 1) % 256 = xm k := by unfold xm; omega
theorem O6 {α β : Type} {r : α → β → Bool} : ∀ {a b : List α} {a' b' : List β}, a.length = a'.length → rD r (a ++ b) (a' ++ b') = (rD r a a' && rD r b b') := by
 intro a
 induction a with
 | nil => intro b a' b' h; cases a' with
  | nil => rw [Ij]; rfl
  | cons y ys => simp at h
 | cons x xs ih =>
  intro b a' b' h
  cases a' with
  | nil => simp at h
  | cons y ys =>
   simp only [List.cons_append, rD]
   rw [ih (by simpa using h), Bool.and_assoc]
theorem ac2 {α : Type} {r k : dF} (h : qh k r = false) (x y : α) : (if r.f0 = k.f0 then if r.f1 = k.f1 then if r.f2 = k.f2 then if r.f3 = k.f3 then x else y else y else y else y) = y := by
 unfold qh at h
 repeat' split
 all_goals first | rfl | (simp_all; done)
theorem aa1 {base n c : Nat} {A : Option Addr} {l : List dF} {o : Obj} (h : KR k23 23 base (.slice A n c) l o) {W : World} (hm : ∀ g, (Value.slice A n c).ownBlock = some g → W.heap[g]? = some o) (pre rest : List dF) (r : dF) (hl : pre ++ r :: rest = l) :
  ∃ ad, A = some ad ∧ ∀ W : World, (∀ g, (Value.slice A n c).ownBlock = some g → W.heap[g]? = some o) → W.cell? (ad.add (pre.length * 4)) = some (.int .i64 r.f0) ∧ W.cell? ⟨(ad.add (pre.length * 4)).block, (ad.add (pre.length * 4)).off + 1, none⟩ = some (.int .i64 r.f1) ∧ W.cell? ⟨(ad.add (pre.length * 4)).block, (ad.add (pre.length * 4)).off + 2, none⟩ = some (.int .i64 r.f2) ∧ W.cell? ⟨(ad.add (pre.length * 4)).block, (ad.add (pre.length * 4)).off + 3, none⟩ = some (.int .i64 r.f3) := by
 have hi : (pre.length : Int) < l.length := by rw [← hl, List.length_append, List.length_cons]; omega
 have hr : pg l pre.length = r := by rw [← hl]; simp [pg, List.getD_eq_getElem?_getD]
 have key : ∀ W : World, (∀ g, (Value.slice A n c).ownBlock = some g → W.heap[g]? = some o) → ∃ ad, A = some ad ∧ W.cell? (ad.add (pre.length * 4)) = some (.int .i64 r.f0) ∧ W.cell? ⟨(ad.add (pre.length * 4)).block, (ad.add (pre.length * 4)).off + 1, none⟩ = some (.int .i64 r.f1) ∧ W.cell? ⟨(ad.add (pre.length * 4)).block, (ad.add (pre.length * 4)).off + 2, none⟩ = some (.int .i64 r.f2) ∧ W.cell? ⟨(ad.add (pre.length * 4)).block, (ad.add (pre.length * 4)).off + 3, none⟩ = some (.int .i64 r.f3) := fun W hW => by
  have hC := (Kd.fD (h W hW)).2.2
  have h2 := LV hC (pre.length : Int) (Int.natCast_nonneg _) hi
  rw [hr] at h2
  exact h2
 obtain ⟨ad, hA, _⟩ := key W hm
 refine ⟨ad, hA, fun W hW => ?_⟩
 obtain ⟨ad2, h1, h2⟩ := key W hW
 rw [hA] at h1
 injection h1 with h1
 rw [h1]
 exact h2
def wR.T20 : Bool × List (List Nat × List Nat) := (true, [([], []), ([], []), ([1], [1]), ([], []), ([2, 3], [2, 3]), ([], []), ([5], [5]), ([], []), ([], []), ([7, 8], [7, 8]), ([9], [9]), ([], []), ([11], [11]), ([4, 6, 10, 12], [4, 6, 10, 12]), ([13], [13]), ([0, 14], [0, 14]), ([15, 15, 0, 1, 2, 3, 4, 5, 6, 7, 8, 9, 10, 11, 12, 13, 14, 15], [0, 15])])
def wR.B20 : List Nat := [0, 0, 2, 0, 14, 0, 32, 0, 0, 384, 896, 0, 2048, 8190, 16382, 32767, 65535]
theorem wR.aeU : iJ .any (opsOf Try.f46 20) = wR.T20 := by kernel_rfl
theorem wR.abf : jm wR.T20.2 wR.B20 = true := by kernel_rfl
def wS.T21 : Bool × List (List Nat × List Nat) := (true, [([], []), ([], []), ([1], [1]), ([], []), ([3], [3]), ([], []), ([4, 5], [4, 5]), ([], []), ([7], [7]), ([], []), ([], []), ([9, 10], [9, 10]), ([11], [11]), ([2, 6, 8, 12], [2, 6, 8, 12]), ([13], [13]), ([0, 14], [0, 14]), ([15, 15, 0, 1, 2, 3, 4, 5, 6, 7, 8, 9, 10, 11, 12, 13, 14, 15], [0, 15])])
def wS.B21 : List Nat := [0, 0, 2, 0, 8, 0, 56, 0, 128, 0, 0, 1536, 3584, 8190, 16382, 32767, 65535]
theorem wS.aeV : iJ .any (opsOf Try.f46 21) = wS.T21 := by kernel_rfl
theorem wS.abg : jm wS.T21.2 wS.B21 = true := by kernel_rfl
theorem piece1 (s t e n : Int) : nC 1 s t e n = ⟨s, t, n, e⟩ := rfl
theorem piece2 (s t e n : Int) : nC 2 s t e n = ⟨t, s, e, n⟩ := rfl
theorem ac_ (X Y Wd H ax : Int) (sizes : List Int) (hl : sizes.length ≤ 1000000) (B : Option Addr) (cb : Nat) (w : World) (hi : Kd.C (Kd.int .i64) w B sizes.length sizes) :
  Calls Try.prog 46 #[.agg #[.int .i64 X, .int .i64 Y, .int .i64 Wd, .int .i64 H], .int .u8 ax, .slice B sizes.length cb] w (KF w (pY X Y Wd H ax sizes)) := by
 have S := ae.mk (St.start (ts := []) (b0 := w.heap.size) (w := w) (P := fun _ => True) (fun _ h => by cases h))
 have HI := ae.mk hi
 have nP := ae.mk hl
 clear hi hl
 by_cases hm : o9 X Y Wd H = true
 case neg =>
  have HQ := ae.mk (xQ (X := X) (Y := Y) (W := Wd) (H := H) (ax := ax) (sizes := sizes) (.inr (.inl (Bool.eq_false_iff.mpr hm))))
  have v_ := ae.mk (Bool.eq_false_iff.mpr hm)
  clear hm
  go_enter Try.func46, Try.ntmps46
  go_wp2_with (first | (refine boxS 3 _ 23 S ?_; clear S; intro b3 fH S) | (refine dW 15 rfl ?_; refine mQ k23 23 rfl 15 S ?_; clear S; intro An cn on ik S KT; obtain ⟨bf, bg, bu, bz⟩ := St.at4 S dG) | (refine bQ (some 17) Try.func57 S (CO v_.out) ?_; clear S; intro iq S; clear bf bg bu bz))
  go_ret3
  rw [HQ.out]
  exact ⟨_, _, _, _, .cells #[] 0 (0, 0), .cells #[] 0 (0, 0), rfl, (fun h => by cases h), S.out.below⟩
 have v_ := ae.mk hm
 by_cases h1 : ax < 1
 case pos =>
  have HQ := ae.mk (xQ (X := X) (Y := Y) (W := Wd) (H := H) (ax := ax) (sizes := sizes) (.inl (by omega)))
  obtain ⟨h1a, h1b⟩ := qO (a := ax) (b := 1) (by omega)
  clear hm h1
  go_enter Try.func46, Try.ntmps46
  go_wp2_with (first | (refine boxS 3 _ 23 S ?_; clear S; intro b3 fH S) | (refine dW 15 rfl ?_; refine mQ k23 23 rfl 15 S ?_; clear S; intro An cn on ik S KT; obtain ⟨bf, bg, bu, bz⟩ := St.at4 S dG) | (refine bQ (some 17) Try.func57 S (CO v_.out) ?_; clear S; intro iq S; clear bf bg bu bz))
  go_ret3
  rw [HQ.out]
  exact ⟨_, _, _, _, .cells #[] 0 (0, 0), .cells #[] 0 (0, 0), rfl, (fun h => by cases h), S.out.below⟩
 obtain ⟨h1a, h1b⟩ := lu (a := ax) (b := 1) (by omega)
 by_cases h2 : 2 < ax
 case pos =>
  have HQ := ae.mk (xQ (X := X) (Y := Y) (W := Wd) (H := H) (ax := ax) (sizes := sizes) (.inl (by omega)))
  obtain ⟨BP, h2b⟩ := qO (a := 2) (b := ax) (by omega)
  clear hm h1 h2
  go_enter Try.func46, Try.ntmps46
  go_wp2_with (first | (refine boxS 3 _ 23 S ?_; clear S; intro b3 fH S) | (refine dW 15 rfl ?_; refine mQ k23 23 rfl 15 S ?_; clear S; intro An cn on ik S KT; obtain ⟨bf, bg, bu, bz⟩ := St.at4 S dG) | (refine bQ (some 17) Try.func57 S (CO v_.out) ?_; clear S; intro iq S; clear bf bg bu bz))
  go_ret3
  rw [HQ.out]
  exact ⟨_, _, _, _, .cells #[] 0 (0, 0), .cells #[] 0 (0, 0), rfl, (fun h => by cases h), S.out.below⟩
 obtain ⟨BP, h2b⟩ := lu (a := 2) (b := ax) (by omega)
 by_cases h0 : sizes.length = 0
 case pos =>
  have HQ := ae.mk (xQ (X := X) (Y := Y) (W := Wd) (H := H) (ax := ax) (sizes := sizes) (.inr (.inr h0)))
  obtain ⟨JC, Gf, TB⟩ := Bf (a := (sizes.length : Int)) (b := 0) (by omega)
  have TC : (sizes.length == 0) = true := beq_iff_eq.mpr (by omega)
  have TD : decide (sizes.length = 0) = true := decide_eq_true (by omega)
  clear hm h1 h2 h0
  go_enter Try.func46, Try.ntmps46
  go_wp2_with (first | (refine boxS 3 _ 23 S ?_; clear S; intro b3 fH S) | (refine dW 15 rfl ?_; refine mQ k23 23 rfl 15 S ?_; clear S; intro An cn on ik S KT; obtain ⟨bf, bg, bu, bz⟩ := St.at4 S dG) | (refine bQ (some 17) Try.func57 S (CO v_.out) ?_; clear S; intro iq S; clear bf bg bu bz))
  go_ret3
  rw [HQ.out]
  exact ⟨_, _, _, _, .cells #[] 0 (0, 0), .cells #[] 0 (0, 0), rfl, (fun h => by cases h), S.out.below⟩
 have hax : ax = 1 ∨ ax = 2 := by omega
 have Be := ae.mk hax
 obtain ⟨S0, hS0⟩ : ∃ s, s = tX ax X Y := ⟨_, rfl⟩
 obtain ⟨T0, hT0⟩ : ∃ s, s = tX ax Y X := ⟨_, rfl⟩
 obtain ⟨D, hD⟩ : ∃ s, s = tX ax Wd H := ⟨_, rfl⟩
 obtain ⟨E, hE⟩ : ∃ s, s = tX ax H Wd := ⟨_, rfl⟩
 have HS1 := ae.mk (show ax = 1 → S0 = X ∧ T0 = Y ∧ D = Wd ∧ E = H from fun h => by subst h; exact ⟨hS0, hT0, hD, hE⟩)
 have HS2 := ae.mk (show ax = 2 → S0 = Y ∧ T0 = X ∧ D = H ∧ E = Wd from fun h => by subst h; exact ⟨hS0, hT0, hD, hE⟩)
 have hq := Tm hax hm h0
 rw [← hS0, ← hT0, ← hD, ← hE] at hq
 have hb := U1 hax hm
 rw [← hS0, ← hD] at hb
 have HB := ae.mk hb
 rw [hq]
 obtain ⟨JC, Gf, TB⟩ := eqF (a := (sizes.length : Int)) (b := 0) (by omega)
 have TC : (sizes.length == 0) = false := beq_eq_false_iff_ne.mpr (by omega)
 have TD : decide (sizes.length = 0) = false := decide_eq_false (by omega)
 obtain ⟨R, hR⟩ : ∃ R, R = ng ax S0 T0 D E 0 true [] [] sizes := ⟨_, rfl⟩
 rw [← hR]
 have HR := ae.mk hR
 clear hq hb hm h0 h1 h2 hax hS0 hT0 hD hE hR
 go_enter Try.func46, Try.ntmps46
 go_upto_if 37 with (first | (refine boxS 3 _ 23 S ?_; clear S; intro b3 fH S) | (refine dW 15 rfl ?_; refine mQ k23 23 rfl 15 S ?_; clear S; intro An cn on ik S KT; obtain ⟨bf, bg, bu, bz⟩ := St.at4 S dG) | (refine bQ (some 17) Try.func57 S (CO v_.out) ?_; clear S; intro iq S; clear bf bg bu bz; have bu := (S.out.at dG 2).trans rfl))
 clear bu
 (skip)
 go_cut [10] (fun v10 wc => v10 = .int .i64 D ∧ ae (St w (fun _ => True) [((Value.slice An 0 cn).ownBlock, on), (some b3, .cells #[.int .i64 X, .int .i64 Y, .int .i64 Wd, .int .i64 H] 23 (0, 0))] [] [] [] wc))
 case first =>
  by_cases hx : ax = 2
  case pos =>
   have hd := (HS2.out hx).2.2.1
   obtain ⟨hxa, hxb, hxd⟩ := Bf (a := ax) (b := 2) (by omega)
   have HDD := ae.mk hd
   clear hx hd
   have bz := (S.out.at dG 3).trans rfl
   go_wp2
   clear bz
   go_meet
   case rel => exact ⟨by rw [HDD.out], S⟩
  case neg =>
   have hd := (HS1.out (by have := Be.out; omega)).2.2.1
   obtain ⟨hxa, hxb, hxd⟩ := eqF (a := ax) (b := 2) (by omega)
   have HDD := ae.mk hd
   clear hx hd
   go_wp2
   go_meet
   case rel => exact ⟨by rw [HDD.out], S⟩
 case rest =>
  clear S
  obtain ⟨rfl, S⟩ := hcut
  rename World => wx
  go_wp2_with (first | (refine dW 40 rfl ?_; refine mQ k23 23 rfl 40 S ?_; clear S; intro Ap cp op fH S iI) | (refine dW 41 rfl ?_; refine mQ k23 23 rfl 41 S ?_; clear S; intro Aq cq oq ik S mY))
  clear JC Gf TB TC TD h1a h1b BP h2b
  go_loopg [11, 12, 13, 44] sizes.length (fun gg v11 v12 v13 v44 wr => ∃ (pre rest : List Int) (off : Int) (ps ls : List dF) (Ap : Option Addr) (cp : Nat) (op : Obj) (Aq : Option Addr) (cq : Nat) (oq : Obj), v11 = .slice Ap ps.length cp ∧ v12 = .slice Aq ls.length cq ∧ v13 = .int .i64 off ∧ v44 = .int .i64 (pre.length : Int) ∧ ae (pre ++ rest = sizes) ∧ rest.length ≤ gg ∧ ae (0 ≤ off ∧ off ≤ D ∧ ps.length ≤ pre.length ∧ ls.length ≤ pre.length) ∧ ae (ng ax S0 T0 D E off (pre.length == 0) ps ls rest = R) ∧ ae (KR k23 23 w.heap.size (.slice Ap ps.length cp) ps op) ∧ ae (KR k23 23 w.heap.size (.slice Aq ls.length cq) ls oq) ∧ ae (St w (fun _ => True) [((Value.slice Ap ps.length cp).ownBlock, op), ((Value.slice Aq ls.length cq).ownBlock, oq), ((Value.slice An 0 cn).ownBlock, on), (some b3, .cells #[.int .i64 X, .int .i64 Y, .int .i64 Wd, .int .i64 H] 23 (0, 0))] [] [] [] wr))
  case atStart => exact ⟨[], sizes, 0, [], [], _, _, _, _, _, _, rfl, rfl, rfl, rfl, ⟨rfl⟩, Nat.le_refl _, ⟨by have := HB.out; simp; omega⟩, ⟨HR.out.symm⟩, iI, mY, ⟨S.out.qN.qN.JB.qN⟩⟩
  case round =>
   clear S HR iI mY
   obtain ⟨pre, rest, off, ps, ls, Ap, cp, op, Aq, cq, oq, rfl, rfl, rfl, rfl, HE, hgg, HO, HG, iI, mY, S⟩ := hrel
   cases rest with
   | nil =>
    have hE := HE.out
    rw [List.append_nil] at hE
    subst hE
    clear HE hgg
    have hlt : ¬ ((pre.length : Int) < (pre.length : Int)) := by omega
    have R_ := ae.mk (MJ HG.out)
    by_cases hod : off = D
    case pos =>
     obtain ⟨hza, hzb, hzd⟩ := Bf (a := off) (b := D) (by omega)
     have KU := ae.mk hod
     clear hod
     go_wp2
     go_ret3
     rw [R_.out, if_pos KU.out]
     exact ⟨Ap, cp, Aq, cq, op, oq, rfl, fun _ => S.out.UH iI.out mY.out, S.out.below⟩
    case neg =>
     obtain ⟨hza, hzb, hzd⟩ := eqF (a := off) (b := D) (by omega)
     have KU := ae.mk hod
     clear hod
     go_wp2
     have HQ := ae.mk (R_.out.trans (if_neg KU.out))
     go_ret3
     rw [HQ.out]
     exact ⟨_, _, _, _, .cells #[] 0 (0, 0), .cells #[] 0 (0, 0), rfl, (fun h => by cases h), S.out.below⟩
   | cons n ns =>
    have hlt : (pre.length : Int) < (sizes.length : Int) := by rw [← HE.out, List.length_append, List.length_cons]; omega
    have hw1 : wrap64 ((pre.length : Int) + 1) = ((pre ++ [n]).length : Int) := by have := nP.out; rw [List.length_append, List.length_singleton]; unfold wrap64; omega
    have HW1 := ae.mk hw1
    have kX := ae.mk hgg
    have OG := ae.mk hlt
    have yx := ae.mk (show ps.length ≤ 1000000 ∧ ls.length ≤ 1000000 by have := HO.out; have := nP.out; omega)
    clear hgg hw1
    go_upto_if 48 with fail
    (skip)
    go_cut [12, 13] (fun v12 v13 wc => ∃ (o' : Int) (ls' : List dF) (Aq : Option Addr) (cq : Nat) (oq : Obj), v12 = .slice Aq ls'.length cq ∧ v13 = .int .i64 o' ∧ ae (0 ≤ o' ∧ o' ≤ D + 1 ∧ ls'.length ≤ pre.length + 1) ∧ ae (yN ax S0 T0 D E o' ps ls' n ns = R) ∧ ae (KR k23 23 w.heap.size (.slice Aq ls'.length cq) ls' oq) ∧ ae (St w (fun _ => True) [((Value.slice Ap ps.length cp).ownBlock, op), ((Value.slice Aq ls'.length cq).ownBlock, oq), ((Value.slice An 0 cn).ownBlock, on), (some b3, .cells #[.int .i64 X, .int .i64 Y, .int .i64 Wd, .int .i64 H] 23 (0, 0))] [] [] [] wc))
    case first =>
     by_cases hp2 : pre.length = 0
     case pos =>
      have hp : (pre.length == 0) = true := beq_iff_eq.mpr hp2
      obtain ⟨hpa, hpb⟩ := lu (a := 0) (b := (pre.length : Int)) (by omega)
      have hpc : decide (0 < pre.length) = false := decide_eq_false (by omega)
      have hpe : ¬ (0 < pre.length) := by omega
      have HG2 := ae.mk (show yN ax S0 T0 D E off ps ls n ns = R by have h := HG.out; rw [hp] at h; exact h)
      clear hp hp2
      go_wp2
      go_meet
      case rel => exact ⟨off, ls, _, _, _, rfl, rfl, ⟨by have := HO.out; omega⟩, HG2, mY, S⟩
     case neg =>
      have hp : (pre.length == 0) = false := beq_eq_false_iff_ne.mpr hp2
      obtain ⟨hpa, hpb⟩ := qO (a := 0) (b := (pre.length : Int)) (by omega)
      have hpc : decide (0 < pre.length) = true := decide_eq_true (by omega)
      have hpe : 0 < pre.length := by omega
      have RZ := ae.mk (show yN ax S0 T0 D E (off + 1) ps (ls ++ [nC ax (S0 + off) T0 E 1]) n ns = R by have h := HG.out; rw [hp] at h; exact h)
      have OJ := ae.mk (show wrap64 (off + 1) = off + 1 by have := HO.out; have := HB.out; unfold wrap64; omega)
      clear hp hp2
      by_cases hx : ax = 1
      case pos =>
       have HX := ae.mk hx
       obtain ⟨hxa, hxb, hxd⟩ := Bf (a := ax) (b := 1) (by omega)
       clear hx
       have KX := ae.mk (show nC ax (S0 + off) T0 E 1 = (⟨wrap64 (X + off), Y, 1, H⟩ : dF) by have hb := HB.out; have ho := HO.out; have hs := HS1.out HX.out; rw [HX.out, piece1, hs.1, hs.2.1, hs.2.2.2, show wrap64 (X + off) = X + off by rw [hs.1] at hb; unfold wrap64; omega])
       have HG2 := ae.mk (show yN ax S0 T0 D E (off + 1) ps (ls ++ [(⟨wrap64 (X + off), Y, 1, H⟩ : dF)]) n ns = R by rw [← KX.out]; exact RZ.out)
       have bf := (S.out.at jT 0).trans rfl
       have bg := (S.out.at jT 1).trans rfl
       have bz := (S.out.at jT 3).trans rfl
       go_wp2_with ((refine dW 62 rfl ?_; at_builtin; replace S := ae.mk S.out.uf; refine t_ k23 23 rfl 51 61 42 _ 32 Try.underlying42 info23 rfl (by decide) (by decide) (by decide) S mY ⟨wrap64 (X + off), Y, 1, H⟩ [.int .i64 (wrap64 (X + off)), .int .i64 Y, .int .i64 1, .int .i64 H] (fun _ _ _ => qB _ _ _ _) (by have := yx.out; omega) ?_; clear S mY; intro Aq2 cq2 oq2 fH S mY; clear bf bg bz))
       go_meet
       case rel => exact ⟨off + 1, _, _, _, _, (by rw [List.length_append]; rfl), (by rw [OJ.out]), ⟨by have := HO.out; rw [List.length_append, List.length_singleton]; omega⟩, HG2, mY, ⟨S.out.qN.qN.JB.qN⟩⟩
      case neg =>
       have HX := ae.mk (show ax = 2 by have := Be.out; omega)
       obtain ⟨hxa, hxb, hxd⟩ := eqF (a := ax) (b := 1) (by omega)
       clear hx
       have KX := ae.mk (show nC ax (S0 + off) T0 E 1 = (⟨X, wrap64 (Y + off), Wd, 1⟩ : dF) by have hb := HB.out; have ho := HO.out; have hs := HS2.out HX.out; rw [HX.out, piece2, hs.1, hs.2.1, hs.2.2.2, show wrap64 (Y + off) = Y + off by rw [hs.1] at hb; unfold wrap64; omega])
       have HG2 := ae.mk (show yN ax S0 T0 D E (off + 1) ps (ls ++ [(⟨X, wrap64 (Y + off), Wd, 1⟩ : dF)]) n ns = R by rw [← KX.out]; exact RZ.out)
       have bf := (S.out.at jT 0).trans rfl
       have bg := (S.out.at jT 1).trans rfl
       have bu := (S.out.at jT 2).trans rfl
       go_wp2_with ((refine dW 74 rfl ?_; at_builtin; replace S := ae.mk S.out.uf; refine t_ k23 23 rfl 63 73 42 _ 32 Try.underlying42 info23 rfl (by decide) (by decide) (by decide) S mY ⟨X, wrap64 (Y + off), Wd, 1⟩ [.int .i64 X, .int .i64 (wrap64 (Y + off)), .int .i64 Wd, .int .i64 1] (fun _ _ _ => qB _ _ _ _) (by have := yx.out; omega) ?_; clear S mY; intro Aq2 cq2 oq2 fH S mY; clear bf bg bu))
       go_meet
       case rel => exact ⟨off + 1, _, _, _, _, (by rw [List.length_append]; rfl), (by rw [OJ.out]), ⟨by have := HO.out; rw [List.length_append, List.length_singleton]; omega⟩, HG2, mY, ⟨S.out.qN.qN.JB.qN⟩⟩
    case rest =>
     clear S mY HG
     obtain ⟨o', ls', Aq, cq, oq, rfl, rfl, qH, HG, mY, S⟩ := hcut
     rename World => wy
     have yx := ae.mk (show ps.length ≤ 1000000 ∧ ls'.length ≤ 1000001 by have := HO.out; have := qH.out; have := nP.out; omega)
     have hlt := OG.out
     have hrd : rd sizes (pre.length : Int) = n := by rw [← HE.out]; simp [rd, List.getD_eq_getElem?_getD]
     obtain ⟨D7, ek, xi⟩ := Kd.o5 (Kd.dL HI.out S.out.below) (pre.length : Int) (Int.natCast_nonneg _) hlt
     subst ek
     rw [hrd] at xi
     simp only [Int.toNat_natCast] at xi
     have HXI := fun (W : World) (h : Below w.heap.size w W) => (show W.cell? (D7.add pre.length) = some (.int .i64 n) by have h2 := Kd.o5 (Kd.dL HI.out h) (pre.length : Int) (Int.natCast_nonneg _) OG.out; obtain ⟨ad, e1, e2⟩ := h2; injection e1 with e1; subst e1; simp only [Int.toNat_natCast] at e2; rw [e2, ← HE.out]; simp [rd, List.getD_eq_getElem?_getD])
     have uP := ae.mk HXI
     clear hrd xi HXI
     by_cases hn : n < 1
     case pos =>
      obtain ⟨hna, hnb⟩ := qO (a := n) (b := 1) (by omega)
      have HQ := ae.mk (HG.out.symm.trans (yZ (.inl hn)))
      have xi := uP.out _ S.out.below
      go_wp2
      clear xi
      go_ret3
      rw [HQ.out]
      exact ⟨_, _, _, _, .cells #[] 0 (0, 0), .cells #[] 0 (0, 0), rfl, (fun h => by cases h), S.out.below⟩
     obtain ⟨hna, hnb⟩ := lu (a := n) (b := 1) (by omega)
     by_cases hd : D < n
     case pos =>
      obtain ⟨hda, hdb⟩ := qO (a := D) (b := n) (by omega)
      have HQ := ae.mk (HG.out.symm.trans (yZ (.inr (by have := qH.out; omega))))
      have xi := uP.out _ S.out.below
      go_wp2
      clear xi
      go_ret3
      rw [HQ.out]
      exact ⟨_, _, _, _, .cells #[] 0 (0, 0), .cells #[] 0 (0, 0), rfl, (fun h => by cases h), S.out.below⟩
     obtain ⟨hda, hdb⟩ := lu (a := D) (b := n) (by omega)
     have hg : wrap64 (o' + n) = o' + n := by have := HB.out; have := qH.out; unfold wrap64; omega
     have HWG := ae.mk hg
     by_cases he : D < o' + n
     case pos =>
      obtain ⟨hea, heb⟩ := qO (a := D) (b := wrap64 (o' + n)) (by omega)
      obtain ⟨hfa, hfb⟩ := qO (a := D) (b := o' + n) (by omega)
      have HQ := ae.mk (HG.out.symm.trans (yZ (.inr he)))
      have xi := uP.out _ S.out.below
      go_wp2
      clear xi
      go_ret3
      rw [HQ.out]
      exact ⟨_, _, _, _, .cells #[] 0 (0, 0), .cells #[] 0 (0, 0), rfl, (fun h => by cases h), S.out.below⟩
     obtain ⟨hea, heb⟩ := lu (a := D) (b := wrap64 (o' + n)) (by omega)
     obtain ⟨hfa, hfb⟩ := lu (a := D) (b := o' + n) (by omega)
     have RZ := ae.mk ((O0 (fun h => h.elim hn he)).symm.trans HG.out)
     have HN := ae.mk hn
     have HD2 := ae.mk he
     clear hn hd he hg
     by_cases hx : ax = 1
     case pos =>
      have HX := ae.mk hx
      obtain ⟨hxa, hxb, hxd⟩ := Bf (a := ax) (b := 1) (by omega)
      clear hx
      have KX := ae.mk (show nC ax (S0 + o') T0 E n = (⟨wrap64 (X + o'), Y, n, H⟩ : dF) by have hb := HB.out; have ho := qH.out; have hs := HS1.out HX.out; rw [HX.out, piece1, hs.1, hs.2.1, hs.2.2.2, show wrap64 (X + o') = X + o' by rw [hs.1] at hb; unfold wrap64; omega])
      have HG2 := ae.mk (show ng ax S0 T0 D E (o' + n) false (ps ++ [(⟨wrap64 (X + o'), Y, n, H⟩ : dF)]) ls' ns = R by rw [← KX.out]; exact RZ.out)
      have xi := uP.out _ S.out.below
      go_wp2
      clear xi
      go_wp2
      refine jL (n := 17) (S := fun w' => St w _ _ _ _ _ w') (ds := [15]) (bA 17 0) (by kernel_rfl) rfl rfl (S.out.gX.call (bC (Below.refl _ _))) (fun hHeld => ?_); refine fP wR.aeU wR.abf (fun au fE => ?_)
      replace S := ae.mk (S.out.call (bC (Below.refl _ _)))
      generalize wy.drew = JY at S hHeld ⊢
      refine aC 0 104 (bA 17 1) au ?_
      refine aC 1 105 (bA 17 3) au ?_
      refine eQ 2 106 (bA 17 7) au fE hHeld ?_ (hv := by intro w' hs_; have bf := (hs_.at dX 0).trans rfl; go_simp; with_reducible rfl)
      refine aC 3 107 (bA 17 15) au ?_
      refine aC 4 108 (bA 17 31) au ?_
      refine aC 5 109 (bA 17 63) au ?_
      refine eQ 6 110 (bA 17 127) au fE hHeld ?_ (hv := by intro w' hs_; have bg := (hs_.at dX 1).trans rfl; go_simp; with_reducible rfl)
      refine aC 7 111 (bA 17 255) au ?_
      refine aC 8 112 (bA 17 511) au ?_
      refine aC 9 113 (bA 17 1023) au ?_
      refine eQ 10 114 (bA 17 2047) au fE hHeld ?_ (hv := by intro w' hs_; have xi := uP.out _ hs_.below; go_simp; with_reducible rfl)
      refine aC 11 115 (bA 17 4095) au ?_
      refine eQ 12 116 (bA 17 8191) au fE hHeld ?_ (hv := by intro w' hs_; have bz := (hs_.at dX 3).trans rfl; go_simp; with_reducible rfl)
      refine aC 13 117 (bA 17 16383) au ?_
      refine lI 14 (some 118) (bA 17 32767) au (fun K hK => ?_)
      refine U9 (w1 := ?_) (v := ?_) (by rfl) rfl ?_ ?_
      rotate_left 2
      ·go_simp
       constructor
       ·rfl
       ·rfl
      refine hK.out _ _ (S.out.gX.call (aW (Below.refl _ _) _)) (fun hHeld => ?_)
      clear hK K
      refine fK 118 ?_
      refine uG 15 (some 119) (bA 17 65535) au (fun K hK => ?_)
      refine LQ k23 23 rfl 104 118 42 _ 32 Try.underlying42 info23 rfl (by decide) (by decide) (by decide) S iI ⟨wrap64 (X + o'), Y, n, H⟩ [.int .i64 (wrap64 (X + o')), .int .i64 Y, .int .i64 n, .int .i64 H] (fun _ _ _ => qB _ _ _ _) (by have := yx.out; omega) ?_
      clear S iI
      intro KD cp2 NL iq S iI
      refine hK.out _ _ ?_
      clear hK K
      refine fK 119 ?_
      refine aC 16 11 (bA 17 131071) au ?_
      refine lh (jb au.out (by kernel_rfl)) ?_
      clear hHeld
      have xi := uP.out _ S.out.below
      go_wp2
      clear xi
      have hw1 := HW1.out
      go_wp2
      go_roundg ns.length
      case measure => exact Nat.lt_of_lt_of_le (Nat.lt_succ_self _) kX.out
      case rel => exact ⟨pre ++ [n], ns, o' + n, _, ls', _, _, _, _, _, _, (by rw [List.length_append]; rfl), rfl, (by rw [HWG.out]), (by rw [hw1]), ⟨by rw [List.append_assoc]; exact HE.out⟩, Nat.le_refl _, ⟨by have := HO.out; have := qH.out; have := HN.out; have := HD2.out; simp only [List.length_append, List.length_singleton]; omega⟩, ⟨by rw [show ((pre ++ [n]).length == 0) = false by simp]; exact HG2.out⟩, iI, mY, ⟨S.out.qN.qN.qN.qN⟩⟩
     case neg =>
      have HX := ae.mk (show ax = 2 by have := Be.out; omega)
      obtain ⟨hxa, hxb, hxd⟩ := eqF (a := ax) (b := 1) (by omega)
      clear hx
      have KX := ae.mk (show nC ax (S0 + o') T0 E n = (⟨X, wrap64 (Y + o'), Wd, n⟩ : dF) by have hb := HB.out; have ho := qH.out; have hs := HS2.out HX.out; rw [HX.out, piece2, hs.1, hs.2.1, hs.2.2.2, show wrap64 (Y + o') = Y + o' by rw [hs.1] at hb; unfold wrap64; omega])
      have HG2 := ae.mk (show ng ax S0 T0 D E (o' + n) false (ps ++ [(⟨X, wrap64 (Y + o'), Wd, n⟩ : dF)]) ls' ns = R by rw [← KX.out]; exact RZ.out)
      have xi := uP.out _ S.out.below
      go_wp2
      clear xi
      go_wp2
      refine jL (n := 17) (S := fun w' => St w _ _ _ _ _ w') (ds := [15]) (bA 17 0) (by kernel_rfl) rfl rfl (S.out.gX.call (bC (Below.refl _ _))) (fun hHeld => ?_); refine fP wS.aeV wS.abg (fun au fE => ?_)
      replace S := ae.mk (S.out.call (bC (Below.refl _ _)))
      generalize wy.drew = JY at S hHeld ⊢
      refine aC 0 120 (bA 17 1) au ?_
      refine aC 1 121 (bA 17 3) au ?_
      refine eQ 2 122 (bA 17 7) au fE hHeld ?_ (hv := by intro w' hs_; have bf := (hs_.at dX 0).trans rfl; go_simp; with_reducible rfl)
      refine aC 3 123 (bA 17 15) au ?_
      refine eQ 4 124 (bA 17 31) au fE hHeld ?_ (hv := by intro w' hs_; have bg := (hs_.at dX 1).trans rfl; go_simp; with_reducible rfl)
      refine aC 5 125 (bA 17 63) au ?_
      refine aC 6 126 (bA 17 127) au ?_
      refine aC 7 127 (bA 17 255) au ?_
      refine eQ 8 128 (bA 17 511) au fE hHeld ?_ (hv := by intro w' hs_; have bu := (hs_.at dX 2).trans rfl; go_simp; with_reducible rfl)
      refine aC 9 129 (bA 17 1023) au ?_
      refine aC 10 130 (bA 17 2047) au ?_
      refine aC 11 131 (bA 17 4095) au ?_
      refine eQ 12 132 (bA 17 8191) au fE hHeld ?_ (hv := by intro w' hs_; have xi := uP.out _ hs_.below; go_simp; with_reducible rfl)
      refine aC 13 133 (bA 17 16383) au ?_
      refine lI 14 (some 134) (bA 17 32767) au (fun K hK => ?_)
      refine U9 (w1 := ?_) (v := ?_) (by rfl) rfl ?_ ?_
      rotate_left 2
      ·go_simp
       constructor
       ·rfl
       ·rfl
      refine hK.out _ _ (S.out.gX.call (aW (Below.refl _ _) _)) (fun hHeld => ?_)
      clear hK K
      refine fK 134 ?_
      refine uG 15 (some 135) (bA 17 65535) au (fun K hK => ?_)
      refine LQ k23 23 rfl 120 134 42 _ 32 Try.underlying42 info23 rfl (by decide) (by decide) (by decide) S iI ⟨X, wrap64 (Y + o'), Wd, n⟩ [.int .i64 X, .int .i64 (wrap64 (Y + o')), .int .i64 Wd, .int .i64 n] (fun _ _ _ => qB _ _ _ _) (by have := yx.out; omega) ?_
      clear S iI
      intro KD cp2 NL iq S iI
      refine hK.out _ _ ?_
      clear hK K
      refine fK 135 ?_
      refine aC 16 11 (bA 17 131071) au ?_
      refine lh (jb au.out (by kernel_rfl)) ?_
      clear hHeld
      have xi := uP.out _ S.out.below
      go_wp2
      clear xi
      have hw1 := HW1.out
      go_wp2
      go_roundg ns.length
      case measure => exact Nat.lt_of_lt_of_le (Nat.lt_succ_self _) kX.out
      case rel => exact ⟨pre ++ [n], ns, o' + n, _, ls', _, _, _, _, _, _, (by rw [List.length_append]; rfl), rfl, (by rw [HWG.out]), (by rw [hw1]), ⟨by rw [List.append_assoc]; exact HE.out⟩, Nat.le_refl _, ⟨by have := HO.out; have := qH.out; have := HN.out; have := HD2.out; simp only [List.length_append, List.length_singleton]; omega⟩, ⟨by rw [show ((pre ++ [n]).length == 0) = false by simp]; exact HG2.out⟩, iI, mY, ⟨S.out.qN.qN.qN.qN⟩⟩
theorem WS (c : ai) (hl : c.f3.length ≤ 1000000) (b : Nat) (P : Nat → Prop) (A : Option Addr) (cc : Nat) (w : World) (hv : Kd.V k26 26 w b P (.slice A c.f3.length cc) c.f3) :
  Calls Try.prog 194 #[.agg #[.int .u8 c.f0, .int .i64 c.f1.f0, .int .i64 c.f1.f1, .int .i64 c.f1.f2, .int .i64 c.f1.f3, .int .i64 c.f2, .slice A c.f3.length cc]] w fun e w' => ∃ A' c', e = .returned (.slice A' (jk c).length c') ∧ (Kd.int .i64).R 3 w' w.heap.size (fun _ => True) (.slice A' (jk c).length c') (jk c) ∧ Below w.heap.size w w' := by
 have S := ae.mk (St.start (ts := [(.slice A c.f3.length cc, c.f3)]) (b0 := w.heap.size) (w := w) (P := P) (fun t ht => by rw [List.mem_singleton.1 ht]; exact fC hv))
 have nP := ae.mk hl
 clear hl hv
 obtain ⟨ck, ⟨cx, cy, cw, ch⟩, aV, l⟩ := c
 simp only [] at S nP ⊢
 rw [show jk ⟨ck, ⟨cx, cy, cw, ch⟩, aV, l⟩ = l.map (pU ck) from rfl]
 simp only [List.length_map]
 go_enter Try.func194, Try.ntmps194
 go_wp2_with (first
  | (refine boxS 1 _ 26 S ?_; clear S; intro b1 fH S)
  | (refine dW 5 rfl ?_; refine mQ (Kd.int .i64) 3 rfl 5 S ?_; clear S; intro Ap cp op ik S iI; have jd := (S.out.at dG 6).trans rfl)
  | fail)
 clear jd
 go_loopg [3, 9] l.length (fun gg v3 v9 wr => ∃ (pre rest : List ai) (Ap : Option Addr) (cp : Nat) (op : Obj), v3 = .slice Ap pre.length cp ∧ v9 = .int .i64 (pre.length : Int) ∧ ae (pre ++ rest = l) ∧ rest.length ≤ gg ∧ ae (KR (Kd.int .i64) 3 w.heap.size (.slice Ap pre.length cp) (pre.map (pU ck)) op) ∧ ae (St w P [((Value.slice Ap pre.length cp).ownBlock, op), (some b1, .cells #[.int .u8 ck, .int .i64 cx, .int .i64 cy, .int .i64 cw, .int .i64 ch, .int .i64 aV, .slice A l.length cc] 26 (0, 0))] [] [(.slice A l.length cc, l)] [] wr))
 case atStart => exact ⟨[], l, _, _, _, rfl, rfl, ⟨rfl⟩, Nat.le_refl _, iI, S⟩
 case round =>
  clear S iI
  obtain ⟨pre, rest, Ap, cp, op, rfl, rfl, HE, hgg, iI, S⟩ := hrel
  cases rest with
  | nil =>
   have hE := HE.out
   rw [List.append_nil] at hE
   have hE2 := hE.symm
   subst hE2
   clear hE HE hgg
   have hlt : ¬ ((l.length : Int) < (l.length : Int)) := by omega
   go_wp2
   go_ret
   exact ⟨_, _, rfl, S.out.QY iI.out (.head _), S.out.below⟩
  | cons k rest =>
   have hk : k ∈ l := by rw [← HE.out]; simp
   have hlt : (pre.length : Int) < (l.length : Int) := by rw [← HE.out, List.length_append, List.length_cons]; omega
   have hw1 : wrap64 ((pre.length : Int) + 1) = ((pre ++ [k]).length : Int) := by have := nP.out; rw [List.length_append, List.length_singleton]; unfold wrap64; omega
   have HW1 := ae.mk hw1
   have kX := ae.mk hgg
   have HK := ae.mk hk
   have OI := ae.mk (show pre.length ≤ 1048576 by have := nP.out; omega)
   obtain ⟨kY, ua, uc, ek, S1⟩ := S.out.elem (.head _) (pre.length : Int) (Int.natCast_nonneg _) hlt
   subst ek
   have hrd : aj l (pre.length : Int) = k := by rw [← HE.out]; exact mV pre k rest
   rw [hrd] at S1
   simp only [Int.toNat_natCast] at S1
   replace S := ae.mk S1
   clear S1 hrd hk hgg hw1
   by_cases hk2 : ck = 2
   case pos =>
    have hka : (ck == 2) = true := beq_iff_eq.mpr hk2
    have hkb : decide (ck = 2) = true := decide_eq_true hk2
    have KZ := ae.mk (show (pre ++ [k]).map (pU ck) = pre.map (pU ck) ++ [k.f1.f2] by rw [List.map_append]; exact congrArg (pre.map (pU ck) ++ [·]) (if_pos hk2))
    clear hk2
    have f_ := (S.out.at dG 0).trans rfl
    have jd := (S.out.at dG 6).trans rfl
    have lL := (S.out.cell _ jT).1
    go_wp2_with (first
     | (refine dW 24 rfl ?_; at_builtin; refine t_ (Kd.int .i64) 3 rfl 15 23 41 (.int .i64 0) 8 Try.underlying41 info3 rfl (by decide) (by decide) (by decide) S iI k.f1.f2 [.int .i64 k.f1.f2] (fun _ _ _ => rfl) (by have := OI.out; simp only [List.length_map]; omega) ?_; clear S iI; intro KD cp2 NL iq S iI; clear f_ jd lL)
     | fail)
    have e2 : ((pre.map (pU ck)) ++ [k.f1.f2]).length = (pre ++ [k]).length := by simp
    rw [e2, ← KZ.out] at iI
    rw [e2] at S
    have hw1 := HW1.out
    go_wp2
    go_roundg rest.length
    case measure => exact Nat.lt_of_lt_of_le (Nat.lt_succ_self _) kX.out
    case rel => exact ⟨pre ++ [k], rest, _, _, _, (by rw [List.length_append]; rfl), (by rw [hw1]), ⟨by rw [List.append_assoc]; exact HE.out⟩, Nat.le_refl _, iI, ⟨S.out.uf.uf.eU.bM.bM.bM.bM.bM.bM.bM⟩⟩
   case neg =>
    have hka : (ck == 2) = false := beq_eq_false_iff_ne.mpr hk2
    have hkb : decide (ck = 2) = false := decide_eq_false hk2
    have KZ := ae.mk (show (pre ++ [k]).map (pU ck) = pre.map (pU ck) ++ [k.f1.f3] by rw [List.map_append]; exact congrArg (pre.map (pU ck) ++ [·]) (if_neg hk2))
    clear hk2
    have f_ := (S.out.at dG 0).trans rfl
    have jd := (S.out.at dG 6).trans rfl
    have lM := (S.out.cell _ wG).1
    go_wp2_with (first
     | (refine dW 34 rfl ?_; at_builtin; refine t_ (Kd.int .i64) 3 rfl 25 33 41 (.int .i64 0) 8 Try.underlying41 info3 rfl (by decide) (by decide) (by decide) S iI k.f1.f3 [.int .i64 k.f1.f3] (fun _ _ _ => rfl) (by have := OI.out; simp only [List.length_map]; omega) ?_; clear S iI; intro KD cp2 NL nI S iI; clear f_ jd lM)
     | fail)
    have e2 : ((pre.map (pU ck)) ++ [k.f1.f3]).length = (pre ++ [k]).length := by simp
    rw [e2, ← KZ.out] at iI
    rw [e2] at S
    have hw1 := HW1.out
    go_wp2
    go_roundg rest.length
    case measure => exact Nat.lt_of_lt_of_le (Nat.lt_succ_self _) kX.out
    case rel => exact ⟨pre ++ [k], rest, _, _, _, (by rw [List.length_append]; rfl), (by rw [hw1]), ⟨by rw [List.append_assoc]; exact HE.out⟩, Nat.le_refl _, iI, ⟨S.out.uf.uf.eU.bM.bM.bM.bM.bM.bM.bM⟩⟩
def sV.T3 : Bool × List (List Nat × List Nat) := (true, [([], []), ([0], [0]), ([], []), ([2], [2]), ([3], [3]), ([], []), ([5], [5]), ([1, 4, 6, 6], [1, 4, 6]), ([7], [7]), ([8], [8]), ([8], [8]), ([8], [8]), ([9, 7, 0, 1, 2, 3, 4, 5, 6, 7, 8, 9], [9]), ([10, 12, 0, 1, 2, 3, 4, 5, 6, 7, 8, 9, 10, 12], [10]), ([11, 13, 0, 1, 2, 3, 4, 5, 6, 7, 8, 9, 10, 11, 12, 13], [11])])
def sV.B3 : List Nat := [0, 1, 0, 4, 12, 0, 32, 127, 255, 511, 511, 511, 1023, 6143, 16383]
theorem sV.E8 : iJ .any (opsOf Try.f178 3) = sV.T3 := by kernel_rfl
theorem sV.zO : jm sV.T3.2 sV.B3 = true := by kernel_rfl
def sW.T9 : Bool × List (List Nat × List Nat) := (true, [([], []), ([], []), ([0, 1], [0, 1]), ([2], [2]), ([], []), ([4], [4]), ([], []), ([5, 6], [5, 6]), ([7], [7]), ([8], [8]), ([3, 9], [3, 9])])
def sW.B9 : List Nat := [0, 0, 3, 7, 0, 16, 0, 112, 240, 496, 1023]
theorem sW.adv : iJ .any (opsOf Try.f178 9) = sW.T9 := by kernel_rfl
theorem sW.Xk : jm sW.T9.2 sW.B9 = true := by kernel_rfl
theorem UG (c : ai) (hl : c.f3.length ≤ 1000000) (b : Nat) (P : Nat → Prop) (A : Option Addr) (cc : Nat) (w : World) (hv : Kd.V k26 26 w b P (.slice A c.f3.length cc) c.f3) :
  Calls Try.prog 178 #[.agg #[.int .u8 c.f0, .int .i64 c.f1.f0, .int .i64 c.f1.f1, .int .i64 c.f1.f2, .int .i64 c.f1.f3, .int .i64 c.f2, .slice A c.f3.length cc]] w (Qn w c) := by
 have S := ae.mk (St.start (ts := [(.slice A c.f3.length cc, c.f3)]) (b0 := w.heap.size) (w := w) (P := P) (fun t ht => by rw [List.mem_singleton.1 ht]; exact fC hv))
 have nP := ae.mk hl
 have hsz := fun b P A cc w hv => WS c hl b P A cc w hv
 obtain ⟨T, hT⟩ : ∃ T, T = w_ c := ⟨_, rfl⟩
 have hlen : T.2.2 = true → T.1.length = c.f3.length := fun h => by rw [hT] at h ⊢; rw [(BN h).2.1, MK]; simp [jk]
 have hl2 : T.2.1.length ≤ c.f3.length := by rw [hT]; exact (ML c).2
 have hcut := fun B cb w hi => ac_ c.f1.f0 c.f1.f1 c.f1.f2 c.f1.f3 ((c.f0 - 1) % 256) (jk c) (by simpa [jk] using hl) B cb w hi
 rw [show pY c.f1.f0 c.f1.f1 c.f1.f2 c.f1.f3 ((c.f0 - 1) % 256) (jk c) = T by rw [hT, X9]; rfl] at hcut
 have ho : l7 c = AO c T := by rw [hT]; rfl
 generalize jk c = SL at hsz hcut
 unfold Qn
 generalize l7 c = v at ho ⊢
 clear hT hl hv
 obtain ⟨ck, ⟨cx, cy, cw, ch⟩, aV, l⟩ := c
 obtain ⟨t1, t2, t3⟩ := T
 simp only [AO] at S nP hsz hlen hl2 hcut ho ⊢
 have HZC := ae.mk hsz
 have HL2 := ae.mk hl2
 clear hsz hl2
 by_cases h1 : ck = 1
 case pos =>
  have hv : v = true := by rw [ho, h1]; rfl
  have ha : (ck == 1) = true := beq_iff_eq.mpr h1
  have hb : decide (ck = 1) = true := decide_eq_true h1
  have HL := ae.mk hv
  clear hv h1 ho hcut hlen
  go_enter Try.func178, Try.ntmps178
  go_wp2_with (first | (refine boxS 1 _ 26 S ?_; clear S; intro b1 fH S; have f_ := (S.out.at (.head _) 0).trans rfl) | (refine dW 11 rfl ?_; refine mQ k23 23 rfl 11 S ?_; clear S; intro aka akd akm ik S KT; clear f_))
  go_ret2
  rw [HL.out]
  exact ⟨_, _, _, rfl, fun _ => ⟨[], rfl, Nat.zero_le _, S.out.QY KT.out (.head _)⟩, S.out.below⟩
 have ha : (ck == 1) = false := beq_eq_false_iff_ne.mpr h1
 have hd : decide (ck = 1) = false := decide_eq_false h1
 rw [ha, Bool.false_or] at ho
 clear h1
 cases t3 with
 | false =>
  rw [Bool.false_and] at ho
  have HL := ae.mk ho
  have Fv := ae.mk (fun B cb w hi => MM (hcut B cb w hi))
  clear hcut ho hlen
  go_enter Try.func178, Try.ntmps178
  go_wp2_with ((refine boxS 1 _ 26 S ?_; clear S; intro b1 fH S; have f_ := (S.out.at (.head _) 0).trans rfl))
  clear f_
  refine jL (n := 15) (S := fun w' => St w _ _ _ _ _ w') (ds := []) (bA 15 0) (by kernel_rfl) rfl rfl (S.out.call (bC (Below.refl _ _))) (fun hHeld => ?_); refine fP sV.E8 sV.zO (fun au fE => ?_)
  replace S := ae.mk (S.out.call (bC (Below.refl _ _)))
  generalize fH.drew = wd2 at S hHeld ⊢
  refine aC 0 13 (bA 15 1) au ?_
  refine eQ 1 14 (bA 15 3) au fE hHeld ?_ (hv := by intro w' hs_; have kG := (hs_.at (.head _) 1).trans rfl; have kH := (hs_.at (.head _) 2).trans rfl; have kJ := (hs_.at (.head _) 3).trans rfl; have kK := (hs_.at (.head _) 4).trans rfl; go_simp; with_reducible rfl)
  refine aC 2 15 (bA 15 7) au ?_
  refine eQ 3 16 (bA 15 15) au fE hHeld ?_ (hv := by intro w' hs_; have f_ := (hs_.at (.head _) 0).trans rfl; go_simp; with_reducible rfl)
  refine aC 4 17 (bA 15 31) au ?_
  refine eQ 5 18 (bA 15 63) au fE hHeld ?_ (hv := by intro w' hs_; have f_ := (hs_.at (.head _) 0).trans rfl; have kG := (hs_.at (.head _) 1).trans rfl; have kH := (hs_.at (.head _) 2).trans rfl; have kJ := (hs_.at (.head _) 3).trans rfl; have kK := (hs_.at (.head _) 4).trans rfl; have mg := (hs_.at (.head _) 5).trans rfl; have jd := (hs_.at (.head _) 6).trans rfl; go_simp; with_reducible rfl)
  refine lI 6 (some 19) (bA 15 127) au (fun K hK => ?_)
  refine zZ Try.func194 (by kernel_rfl) rfl #[.agg #[.int .u8 ck, .int .i64 cx, .int .i64 cy, .int .i64 cw, .int .i64 ch, .int .i64 aV, .slice A l.length cc]] (by rfl) rfl rfl (by (try simp only [List.map_toArray, List.map_cons, List.map_nil]); rfl) ?_
  refine (HZC.out _ _ _ _ _ (S.out.tree _ (.head _))).mono ?_
  rintro e iq ⟨As, cs, rfl, h1, hb⟩
  refine ⟨_, rfl, ?_⟩
  obtain ⟨os, S1, hI⟩ := S.out.Rj (d := Kd.int .i64) (e := 3) rfl h1 hb
  replace S := ae.mk S1
  have HKs := ae.mk hI
  clear S1 hI h1 hb
  refine hK.out _ _ S.out.gX (fun hHeld => ?_)
  clear hK K
  refine fK 19 ?_
  refine lI 7 (some 20) (bA 15 255) au (fun K hK => ?_)
  refine zZ Try.func46 (by kernel_rfl) rfl #[.agg #[.int .i64 cx, .int .i64 cy, .int .i64 cw, .int .i64 ch], .int .u8 ((ck - 1) % 256), .slice As SL.length cs] (by rfl) rfl rfl (by (try simp only [List.map_toArray, List.map_cons, List.map_nil]); rfl) ?_
  refine (Fv.out _ _ _ (Kd.fD (K_ HKs.out S.out (.head _))).2.2).mono ?_
  rintro e nI ⟨Ap, np, cp, Aq, nq, cq, rfl, hb⟩
  refine ⟨_, rfl, ?_⟩
  replace S := ae.mk (S.out.call hb)
  clear hb
  refine hK.out _ _ S.out.gX (fun hHeld => ?_)
  clear hK K
  refine fK 20 ?_
  refine aC 8 12 (bA 15 511) au ?_
  refine aC 9 21 (bA 15 1023) au ?_
  refine aC 10 22 (bA 15 2047) au ?_
  refine aC 11 23 (bA 15 4095) au ?_
  refine aC 12 4 (bA 15 8191) au ?_
  refine aC 13 5 (bA 15 16383) au ?_
  refine aC 14 6 (bA 15 32767) au ?_
  refine lh (jb au.out (by kernel_rfl)) ?_
  clear hHeld
  go_wp2
  go_ret2
  rw [HL.out]
  exact ⟨_, _, _, rfl, (fun h => by cases h), S.out.below⟩
 | true =>
  replace hlen := hlen rfl
  rw [Bool.true_and, show (l.length == t1.length) = true from beq_iff_eq.mpr hlen.symm, Bool.true_and] at ho
  have HL := ae.mk ho
  have yx := ae.mk hlen
  have Fv := ae.mk (fun B cb w hi => O1 (hcut B cb w hi))
  clear hcut ho hlen
  go_enter Try.func178, Try.ntmps178
  go_wp2_with ((refine boxS 1 _ 26 S ?_; clear S; intro b1 fH S; have f_ := (S.out.at (.head _) 0).trans rfl))
  clear f_
  refine jL (n := 15) (S := fun w' => St w _ _ _ _ _ w') (ds := []) (bA 15 0) (by kernel_rfl) rfl rfl (S.out.call (bC (Below.refl _ _))) (fun hHeld => ?_); refine fP sV.E8 sV.zO (fun au fE => ?_)
  replace S := ae.mk (S.out.call (bC (Below.refl _ _)))
  generalize fH.drew = wd2 at S hHeld ⊢
  refine aC 0 13 (bA 15 1) au ?_
  refine eQ 1 14 (bA 15 3) au fE hHeld ?_ (hv := by intro w' hs_; have kG := (hs_.at (.head _) 1).trans rfl; have kH := (hs_.at (.head _) 2).trans rfl; have kJ := (hs_.at (.head _) 3).trans rfl; have kK := (hs_.at (.head _) 4).trans rfl; go_simp; with_reducible rfl)
  refine aC 2 15 (bA 15 7) au ?_
  refine eQ 3 16 (bA 15 15) au fE hHeld ?_ (hv := by intro w' hs_; have f_ := (hs_.at (.head _) 0).trans rfl; go_simp; with_reducible rfl)
  refine aC 4 17 (bA 15 31) au ?_
  refine eQ 5 18 (bA 15 63) au fE hHeld ?_ (hv := by intro w' hs_; have f_ := (hs_.at (.head _) 0).trans rfl; have kG := (hs_.at (.head _) 1).trans rfl; have kH := (hs_.at (.head _) 2).trans rfl; have kJ := (hs_.at (.head _) 3).trans rfl; have kK := (hs_.at (.head _) 4).trans rfl; have mg := (hs_.at (.head _) 5).trans rfl; have jd := (hs_.at (.head _) 6).trans rfl; go_simp; with_reducible rfl)
  refine lI 6 (some 19) (bA 15 127) au (fun K hK => ?_)
  refine zZ Try.func194 (by kernel_rfl) rfl #[.agg #[.int .u8 ck, .int .i64 cx, .int .i64 cy, .int .i64 cw, .int .i64 ch, .int .i64 aV, .slice A l.length cc]] (by rfl) rfl rfl (by (try simp only [List.map_toArray, List.map_cons, List.map_nil]); rfl) ?_
  refine (HZC.out _ _ _ _ _ (S.out.tree _ (.head _))).mono ?_
  rintro e iq ⟨As, cs, rfl, h1, hb⟩
  refine ⟨_, rfl, ?_⟩
  obtain ⟨os, S1, hI⟩ := S.out.Rj (d := Kd.int .i64) (e := 3) rfl h1 hb
  replace S := ae.mk S1
  have HKs := ae.mk hI
  clear S1 hI h1 hb
  refine hK.out _ _ S.out.gX (fun hHeld => ?_)
  clear hK K
  refine fK 19 ?_
  refine lI 7 (some 20) (bA 15 255) au (fun K hK => ?_)
  refine zZ Try.func46 (by kernel_rfl) rfl #[.agg #[.int .i64 cx, .int .i64 cy, .int .i64 cw, .int .i64 ch], .int .u8 ((ck - 1) % 256), .slice As SL.length cs] (by rfl) rfl rfl (by (try simp only [List.map_toArray, List.map_cons, List.map_nil]); rfl) ?_
  refine (Fv.out _ _ _ (Kd.fD (K_ HKs.out S.out (.head _))).2.2).mono ?_
  rintro e nI ⟨Ap, cp, Aq, cq, op, oq, rfl, h1, hb⟩
  refine ⟨_, rfl, ?_⟩
  obtain ⟨S1, hp, hq⟩ := S.out.two h1 hb
  replace S := ae.mk S1
  have iI := ae.mk hp
  have mY := ae.mk hq
  clear S1 hp hq h1 hb
  refine hK.out _ _ S.out.gX.gX.gX (fun hHeld => ?_)
  clear hK K
  refine fK 20 ?_
  refine aC 8 12 (bA 15 511) au ?_
  refine aC 9 21 (bA 15 1023) au ?_
  refine aC 10 22 (bA 15 2047) au ?_
  refine aC 11 23 (bA 15 4095) au ?_
  refine aC 12 4 (bA 15 8191) au ?_
  refine aC 13 5 (bA 15 16383) au ?_
  refine aC 14 6 (bA 15 32767) au ?_
  refine lh (jb au.out (by kernel_rfl)) ?_
  clear hHeld
  go_wp2
  clear ha hd
  go_loopg [29] t1.length (fun gg v29 wr => ∃ (pre rest : List dF) (pb rb : List ai), v29 = .int .i64 (pre.length : Int) ∧ ae (pre ++ rest = t1) ∧ ae (pb ++ rb = l) ∧ ae (pb.length = pre.length) ∧ ae (rD (fun k r => qh k.f1 r) pb pre = true) ∧ rest.length ≤ gg ∧ ae (St w P [((Value.slice Ap t1.length cp).ownBlock, op), ((Value.slice Aq t2.length cq).ownBlock, oq), ((Value.slice As SL.length cs).ownBlock, os), (some b1, .cells #[.int .u8 ck, .int .i64 cx, .int .i64 cy, .int .i64 cw, .int .i64 ch, .int .i64 aV, .slice A l.length cc] 26 (0, 0))] [] [(.slice A l.length cc, l)] [] wr))
  case atStart => exact ⟨[], t1, [], l, rfl, ⟨rfl⟩, ⟨rfl⟩, ⟨rfl⟩, ⟨Ij _ _⟩, Nat.le_refl _, S⟩
  case round =>
   clear S
   obtain ⟨pre, rest, pb, rb, rfl, HE, HE2, D5, HSM, hgg, S⟩ := hrel
   have hlr : rb.length = rest.length := by have h1 := congrArg List.length HE.out; have h2 := congrArg List.length HE2.out; rw [List.length_append] at h1 h2; have := D5.out; have := yx.out; omega
   cases rest with
   | nil =>
    have hrb := List.eq_nil_of_length_eq_zero hlr
    subst hrb
    have hE := HE.out
    rw [List.append_nil] at hE
    have hE3 := HE2.out
    rw [List.append_nil] at hE3
    have HV := ae.mk (show v = true by rw [HL.out, ← hE, ← hE3]; exact HSM.out)
    have hlt : ¬ ((pre.length : Int) < (t1.length : Int)) := by rw [hE]; omega
    have acN : ¬ (pre.length < t1.length) := by omega
    clear HE HE2 hgg hlr hE hE3
    go_wp2
    go_ret2
    rw [HV.out]
    exact ⟨_, _, _, rfl, fun _ => ⟨t2, rfl, HL2.out, S.out.QY mY.out dG⟩, S.out.below⟩
   | cons r rest =>
    cases rb with
    | nil => simp at hlr
    | cons k rb =>
     have hlt : (pre.length : Int) < (t1.length : Int) := by rw [← HE.out, List.length_append, List.length_cons]; omega
     have hlt2 : (pb.length : Int) < (l.length : Int) := by rw [← HE2.out, List.length_append, List.length_cons]; omega
     have hlt3 : pre.length < l.length := by have := D5.out; omega
     have acN : pre.length < t1.length := by omega
     have hlt4 : (pre.length : Int) < (l.length : Int) := by omega
     have hw1 : wrap64 ((pre.length : Int) + 1) = ((pre ++ [r]).length : Int) := by have := nP.out; have := yx.out; rw [List.length_append, List.length_singleton]; unfold wrap64; omega
     have HW1 := ae.mk hw1
     have kX := ae.mk hgg
     obtain ⟨kY, ua, uc, ek, S1⟩ := S.out.elem (.head _) (pb.length : Int) (Int.natCast_nonneg _) hlt2
     subst ek
     have hrd : aj l (pb.length : Int) = k := by rw [← HE2.out]; exact mV pb k rb
     rw [hrd] at S1
     simp only [Int.toNat_natCast] at S1
     rw [D5.out] at S1
     replace S := ae.mk S1
     obtain ⟨adp, ep, hel⟩ := aa1 iI.out (S.out.blk _ (.head _)) pre rest r HE.out
     subst ep
     have Fz := ae.mk hel
     clear S1 hrd hgg hw1 hlr hel hlt2
     cases hq : qh k.f1 r with
     | false =>
      have HQ := ae.mk hq
      have HV := ae.mk (show v = false by rw [HL.out, ← HE.out, ← HE2.out, O6 D5.out, HSM.out]; simp [rD, hq])
      clear hq
      go_wp2
      refine jL (n := 11) (S := fun w' => St w _ _ _ _ _ w') (ds := []) (bA 11 0) (by kernel_rfl) rfl rfl (S.out.call (bC (Below.refl _ _))) (fun hHeld => ?_); refine fP sW.adv sW.Xk (fun au fE => ?_)
      replace S := ae.mk (S.out.call (bC (Below.refl _ _)))
      generalize wr.drew = JY at S hHeld ⊢
      refine aC 0 32 (bA 11 1) au ?_
      refine aC 1 33 (bA 11 3) au ?_
      refine aC 2 34 (bA 11 7) au ?_
      refine eQ 3 35 (bA 11 15) au fE hHeld ?_ (hv := by intro w' hs_; have xp0 := (Fz.out _ (hs_.blk _ (.head _))).1; have xp1 := (Fz.out _ (hs_.blk _ (.head _))).2.1; have xp2 := (Fz.out _ (hs_.blk _ (.head _))).2.2.1; have xp3 := (Fz.out _ (hs_.blk _ (.head _))).2.2.2; go_simp; with_reducible rfl)
      refine aC 4 36 (bA 11 31) au ?_
      refine eQ 5 37 (bA 11 63) au fE hHeld ?_ (hv := by intro w' hs_; have jd := (hs_.at jT 6).trans rfl; go_simp; with_reducible rfl)
      refine aC 6 38 (bA 11 127) au ?_
      refine aC 7 39 (bA 11 255) au ?_
      refine aC 8 40 (bA 11 511) au ?_
      refine eQ 9 41 (bA 11 1023) au fE hHeld ?_ (hv := by intro w' hs_; have lX := (hs_.cell _ dG).1; have lY := (hs_.cell _ dX).1; have lL := (hs_.cell _ jT).1; have lM := (hs_.cell _ wG).1; go_simp; with_reducible rfl)
      refine eQ 10 42 (bA 11 2047) au fE hHeld ?_ (hv := by intro w' hs_; go_simp; exact ac2 HQ.out _ _)
      refine lh (jb au.out (by kernel_rfl)) ?_
      clear hHeld
      go_wp2_with ((refine dW 43 rfl ?_; refine mQ k23 23 rfl 43 S ?_; clear S; intro akb ake akn ik S KT))
      go_ret2
      rw [HV.out]
      exact ⟨_, _, _, rfl, (fun h => by cases h), S.out.below⟩
     | true =>
      have HEQ := ae.mk (show rD (fun k r => qh k.f1 r) (pb ++ [k]) (pre ++ [r]) = true by rw [O6 D5.out, HSM.out]; simp [rD, hq])
      obtain ⟨q0, q1, q2, q3⟩ := r
      unfold qh at hq
      simp only [Bool.and_eq_true, beq_iff_eq] at hq
      obtain ⟨e0, e1, e2, e3⟩ := hq
      subst e0 e1 e2 e3
      simp only [] at Fz
      go_wp2
      refine jL (n := 11) (S := fun w' => St w _ _ _ _ _ w') (ds := []) (bA 11 0) (by kernel_rfl) rfl rfl (S.out.call (bC (Below.refl _ _))) (fun hHeld => ?_); refine fP sW.adv sW.Xk (fun au fE => ?_)
      replace S := ae.mk (S.out.call (bC (Below.refl _ _)))
      generalize wr.drew = JY at S hHeld ⊢
      refine aC 0 32 (bA 11 1) au ?_
      refine aC 1 33 (bA 11 3) au ?_
      refine aC 2 34 (bA 11 7) au ?_
      refine eQ 3 35 (bA 11 15) au fE hHeld ?_ (hv := by intro w' hs_; have xp0 := (Fz.out _ (hs_.blk _ (.head _))).1; have xp1 := (Fz.out _ (hs_.blk _ (.head _))).2.1; have xp2 := (Fz.out _ (hs_.blk _ (.head _))).2.2.1; have xp3 := (Fz.out _ (hs_.blk _ (.head _))).2.2.2; go_simp; with_reducible rfl)
      refine aC 4 36 (bA 11 31) au ?_
      refine eQ 5 37 (bA 11 63) au fE hHeld ?_ (hv := by intro w' hs_; have jd := (hs_.at jT 6).trans rfl; go_simp; with_reducible rfl)
      refine aC 6 38 (bA 11 127) au ?_
      refine aC 7 39 (bA 11 255) au ?_
      refine aC 8 40 (bA 11 511) au ?_
      refine eQ 9 41 (bA 11 1023) au fE hHeld ?_ (hv := by intro w' hs_; have lX := (hs_.cell _ dG).1; have lY := (hs_.cell _ dX).1; have lL := (hs_.cell _ jT).1; have lM := (hs_.cell _ wG).1; go_simp; with_reducible rfl)
      refine aC 10 42 (bA 11 2047) au ?_
      refine lh (jb au.out (by kernel_rfl)) ?_
      clear hHeld
      go_wp2
      have hw1 := HW1.out
      go_wp2
      go_roundg rest.length
      case measure => exact Nat.lt_of_lt_of_le (Nat.lt_succ_self _) kX.out
      case rel => exact ⟨pre ++ [_], rest, pb ++ [k], rb, (by rw [hw1]), ⟨by rw [List.append_assoc]; exact HE.out⟩, ⟨by rw [List.append_assoc]; exact HE2.out⟩, ⟨by rw [List.length_append, List.length_append, D5.out]; rfl⟩, HEQ, Nat.le_refl _, ⟨S.out.eU.bM.bM.bM.bM.bM.bM.bM⟩⟩
def lC (c : ai) : Bool := jX c.f1 && decide (1 ≤ c.f0 ∧ c.f0 ≤ 3) && decide (c.f0 = 1 → c.f3.length = 0 ∧ 0 ≤ c.f2 ∧ c.f2 ≤ 2147483647) && decide (c.f0 > 1 → 2 ≤ c.f3.length ∧ c.f2 = 0)
def dH : List ai → Bool
 | [] => true
 | x :: xs => (xs.all fun y => decide (y.f2 ≠ x.f2)) && dH xs
def nT (pre : List ai) (x : ai) : Bool := pre.all fun y => decide (x.f2 ≠ y.f2)
theorem qw (pre : List ai) (x : ai) : dH (pre ++ [x]) = (dH pre && nT pre x) := by
 induction pre with
 | nil => simp [dH, nT]
 | cons y ys ih =>
  have : (decide (x.f2 ≠ y.f2)) = decide (¬ x.f2 = y.f2) := rfl
  simp only [List.cons_append, dH, ih, nT, List.all_append, List.all_cons, List.all_nil, Bool.and_true]
  cases (ys.all fun z => decide (z.f2 ≠ y.f2)) <;> cases (decide (x.f2 ≠ y.f2)) <;> cases dH ys <;> cases (ys.all fun z => decide (x.f2 ≠ z.f2)) <;> rfl
theorem xe : ∀ (pre rest : List ai), dH pre = false → dH (pre ++ rest) = false := by
 intro pre rest h
 induction rest generalizing pre with
 | nil => rw [List.append_nil]; exact h
 | cons x xs ih =>
  have := ih (pre ++ [x]) (by rw [qw, h, Bool.false_and])
  rwa [List.append_assoc] at this
def kD (c : ai) : Bool := decide (sz c ≤ 20000) && ((dZ c).all lC && dH (jc c))
end Go.Proofs.Ytfdmfgaiblfbhaa.P
