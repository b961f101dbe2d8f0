/- SplitIs: part 3 of 6 of this claim's texts, one behind the other, made small by a program: the words of the kit's printer cut down to those that are used, the claim's own names made short. -/
import Derived.Test.YtfdmfgaiblfbhaaProg
import Derived.Below
import Derived.Deep.Draws
import Derived.Deep.AppendLies
import Derived.Maps.AppendAt
import Derived.OwnWalk
import Derived.Laws.BytesArg
import Derived.Laws.MakeOwn
import Derived.Laws.OwnMore
import Derived.Deep.OwnRows
import Derived.Tactics
import Derived.Lib.ConvBytes
import Derived.Laws.Slices
import Derived.WalkKit
import Derived.KernelRfl
import Derived.RowKit3
import Derived.Deep.LoopGhost
import Derived.Deep.QuietTactic
import Derived.BigQuiet
import Derived.WideLaws
import Derived.Deep.DeepCutAuto
import Derived.Deep.CutBlock
import Derived.Deep.RegionHeld3
import Derived.Laws.Rows
import Derived.Lib.AppendStr
import Derived.ArgAppend
import Derived.Laws.IdiomCopy
import Derived.OrdersHeld
import Derived.Laws.BitsLemmas
import Derived.RowKit
import Derived.Test.YtfdmfgaiblfbhaaMSplitIsa
import Derived.Test.YtfdmfgaiblfbhaaMSplitIsb
import Derived.Shelf.Spec.SlicesInsert
import Derived.Shelf.Spec.SlicesInsertGrow
import Derived.Lib.Hide
set_option maxHeartbeats 8000000
set_option maxRecDepth 100000
set_option linter.unusedVariables false
set_option linter.unusedSimpArgs false
namespace Go.Proofs.Ytfdmfgaiblfbhaa.P
open Go.RowKit Go.Proofs.ag.aA Go.Proofs.ag.bg Go.Proofs.ag.bG
attribute [local go_sem] jD jQ kM kV jo jq kC kD
def adH : Option Int → Value
 | none => .nilIface
 | some c => .iface 0 (.int .i64 c)
theorem mJ : adH none = .nilIface := rfl
theorem mM (c : Int) : adH (some c) = .iface 0 (.int .i64 c) := rfl
theorem info3 : (Try.prog.info? 3).map (fun i => (i.zero, i.size, i.bytes)) = some (some (.int .i64 0), 1, 8) := by kernel_rfl
theorem info23 : (Try.prog.info? 23).map (fun i => (i.zero, i.size, i.bytes)) = some (some (.agg #[(.int .i64 0), (.int .i64 0), (.int .i64 0), (.int .i64 0)]), 4, 32) := by kernel_rfl
theorem info26 : (Try.prog.info? 26).map (fun i => (i.zero, i.size, i.bytes)) = some (some (.agg #[(.int .u8 0), (.int .i64 0), (.int .i64 0), (.int .i64 0), (.int .i64 0), (.int .i64 0), (.slice none 0 0)]), 7, 72) := by kernel_rfl
structure dK where
 f0 : Int
 f1 : Int
 f2 : Int
 f3 : Int
def z23 : dK := ⟨(0 : Int), (0 : Int), (0 : Int), (0 : Int)⟩
def k23 : Kd dK := Kd.VN (Kd.pair (Kd.int .i64) (Kd.pair (Kd.int .i64) (Kd.pair (Kd.int .i64) (Kd.int .i64)))) (fun x : dK => (x.f0, x.f1, x.f2, x.f3))
theorem XT : Kd.Heap k23 := Kd.OQ _ (Kd.vP (Kd.xu .i64) (Kd.vP (Kd.xu .i64) (Kd.vP (Kd.xu .i64) (Kd.xu .i64))))
theorem GV {w : World} {x : dK} {cs : List Value} (h : k23.K w x cs) : cs = [.int .i64 x.f0, .int .i64 x.f1, .int .i64 x.f2, .int .i64 x.f3] := by
 obtain ⟨_, _, rfl, rfl, ⟨_, _, rfl, rfl, ⟨_, _, rfl, rfl, rfl⟩⟩⟩ := h
 exact rfl
theorem O7 (w : World) (x : dK)  : k23.K w x [.int .i64 x.f0, .int .i64 x.f1, .int .i64 x.f2, .int .i64 x.f3] := ⟨[.int .i64 x.f0], [.int .i64 x.f1, .int .i64 x.f2, .int .i64 x.f3], rfl, rfl, ⟨[.int .i64 x.f1], [.int .i64 x.f2, .int .i64 x.f3], rfl, rfl, ⟨[.int .i64 x.f2], [.int .i64 x.f3], rfl, rfl, rfl⟩⟩⟩
theorem rO (w : World) (base : Nat) (ok : Nat → Prop) (x : dK)  : k23.M w base ok x [.int .i64 x.f0, .int .i64 x.f1, .int .i64 x.f2, .int .i64 x.f3] := ⟨[.int .i64 x.f0], [.int .i64 x.f1, .int .i64 x.f2, .int .i64 x.f3], rfl, rfl, ⟨[.int .i64 x.f1], [.int .i64 x.f2, .int .i64 x.f3], rfl, rfl, ⟨[.int .i64 x.f2], [.int .i64 x.f3], rfl, rfl, rfl⟩⟩⟩
def qE (xs : List dK) (i : Int) : dK := xs.getD i.toNat z23
theorem N9 {w : World} {A : Option Addr} {n : Nat} {xs : List dK} (h : Kd.C k23 w A n xs) (i : Int) (h0 : 0 ≤ i) (h1 : i < n) : ∃ ad , A = some ad ∧ w.cell? (ad.add (i.toNat * 4)) = some (.int .i64 (qE xs i).f0) ∧ w.cell? ⟨(ad.add (i.toNat * 4)).block, (ad.add (i.toNat * 4)).off + 1, none⟩ = some (.int .i64 (qE xs i).f1) ∧ w.cell? ⟨(ad.add (i.toNat * 4)).block, (ad.add (i.toNat * 4)).off + 2, none⟩ = some (.int .i64 (qE xs i).f2) ∧ w.cell? ⟨(ad.add (i.toNat * 4)).block, (ad.add (i.toNat * 4)).off + 3, none⟩ = some (.int .i64 (qE xs i).f3) := by
 obtain ⟨ad, c, e, _, hK, hc0⟩ := Kd.Hz h z23 i h0 h1
 have hc : ∀ j u, c[j]? = some u → w.cell? (ad.add (i.toNat * 4 + j)) = some u := hc0
 obtain rfl := GV hK
 exact ⟨ad, e, hc 0 _ rfl, by rw [← kR _ _ 1 (by omega)]; exact hc 1 _ rfl, by rw [← kR _ _ 2 (by omega)]; exact hc 2 _ rfl, by rw [← kR _ _ 3 (by omega)]; exact hc 3 _ rfl⟩
structure ai where
 f0 : Int
 f1 : dK
 f2 : Int
 f3 : (List ai)
def z26 : ai := ⟨(0 : Int), z23, (0 : Int), ([] : List ai)⟩
def Qe (d : Kd ai) : Kd ai := Kd.VN (Kd.pair (Kd.int .u8) (Kd.pair k23 (Kd.pair (Kd.int .i64) (Kd.slice 26 d)))) (fun x : ai => (x.f0, x.f1, x.f2, x.f3))
theorem Ph : Kd.wo Qe := Kd.XZ _ (Kd.Ey (Kd.CY _) (Kd.Ey (Kd.CY _) (Kd.Ey (Kd.CY _) (Kd.Tt 26 Kd.abr))))
theorem agJ : Kd.Sub Qe [26] := Kd.abI _ (Kd.Ho (Kd.sub_const _ (by decide)) (Kd.Ho (Kd.sub_const _ (by decide)) (Kd.Ho (Kd.sub_const _ (by decide)) (Kd.WE 26 (by decide) Kd.afl))))
theorem TN : ∀ n, (Kd.upto Qe 7 [26] n).sz = 7 := Kd.abR (fun _ => rfl)
def k26 : Kd ai := Kd.fix Qe 7 [26] TN (Kd.WM agJ)
theorem sW : Kd.Heap k26 := Kd.XJ (fun _ h_ => Kd.OQ _ (Kd.vP (Kd.xu .u8) (Kd.vP XT (Kd.vP (Kd.xu .i64) (Kd.SS 26 h_)))))
theorem CV {w : World} {x : ai} {cs : List Value} (h : k26.K w x cs) : ∃ A6 c6, cs = [.int .u8 x.f0, .int .i64 x.f1.f0, .int .i64 x.f1.f1, .int .i64 x.f1.f2, .int .i64 x.f1.f3, .int .i64 x.f2, .slice A6 x.f3.length c6] ∧ x.f3.length ≤ c6 ∧ k26.C w A6 x.f3.length x.f3 := by
 obtain ⟨n, h⟩ := h
 cases n with
 | zero => exact h.elim
 | succ n =>
  obtain ⟨_, _, rfl, rfl, ⟨_, _, rfl, s1, ⟨_, _, rfl, rfl, ⟨A6, c6, rfl, l6, g6⟩⟩⟩⟩ := h
  obtain rfl := GV s1
  exact ⟨A6, c6, rfl, l6, Kd.agl g6⟩
theorem aeS (w : World) (x : ai) {A6 : Option Addr} {c6 : Nat} (l6 : x.f3.length ≤ c6) (g6 : k26.C w A6 x.f3.length x.f3) : k26.K w x [.int .u8 x.f0, .int .i64 x.f1.f0, .int .i64 x.f1.f1, .int .i64 x.f1.f2, .int .i64 x.f1.f3, .int .i64 x.f2, .slice A6 x.f3.length c6] := by
 obtain ⟨n6, q6⟩ := Kd.SA Ph g6
 have r6 := Kd.WL Ph TN (show n6 ≤ n6 by omega) q6
 exact ⟨n6 + 1, ⟨[.int .u8 x.f0], [.int .i64 x.f1.f0, .int .i64 x.f1.f1, .int .i64 x.f1.f2, .int .i64 x.f1.f3, .int .i64 x.f2, .slice A6 x.f3.length c6], rfl, rfl, ⟨[.int .i64 x.f1.f0, .int .i64 x.f1.f1, .int .i64 x.f1.f2, .int .i64 x.f1.f3], [.int .i64 x.f2, .slice A6 x.f3.length c6], rfl, (O7 w x.f1 ), ⟨[.int .i64 x.f2], [.slice A6 x.f3.length c6], rfl, rfl, ⟨A6, c6, rfl, l6, r6⟩⟩⟩⟩⟩
theorem oC {W : World} {ok : Nat → Prop} {x : ai} {cs : List Value} (h : Kd.FK k26 W ok x cs) : ∃ A6 c6, cs = [.int .u8 x.f0, .int .i64 x.f1.f0, .int .i64 x.f1.f1, .int .i64 x.f1.f2, .int .i64 x.f1.f3, .int .i64 x.f2, .slice A6 x.f3.length c6] ∧ x.f3.length ≤ c6 ∧ Kd.F k26 W ok A6 x.f3.length x.f3 := by
 obtain ⟨A6, c6, rfl, l6, _⟩ := CV (Kd.nO h)
 exact ⟨A6, c6, rfl, l6, (fun W' hW => by obtain ⟨A6_, c6_, he, l6_, g6_⟩ := CV (h W' hW); injection (Option.some.inj (show some (Value.slice A6 x.f3.length c6) = some (Value.slice A6_ x.f3.length c6_) from congrArg (fun l => l[6]?) he)) with ha_ _ _; rw [ha_]; exact g6_)⟩
theorem nH (W : World) (ok : Nat → Prop) (x : ai) {A6 : Option Addr} {c6 : Nat} (l6 : x.f3.length ≤ c6) (g6 : Kd.F k26 W ok A6 x.f3.length x.f3) : Kd.FK k26 W ok x [.int .u8 x.f0, .int .i64 x.f1.f0, .int .i64 x.f1.f1, .int .i64 x.f1.f2, .int .i64 x.f1.f3, .int .i64 x.f2, .slice A6 x.f3.length c6] := fun W2 hW => aeS W2 x l6 (g6 W2 hW)
def aj (xs : List ai) (i : Int) : ai := xs.getD i.toNat z26
theorem pG {w : World} {A : Option Addr} {n : Nat} {xs : List ai} (h : Kd.C k26 w A n xs) (i : Int) (h0 : 0 ≤ i) (h1 : i < n) : ∃ ad A6 c6, A = some ad ∧ w.cell? (ad.add (i.toNat * 7)) = some (.int .u8 (aj xs i).f0) ∧ w.cell? ⟨(ad.add (i.toNat * 7)).block, (ad.add (i.toNat * 7)).off + 1, none⟩ = some (.int .i64 (aj xs i).f1.f0) ∧ w.cell? ⟨(ad.add (i.toNat * 7)).block, (ad.add (i.toNat * 7)).off + 2, none⟩ = some (.int .i64 (aj xs i).f1.f1) ∧ w.cell? ⟨(ad.add (i.toNat * 7)).block, (ad.add (i.toNat * 7)).off + 3, none⟩ = some (.int .i64 (aj xs i).f1.f2) ∧ w.cell? ⟨(ad.add (i.toNat * 7)).block, (ad.add (i.toNat * 7)).off + 4, none⟩ = some (.int .i64 (aj xs i).f1.f3) ∧ w.cell? ⟨(ad.add (i.toNat * 7)).block, (ad.add (i.toNat * 7)).off + 5, none⟩ = some (.int .i64 (aj xs i).f2) ∧ w.cell? ⟨(ad.add (i.toNat * 7)).block, (ad.add (i.toNat * 7)).off + 6, none⟩ = some (.slice A6 (aj xs i).f3.length c6) ∧ (aj xs i).f3.length ≤ c6 ∧ k26.C w A6 (aj xs i).f3.length (aj xs i).f3 := by
 obtain ⟨ad, c, e, _, hK, hc0⟩ := Kd.Hz h z26 i h0 h1
 have hc : ∀ j u, c[j]? = some u → w.cell? (ad.add (i.toNat * 7 + j)) = some u := hc0
 obtain ⟨A6, c6, rfl, l6, g6⟩ := CV hK
 exact ⟨ad, A6, c6, e, hc 0 _ rfl, by rw [← kR _ _ 1 (by omega)]; exact hc 1 _ rfl, by rw [← kR _ _ 2 (by omega)]; exact hc 2 _ rfl, by rw [← kR _ _ 3 (by omega)]; exact hc 3 _ rfl, by rw [← kR _ _ 4 (by omega)]; exact hc 4 _ rfl, by rw [← kR _ _ 5 (by omega)]; exact hc 5 _ rfl, by rw [← kR _ _ 6 (by omega)]; exact hc 6 _ rfl, l6, g6⟩
structure S35 where
 f0 : Int
 f1 : dK
end Go.Proofs.Ytfdmfgaiblfbhaa.P
namespace Go.Proofs.Ytfdmfgaiblfbhaa.P
open Go.Shelf
def FP : Ren := ⟨fun f => match f with | 21 => 150 | 27 => 181 | 28 => 182 | 35 => 198 | 39 => 208 | n => n, fun t => match t with | 22 => 41 | n => n, fun g => g⟩
theorem IP : Lays2.n21 Try.prog FP where
 mixed := by kernel_rfl
 f21 := Try.func150
 f27 := Try.func181
 f28 := Try.func182
 f35 := Try.func198
 f39 := Try.func208
 t0 := Try.underlying0
 a0 := fun w => by kernel_rfl
 z0 := fun w => by kernel_rfl
 v0 := fun w => by kernel_rfl
 t3 := Try.underlying3
 a3 := fun w => by kernel_rfl
 z3 := fun w => by kernel_rfl
 v3 := fun w => by kernel_rfl
 t4 := Try.underlying4
 a4 := fun w => by kernel_rfl
 z4 := fun w => by kernel_rfl
 v4 := fun w => by kernel_rfl
 t22 := Try.underlying41
 a22 := fun w => by kernel_rfl
 z22 := fun w => by kernel_rfl
 v22 := fun w => by kernel_rfl
 i3 := by kernel_rfl
end Go.Proofs.Ytfdmfgaiblfbhaa.P
namespace Go.Proofs.Ytfdmfgaiblfbhaa.P
open Go.RowKit Go.Proofs.ag.aA Go.Proofs.ag.bg Go.Proofs.ag.bG
section
variable {P : Program} {ops : Array Oper} {rest : List Oper} {o : Oper} {a : Act} {Q : Exit → Act → World → Prop}
theorem grown_below {w0 W w1 : World} {g base : Nat} (HB : Below base w0 W) (hg : W.grownBy w1 (some g)) (hbg : base ≤ g) (hs : base ≤ W.heap.size) : Below base w0 w1 := HB.trans ⟨hg.os, hg.tape, hg.output, hg.size, fun k hk => hg.block k (by omega) (fun he => by injection he with he; omega)⟩
theorem qK {W : World} {g j : Nat} {cs cs' : Array Value} {t0 : TypeId} {bu : List Value} (hb : W.heap[g]? = some (.cells cs t0 (0, 0))) (hj : j + bu.length ≤ cs.size) (he : cs.toList.take j ++ bu ++ cs.toList.drop (j + bu.length) = cs'.toList) :
  (W.setCells g j bu).heap[g]? = some (.cells cs' t0 (0, 0)) ∧ W.grownBy (W.setCells g j bu) (some g) := by
 obtain ⟨cur', h3, h4, h5⟩ := l7 bu j W cs hb hj
 obtain ⟨s1, s2, s3, s4⟩ := vk g bu j W
 have hc : cur' = cs' := Array.toList_inj.1 (h5.trans he)
 subst hc
 exact ⟨h3, ⟨s1, s2, s3, by rw [s4]; exact Nat.le_refl _, fun k _ hk => wX bu _ k (fun e => hk (by rw [e]))⟩⟩
theorem gQ {W w0 : World} (hN : o.dst = none) (hgd : o.guard = none) (t : TypeId) (p x : Operand) (ho : o.op = .store t p x) {g j base : Nat} {cs : Array Value} (cs' : Array Value) {t0 : TypeId} {u : Value} {bu : List Value}
  (kK : a.eval p = .pointer (some ⟨g, j, none⟩)) (hx : a.eval x = u) (hu : u.cells.toList = bu) (ht : (P.info? t).map (·.size) = some bu.length) (h1 : ∀ q ∈ bu, q.oneCell' = true)
  (hb : W.heap[g]? = some (.cells cs t0 (0, 0))) (hj : j + bu.length ≤ cs.size) (he : cs.toList.take j ++ bu ++ cs.toList.drop (j + bu.length) = cs'.toList) (HB : Below base w0 W) (hbs : base ≤ W.heap.size) (hbg : base ≤ g)
  (h : ∀ w1, w1.heap[g]? = some (.cells cs' t0 (0, 0)) → Below base w0 w1 → W.grownBy w1 (some g) → wpList P ops Q rest a w1) : wpList P ops Q (o :: rest) a W := by
 obtain ⟨h2, h3⟩ := qK hb hj he
 refine wpList_plain hgd fun K hK => ?_
 have hrun := Dx (P := P) t u bu hb hu ht hj h1
 unfold Oper.wp execOp
 simp only [ho, kK, hx, Sem.run_bind, Sem.run_pure, Result.andThen_ok, hrun]
 show K (a.put o.dst undef) _
 rw [hN]
 exact hK a _ (h _ h2 (grown_below HB h3 hbg hbs) h3)
theorem Dn {W : World} (t : TypeId) (p x : Operand) (ho : o.op = .store t p x) {g j : Nat} {cs : Array Value} {t0 : TypeId} {u : Value} {bu : List Value}
  (kK : a.eval p = .pointer (some ⟨g, j, none⟩)) (hx : a.eval x = u) (hu : u.cells.toList = bu) (ht : (P.info? t).map (·.size) = some bu.length) (h1 : ∀ q ∈ bu, q.oneCell' = true)
  (hb : W.heap[g]? = some (.cells cs t0 (0, 0))) (hj : j + bu.length ≤ cs.size) : (execOp a.eval o).run P W = .ok .skip (W.setCells g j bu) := by
 have hrun := Dx (P := P) t u bu hb hu ht hj h1
 unfold execOp
 simp only [ho, kK, hx, Sem.run_bind, Sem.run_pure, Result.andThen_ok, hrun]
end
theorem NI {α : Type} {d : Kd α} {e base b c : Nat} {P : Nat → Prop} {W w1 : World} {v : Value} {xs : List α} (h : Kd.N d e w1 W.heap.size (fun k => ((P k ∧ k ≠ b) ∧ k ≠ c) ∨ W.heap.size ≤ k) v xs) (hb : b < W.heap.size) (hc : c < W.heap.size) (hs : base ≤ W.heap.size) :
  Kd.N d e w1 base (fun k => ((P k ∨ base ≤ k) ∧ k ≠ b) ∧ k ≠ c) v xs :=
 Kd.zC (Kd.jb h (fun k hk => hk.elim (fun q => ⟨⟨.inl q.1.1, q.1.2⟩, q.2⟩) (fun q => ⟨⟨.inr (by omega), by omega⟩, by omega⟩))) hs
def keys (bs : List (Option Nat × Obj)) (ow : List (Value × List ai)) : List Nat := bs.filterMap (·.1) ++ ow.flatMap (fun r => r.1.ownBlock.toList)
def Ok (w : World) (P : Nat → Prop) (ks : List Nat) (k : Nat) : Prop := (P k ∨ w.heap.size ≤ k) ∧ k ∉ ks
structure St (w : World) (P : Nat → Prop) (bs : List (Option Nat × Obj)) (ow : List (Value × List ai)) (ts : List (Value × List ai)) (ro : List (Addr × Value)) (W : World) : Prop where
 below : Below w.heap.size w W
 blk : ∀ p, p ∈ bs → ∀ g, p.1 = some g → W.heap[g]? = some p.2
 new : ∀ k, k ∈ keys bs ow → w.heap.size ≤ k ∧ k < W.heap.size
 nd : (keys bs ow).Nodup
 tree : ∀ t, t ∈ ts → Kd.V k26 26 W 0 (Ok w P (keys bs ow)) t.1 t.2
 own : ∀ r, r ∈ ow → Kd.N k26 26 W w.heap.size (fun k => Ok w P (keys bs ow) k ∨ r.1.ownBlock = some k) r.1 r.2
 cell : ∀ c, c ∈ ro → W.cell? c.1 = some c.2 ∧ c.1.block ∉ keys bs ow
section
variable {w : World} {P : Nat → Prop} {bs : List (Option Nat × Obj)} {ow : List (Value × List ai)} {ts : List (Value × List ai)} {ro : List (Addr × Value)} {W W1 : World} {g b0 cap : Nat} {o o' : Obj} {v : Value} {l : List ai}
theorem dX {α : Type} {d : Kd α} {e base base' : Nat} {ok : Nat → Prop} {W : World} {v : Value} {xs : List α} (h : Kd.V d e W base ok v xs) : Kd.V d e W base' ok v xs := Kd.zl h (fun _ hf => hf)
theorem St.start (h : ∀ t, t ∈ ts → Kd.V k26 26 w b0 P t.1 t.2) : St w P [] [] ts [] w where
 below := Below.refl _ _
 blk := fun _ h => by cases h
 new := fun _ h => by cases h
 nd := List.nodup_nil
 tree := fun t ht => dX (Kd.iQ (h t ht) (fun k hk => ⟨.inl hk, by simp [keys]⟩))
 own := fun _ h => by cases h
 cell := fun _ h => by cases h
theorem St.Zu (S : St w P [] [] ts ro W) {a : Addr} {u : Value} (h : W.cell? a = some u) : St w P [] [] ts ((a, u) :: ro) W :=
 ⟨S.below, S.blk, S.new, S.nd, S.tree, S.own, fun c hc => by
  rcases List.mem_cons.1 hc with rfl | hc
  ·exact ⟨h, by simp [keys]⟩
  ·exact S.cell c hc⟩
theorem St.lt (S : St w P bs ow ts ro W) {k : Nat} (h : k ∈ keys bs ow) : k < W.heap.size := (S.new k h).2
theorem St.box (S : St w P bs ow ts ro W) (hg : g = W.heap.size) (hbox : W1.heap[g]? = some o) (hb : Below W.heap.size W W1) : St w P ((some g, o) :: bs) ow ts ro W1 where
 below := ak S.below hb
 blk := fun p hp q hq => by
  rcases List.mem_cons.1 hp with rfl | hp
  ·rw [← Option.some.inj hq]; exact hbox
  ·exact aN (S.blk p hp q hq) hb
 new := fun k hk => by
  rcases List.mem_cons.1 (show k ∈ g :: keys bs ow from hk) with rfl | hk
  ·exact ⟨by rw [hg]; exact S.below.size, fU hbox⟩
  ·exact ⟨(S.new k hk).1, Nat.lt_of_lt_of_le (S.new k hk).2 hb.size⟩
 nd := show (g :: keys bs ow).Nodup from List.nodup_cons.2 ⟨fun h => by have := (S.new g h).2; omega, S.nd⟩
 tree := fun t ht => Kd.iQ (Kd.mY (Kd.pW (S.tree t ht) g (Nat.le_of_eq hg.symm)) hb) (fun k hk => ⟨hk.1.1, fun h => (List.mem_cons.1 (show k ∈ g :: keys bs ow from h)).elim hk.2 hk.1.2⟩)
 own := fun r hr => Kd.jb (Kd.rJ (Kd.Ce (S.own r hr) g (Nat.le_of_eq hg.symm)) hb) (fun k hk => hk.1.elim (fun h1 => .inl ⟨h1.1, fun h => (List.mem_cons.1 (show k ∈ g :: keys bs ow from h)).elim hk.2 h1.2⟩) .inr)
 cell := fun c hc => ⟨(hb.cell (World.block_lt_of_cell? W _ (S.cell c hc).1)).trans (S.cell c hc).1, fun h => (List.mem_cons.1 (show c.1.block ∈ g :: keys bs ow from h)).elim (fun he => by have := World.block_lt_of_cell? W _ (S.cell c hc).1; omega) (S.cell c hc).2⟩
theorem St.call (S : St w P bs ow ts ro W) (hb : Below W.heap.size W W1) : St w P bs ow ts ro W1 where
 below := ak S.below hb
 blk := fun p hp q hq => aN (S.blk p hp q hq) hb
 new := fun k hk => ⟨(S.new k hk).1, Nat.lt_of_lt_of_le (S.new k hk).2 hb.size⟩
 nd := S.nd
 tree := fun t ht => Kd.mY (S.tree t ht) hb
 own := fun r hr => Kd.rJ (S.own r hr) hb
 cell := fun c hc => ⟨(hb.cell (World.block_lt_of_cell? W _ (S.cell c hc).1)).trans (S.cell c hc).1, (S.cell c hc).2⟩
theorem St.add (S : St w P bs ow ts ro W) (h : Kd.V k26 26 W b0 (Ok w P (keys bs ow)) v l) : St w P bs ow ((v, l) :: ts) ro W :=
 ⟨S.below, S.blk, S.new, S.nd, fun t ht => by
  rcases List.mem_cons.1 ht with rfl | ht
  ·exact dX h
  ·exact S.tree t ht, S.own, S.cell⟩
theorem St.res (S : St w P bs ow ts ro W) (h : Kd.V k26 26 W1 b0 (fun k => Ok w P (keys bs ow) k ∨ W.heap.size ≤ k) v l) (hb : Below W.heap.size W W1) : St w P bs ow ((v, l) :: ts) ro W1 :=
 (S.call hb).add (Kd.iQ h (fun k hk => hk.elim id (fun h1 => ⟨.inr (Nat.le_trans S.below.size h1), fun h2 => by have := S.lt h2; omega⟩)))
theorem fF {k : Nat} : k ∈ keys bs [(v, l)] ↔ k ∈ keys bs [] ∨ v.ownBlock = some k := by
 simp only [keys, List.flatMap_cons, List.flatMap_nil, List.append_nil, List.mem_append, Option.mem_toList]
theorem St.xK (S : St w P bs [] ts ro W) (h : Kd.N k26 26 W1 W.heap.size (fun k => Ok w P (keys bs []) k ∨ W.heap.size ≤ k) v l) (hb : Below W.heap.size W W1) : St w P bs [(v, l)] ts ro W1 := by
 have hgb : ∀ g, v.ownBlock = some g → W.heap.size ≤ g := Kd.sK h
 have hgl : ∀ g, v.ownBlock = some g → g < W1.heap.size := Kd.DI h
 have hlt : ∀ k, k < W.heap.size → v.ownBlock ≠ some k := fun k hk e => by have := hgb k e; omega
 refine ⟨ak S.below hb, fun p hp q hq => aN (S.blk p hp q hq) hb, fun k hk => ?_, ?_, fun t ht => ?_, fun r hr => ?_, fun c hc => ?_⟩
 ·rcases fF.1 hk with h1 | h1
  ·exact ⟨(S.new k h1).1, Nat.lt_of_lt_of_le (S.new k h1).2 hb.size⟩
  ·exact ⟨Nat.le_trans S.below.size (hgb k h1), hgl k h1⟩
 ·have h1 := S.nd
  simp only [keys, List.flatMap_nil, List.append_nil] at h1
  simp only [keys, List.flatMap_cons, List.flatMap_nil, List.append_nil]
  refine List.nodup_append.2 ⟨h1, by cases v.ownBlock <;> simp, fun a ha b hb2 => ?_⟩
  rintro rfl
  exact hlt a (S.lt (by simpa [keys] using ha)) (by simpa using hb2)
 ·exact Kd.iQ (Kd.mY (Kd.Fg (S.tree t ht)) hb) (fun k hk => ⟨hk.1.1, fun h2 => (fF.1 h2).elim hk.1.2 (hlt k hk.2)⟩)
 ·rw [List.mem_singleton] at hr
  subst hr
  refine Kd.zC (Kd.jb h (fun k hk => ?_)) S.below.size
  by_cases hkg : v.ownBlock = some k
  ·exact .inr hkg
  ·refine .inl ?_
   rcases hk with h1 | h1
   ·exact ⟨h1.1, fun h2 => (fF.1 h2).elim h1.2 hkg⟩
   ·exact ⟨.inr (Nat.le_trans S.below.size h1), fun h2 => (fF.1 h2).elim (fun h3 => by have := S.lt h3; omega) hkg⟩
 ·exact ⟨(hb.cell (World.block_lt_of_cell? W _ (S.cell c hc).1)).trans (S.cell c hc).1, fun h2 => (fF.1 h2).elim (S.cell c hc).2 (hlt _ (World.block_lt_of_cell? W _ (S.cell c hc).1))⟩
theorem Ol {W W1 : World} {g : Nat} (hg : W.grownBy W1 (some g)) {a : Addr} {u : Value} (h : W.cell? a = some u) (hn : a.block ≠ g) : W1.cell? a = some u := cell_grown hg h (fun e => hn (Option.some.inj e))
theorem XU {i : Nat} : ∀ {bs : List (Option Nat × Obj)} (ow : List (Value × List ai)) (_ : bs[i]? = some (some g, o)), keys (bs.set i (some g, o')) ow = keys bs ow := by
 induction i with
 | zero => intro bs ow h; cases bs with
  | nil => simp at h
  | cons b bs => simp at h; subst h; rfl
 | succ i ih => intro bs ow h; cases bs with
  | nil => simp at h
  | cons b bs =>
   have := ih (bs := bs) ow (by simpa using h)
   unfold keys at this ⊢
   have h2 := List.append_cancel_right this
   rw [List.set_cons_succ, List.filterMap_cons, List.filterMap_cons, h2]
theorem mem_keys {bs : List (Option Nat × Obj)} {ow : List (Value × List ai)} {p : Option Nat × Obj} {g : Nat} (hp : p ∈ bs) (hg : p.1 = some g) : g ∈ keys bs ow := List.mem_append.2 (.inl (List.mem_filterMap.2 ⟨p, hp, hg⟩))
theorem agB {p q : Option Nat × Obj} {g : Nat} : ∀ {bs : List (Option Nat × Obj)} {i j : Nat}, (bs.filterMap (·.1)).Nodup → bs[i]? = some p → bs[j]? = some q → i ≠ j → p.1 = some g → q.1 = some g → False := by
 intro bs
 induction bs with
 | nil => intro i j _ hi; simp at hi
 | cons b bs ih =>
  intro i j hn hi hj hij hp hq
  have hn' : (bs.filterMap (·.1)).Nodup := by
   rw [List.filterMap_cons] at hn
   split at hn
   ·exact hn
   ·exact (List.nodup_cons.1 hn).2
  cases i with
  | zero =>
   cases j with
   | zero => exact hij rfl
   | succ j =>
    simp at hi hj
    subst hi
    rw [List.filterMap_cons, hp] at hn
    exact (List.nodup_cons.1 hn).1 (List.mem_filterMap.2 ⟨q, List.mem_of_getElem? hj, hq⟩)
  | succ i =>
   cases j with
   | zero =>
    simp at hi hj
    subst hj
    rw [List.filterMap_cons, hq] at hn
    exact (List.nodup_cons.1 hn).1 (List.mem_filterMap.2 ⟨p, List.mem_of_getElem? hi, hp⟩)
   | succ j => exact ih hn' (by simpa using hi) (by simpa using hj) (by omega) hp hq
theorem St.put (S : St w P bs ow ts ro W) (i : Nat) (hi : bs[i]? = some (some g, o)) (hbk : W1.heap[g]? = some o') (hb : Below w.heap.size w W1) (hg : W.grownBy W1 (some g)) : St w P (bs.set i (some g, o')) ow ts ro W1 := by
 have hk := XU (o' := o') ow hi
 have hm : g ∈ keys bs ow := mem_keys (List.mem_of_getElem? hi) rfl
 refine ⟨hb, fun p hp q hq => ?_, by rw [hk]; exact fun k h => ⟨(S.new k h).1, Nat.lt_of_lt_of_le (S.new k h).2 hg.size⟩, by rw [hk]; exact S.nd, fun t ht => ?_, fun r hr => ?_, fun c hc => ?_⟩
 ·obtain ⟨j, hj⟩ := List.mem_iff_getElem?.1 hp
  rw [List.getElem?_set] at hj
  by_cases hij : i = j
  ·subst hij
   rw [if_pos rfl] at hj
   split at hj
   ·injection hj with e; subst e; rw [← Option.some.inj hq]; exact hbk
   ·cases hj
  ·rw [if_neg hij] at hj
   exact bT (S.blk p (List.mem_of_getElem? hj) q hq) hg (fun e => agB (List.nodup_append.1 S.nd).1 hi hj hij rfl (by rw [hq]; exact e))
 ·rw [hk]; exact Kd.vK (S.tree t ht) hg (fun k h e => h.2 (by rw [Option.some.inj e]; exact hm))
 ·rw [hk]
  have hrg : r.1.ownBlock ≠ some g := fun e => (List.nodup_append.1 S.nd).2.2 g (List.mem_filterMap.2 ⟨_, List.mem_of_getElem? hi, rfl⟩) g (List.mem_flatMap.2 ⟨r, hr, by simp [e]⟩) rfl
  exact Kd.vJ (S.own r hr) hg (fun k h e => h.elim (fun h1 => h1.2 (by rw [Option.some.inj e]; exact hm)) (fun h1 => hrg (by rw [h1]; exact e)))
 ·rw [hk]; exact ⟨Ol hg (S.cell c hc).1 (fun e => (S.cell c hc).2 (by rw [e]; exact hm)), (S.cell c hc).2⟩
def iI (x : ai) (A : Option Addr) (c : Nat) : List Value := [.int .u8 x.f0, .int .i64 x.f1.f0, .int .i64 x.f1.f1, .int .i64 x.f1.f2, .int .i64 x.f1.f3, .int .i64 x.f2, .slice A x.f3.length c]
theorem St.bu {n : Nat} (S : St w P bs [(.slice (some ⟨g, 0, none⟩) n cap, l)] ts ro W) (i : Int) (h0 : 0 ≤ i) (h1 : i < l.length) (x : ai) {A : Option Addr} {c : Nat} (hm : (.slice A x.f3.length c, x.f3) ∈ ts) (hW : W1 = W.setCells g (i.toNat * 7 + 0) (iI x A c)) :
  St w P bs [(.slice (some ⟨g, 0, none⟩) n cap, l.set i.toNat x)] ts ro W1 ∧ W.grownBy W1 (some g) := by
 have hN := S.own _ (List.mem_singleton.2 rfl)
 have hob : (Value.slice (some ⟨g, 0, none⟩) n cap).ownBlock = some g := by simp [Value.ownBlock]
 have hmem : g ∈ keys bs [(.slice (some ⟨g, 0, none⟩) n cap, l)] := fF.2 (.inr hob)
 have hn : n = l.length := (Kd.jO hN).1
 obtain ⟨c0, hcl, hM, hcc, hfr⟩ := Kd.yl hN z26 i h0 (by rw [hn]; exact h1)
 obtain ⟨hl1, hl2, hF⟩ := Kd.yQ (S.tree _ hm)
 have Lj := nH W _ x hl2 hF
 have hseg := Kd.RU hN i h0 (by rw [hn]; exact h1) (bu := iI x A c) (j := 0) hcl hcc (show 0 + 7 ≤ 7 from by decide) (x' := x) (fG := Ok w P (keys bs [(.slice (some ⟨g, 0, none⟩) n cap, l)])) (by
  have e : c0.take 0 ++ iI x A c ++ c0.drop (0 + (iI x A c).length) = iI x A c := by
   rw [show (0 + (iI x A c).length) = c0.length by rw [hcl]; rfl, List.drop_length, List.take_zero, List.nil_append, List.append_nil]
  rw [e]; exact Lj) (fun k hk => ⟨.inl hk, fun e => hk.2 (by rw [e]; exact hmem)⟩)
 have CQ : Kd.N k26 26 W1 w.heap.size (fun k => Ok w P (keys bs [(.slice (some ⟨g, 0, none⟩) n cap, l)]) k ∨ (Value.slice (some ⟨g, 0, none⟩) n cap).ownBlock = some k) (.slice (some ⟨g, 0, none⟩) n cap) (l.set i.toNat x) ∧ W.grownBy W1 (some g) := by rw [hW]; exact hseg
 have hne : ∀ p, p ∈ bs → p.1 ≠ some g := fun p hp e => (List.nodup_append.1 S.nd).2.2 g (List.mem_filterMap.2 ⟨p, hp, e⟩) g (by simp [hob]) rfl
 refine ⟨⟨grown_below S.below CQ.2 (S.new g hmem).1 S.below.size, fun p hp q hq => bT (S.blk p hp q hq) CQ.2 (fun e => hne p hp (by rw [hq]; exact e)), fun k h => ⟨(S.new k h).1, Nat.lt_of_lt_of_le (S.new k h).2 CQ.2.size⟩, S.nd, fun t ht => ?_, fun r hr => ?_, fun c hc => ?_⟩, CQ.2⟩
 ·exact Kd.vK (S.tree t ht) CQ.2 (fun k h e => h.2 (by rw [Option.some.inj e]; exact hmem))
 ·rw [List.mem_singleton] at hr
  subst hr
  exact CQ.1
 ·exact ⟨Ol CQ.2 (S.cell c hc).1 (fun e => (S.cell c hc).2 (by rw [e]; exact hmem)), (S.cell c hc).2⟩
theorem St.free (S : St w P bs [(v, l)] ts ro W) : St w P bs [] ((v, l) :: ts) ro W := by
 have hk : ∀ k, k ∈ keys bs [] → k ∈ keys bs [(v, l)] := fun k h => fF.2 (.inl h)
 have hne : ∀ k, k ∈ keys bs [] → v.ownBlock ≠ some k := fun k h e => (List.nodup_append.1 S.nd).2.2 k (by simpa [keys] using h) k (by simp [e]) rfl
 refine ⟨S.below, S.blk, fun k h => S.new k (hk k h), ?_, fun t ht => ?_, fun _ h => (by cases h), fun c hc => ⟨(S.cell c hc).1, fun h => (S.cell c hc).2 (hk _ h)⟩⟩
 ·simp only [keys, List.flatMap_nil, List.append_nil]; exact (List.nodup_append.1 S.nd).1
 ·rcases List.mem_cons.1 ht with rfl | ht
  ·exact Kd.iQ (Kd.Du (S.own _ (List.mem_singleton.2 rfl))) (fun k h => h.elim (fun h1 => ⟨h1.1, fun h2 => h1.2 (hk k h2)⟩) (fun h1 => ⟨.inr (S.new k (fF.2 (.inr h1))).1, fun h2 => hne k h2 h1⟩))
  ·exact Kd.iQ (S.tree t ht) (fun k h => ⟨h.1, fun h2 => h.2 (hk k h2)⟩)
theorem St.yY (S : St w P bs [(v, l)] ts ro W) : Kd.N k26 26 W w.heap.size (fun k => P k ∨ w.heap.size ≤ k) v l :=
 Kd.jb (S.own _ (List.mem_singleton.2 rfl)) (fun k h => h.elim (fun h1 => h1.1) (fun h1 => .inr (S.new k (fF.2 (.inr h1))).1))
theorem St.GY (S : St w P bs ow ts ro W) (hm : (v, l) ∈ ts) : Kd.V k26 26 W b0 (fun k => P k ∨ w.heap.size ≤ k) v l := dX (Kd.iQ (S.tree _ hm) (fun _ h => h.1))
theorem St.at (S : St w P bs ow ts ro W) {cs : Array Value} {t : TypeId} (hm : (some g, .cells cs t (0, 0)) ∈ bs) (j : Nat) : W.cell? ⟨g, j, none⟩ = cs[j]? := af (S.blk _ hm g rfl) j
theorem St.elem (S : St w P bs ow ts ro W) {A : Option Addr} {n c : Nat} (hm : (.slice A n c, l) ∈ ts) (i : Int) (h0 : 0 ≤ i) (h1 : i < l.length) :
  ∃ ad ua uc, A = some ad ∧ St w P bs ow ((.slice ua (aj l i).f3.length uc, (aj l i).f3) :: ts) ((ad.add (i.toNat * 7), .int .u8 (aj l i).f0) :: (⟨(ad.add (i.toNat * 7)).block, (ad.add (i.toNat * 7)).off + 1, none⟩, .int .i64 (aj l i).f1.f0) :: (⟨(ad.add (i.toNat * 7)).block, (ad.add (i.toNat * 7)).off + 2, none⟩, .int .i64 (aj l i).f1.f1) :: (⟨(ad.add (i.toNat * 7)).block, (ad.add (i.toNat * 7)).off + 3, none⟩, .int .i64 (aj l i).f1.f2) :: (⟨(ad.add (i.toNat * 7)).block, (ad.add (i.toNat * 7)).off + 4, none⟩, .int .i64 (aj l i).f1.f3) :: (⟨(ad.add (i.toNat * 7)).block, (ad.add (i.toNat * 7)).off + 5, none⟩, .int .i64 (aj l i).f2) :: (⟨(ad.add (i.toNat * 7)).block, (ad.add (i.toNat * 7)).off + 6, none⟩, .slice ua (aj l i).f3.length uc) :: ro) W := by
 have hV := S.tree _ hm
 obtain ⟨hn, hl, hF⟩ := Kd.yQ hV
 obtain ⟨ad, ua, uc, ek, y0, y1, y2, y3, y4, y5, y6, Lt, hgu⟩ := pG (Kd.HY hF) i h0 h1
 subst ek
 obtain ⟨ad2, ce, e2, hcl, hFK, hcc, hok⟩ := Kd.RF hF z26 i h0 h1
 injection e2 with e2
 subst e2
 obtain ⟨ub, ud, rfl, lub, fub⟩ := oC hFK
 have e6 := hcc 6 _ rfl
 rw [show k26.sz = 7 from rfl, kR _ _ 6 (by omega)] at e6
 have e7 := Option.some.inj (e6.symm.trans y6)
 injection e7 with ea en ec
 subst ea
 subst ec
 have hO := (hok (by decide)).2
 have OE : (ad.add (i.toNat * 7)).block ∉ keys bs ow := by rw [add_block]; exact hO
 refine ⟨ad, ub, ud, rfl, (S.add (Kd.yR (base := 0) lub fub)).below, S.blk, S.new, S.nd, (S.add (Kd.yR (base := 0) lub fub)).tree, S.own, ?_⟩
 intro c hc
 rcases List.mem_cons.1 hc with rfl | hc
 ·exact ⟨y0, OE⟩
 rcases List.mem_cons.1 hc with rfl | hc
 ·exact ⟨y1, OE⟩
 rcases List.mem_cons.1 hc with rfl | hc
 ·exact ⟨y2, OE⟩
 rcases List.mem_cons.1 hc with rfl | hc
 ·exact ⟨y3, OE⟩
 rcases List.mem_cons.1 hc with rfl | hc
 ·exact ⟨y4, OE⟩
 rcases List.mem_cons.1 hc with rfl | hc
 ·exact ⟨y5, OE⟩
 rcases List.mem_cons.1 hc with rfl | hc
 ·exact ⟨y6, OE⟩
 exact S.cell c hc
end
section
variable {Pr : Program} {ops : Array Oper} {rest : List Oper} {op : Oper} {a : Act} {Q : Exit → Act → World → Prop} {w W : World} {P : Nat → Prop} {bs : List (Option Nat × Obj)} {ow : List (Value × List ai)} {ts : List (Value × List ai)} {ro : List (Addr × Value)}
theorem ac4 {N : Tmp} (hd : op.dst = some N) (hgd : op.guard = none) (cs : Array Value) (t : TypeId) (S : St w P bs ow ts ro W)
  (hr : (execOp a.eval op).run Pr W = .ok (.value (.pointer (some ⟨W.heap.size, 0, none⟩))) (W.alloc (.cells cs t (0, 0))))
  (h : ∀ g w1, St w P ((some g, .cells cs t (0, 0)) :: bs) ow ts ro w1 → wpList Pr ops Q rest (a.put op.dst (.pointer (some ⟨g, 0, none⟩))) w1) : wpList Pr ops Q (op :: rest) a W :=
 aG hgd hd hr (fun g hg w1 hbox hb => h g w1 (S.box hg hbox hb))
theorem ae4 (i : Nat) {g : Nat} {cs : Array Value} {t0 : TypeId} (hi : bs[i]? = some (some g, .cells cs t0 (0, 0))) (t : TypeId) (p x : Operand) (ho : op.op = .store t p x) {j : Nat} (cs' : Array Value) {u : Value} {bu : List Value} (S : St w P bs ow ts ro W)
  (kK : a.eval p = .pointer (some ⟨g, j, none⟩)) (hx : a.eval x = u) (hu : u.cells.toList = bu) (ht : (Pr.info? t).map (·.size) = some bu.length) (h1 : ∀ q ∈ bu, q.oneCell' = true) (hj : j + bu.length ≤ cs.size)
  (he : cs.toList.take j ++ bu ++ cs.toList.drop (j + bu.length) = cs'.toList) (hN : op.dst = none) (hgd : op.guard = none)
  (h : ∀ w1, St w P (bs.set i (some g, .cells cs' t0 (0, 0))) ow ts ro w1 → wpList Pr ops Q rest a w1) : wpList Pr ops Q (op :: rest) a W := by
 have hm : g ∈ keys bs ow := mem_keys (List.mem_of_getElem? hi) rfl
 exact gQ hN hgd t p x ho cs' kK hx hu ht h1 (S.blk _ (List.mem_of_getElem? hi) g rfl) hj he S.below S.below.size (S.new g hm).1 (fun w1 h2 h3 h4 => h w1 (S.put i hi h2 h3 h4))
theorem abx (i : Nat) {g : Nat} {cs : Array Value} {t0 : TypeId} (hi : bs[i]? = some (some g, .cells cs t0 (0, 0))) (t : TypeId) (p x : Operand) (ho : op.op = .store t p x) {j : Nat} (cs' : Array Value) {u : Value} {bu : List Value} (S : St w P bs ow ts ro W)
  (kK : a.eval p = .pointer (some ⟨g, j, none⟩)) (hx : a.eval x = u) (hu : u.cells.toList = bu) (ht : (Pr.info? t).map (·.size) = some bu.length) (h1 : ∀ q ∈ bu, q.oneCell' = true) (hj : j + bu.length ≤ cs.size)
  (he : cs.toList.take j ++ bu ++ cs.toList.drop (j + bu.length) = cs'.toList) :
  (execOp a.eval op).run Pr W = .ok .skip (W.setCells g j bu) ∧ St w P (bs.set i (some g, .cells cs' t0 (0, 0))) ow ts ro (W.setCells g j bu) := by
 have hm : g ∈ keys bs ow := mem_keys (List.mem_of_getElem? hi) rfl
 have hb := S.blk _ (List.mem_of_getElem? hi) g rfl
 have hc := qK hb hj he
 exact ⟨Dn t p x ho kK hx hu ht h1 hb hj, S.put i hi hc.1 (grown_below S.below hc.2 (S.new g hm).1 S.below.size) hc.2⟩
theorem Rk {g n cap : Nat} {l : List ai} (i : Int) (x : ai) {A : Option Addr} {c : Nat} (p y : Operand) (ho : op.op = .store 26 p y) (S : St w P bs [(.slice (some ⟨g, 0, none⟩) n cap, l)] ts ro W) (h0 : 0 ≤ i) (h1 : i < l.length)
  (kK : a.eval p = .pointer (some ⟨g, i.toNat * 7, none⟩)) (hx : a.eval y = .agg (iI x A c).toArray) (hsz : (Pr.info? 26).map (·.size) = some 7) (hm : (.slice A x.f3.length c, x.f3) ∈ ts) :
  ∃ w1, (execOp a.eval op).run Pr W = .ok .skip w1 ∧ St w P bs [(.slice (some ⟨g, 0, none⟩) n cap, l.set i.toNat x)] ts ro w1 := by
 obtain ⟨h2, h3⟩ := S.bu i h0 h1 x hm rfl
 obtain ⟨cells, hcells⟩ := Kd.Qq (S.own _ (List.mem_singleton.2 rfl)) g (by simp [Value.ownBlock])
 have hN := S.own _ (List.mem_singleton.2 rfl)
 obtain ⟨c0, hcl, hM, hcc, hfr⟩ := Kd.yl hN z26 i h0 (by rw [(Kd.jO hN).1]; exact h1)
 have hcl : c0.length = 7 := hcl
 have hlt : i.toNat * 7 + 7 ≤ cells.size := by
  have h4 := hcc 6 _ (List.getElem?_eq_getElem (by omega))
  have h5 := af hcells (i.toNat * 7 + 6)
  have h6 : W.cell? ⟨g, i.toNat * k26.sz + 6, none⟩ = W.cell? ⟨g, i.toNat * 7 + 6, none⟩ := rfl
  rw [h6, h5] at h4
  by_cases h7 : i.toNat * 7 + 6 < cells.size
  ·omega
  ·rw [Array.getElem?_eq_none (by omega)] at h4; cases h4
 refine ⟨_, ?_, h2⟩
 rw [show i.toNat * 7 + 0 = i.toNat * 7 from rfl]
 exact Dn 26 p y ho kK hx (by rfl) hsz (by simp [iI, Value.oneCell']) hcells (by simpa [iI] using hlt)
theorem xH {K : Act → World → Prop} (i : Nat) {g : Nat} {cs : Array Value} {t0 : TypeId} (hi : bs[i]? = some (some g, .cells cs t0 (0, 0))) (t : TypeId) (p x : Operand) (ho : op.op = .store t p x) {j : Nat} (cs' : Array Value) {u : Value} {bu : List Value} (S : St w P bs ow ts ro W)
  (hw : Region.wanted op (yielded ops a.tmps) = true) (hN : op.dst = none)
  (kK : a.eval p = .pointer (some ⟨g, j, none⟩)) (hx : a.eval x = u) (hu : u.cells.toList = bu) (ht : (Pr.info? t).map (·.size) = some bu.length) (h1 : ∀ q ∈ bu, q.oneCell' = true) (hj : j + bu.length ≤ cs.size)
  (he : cs.toList.take j ++ bu ++ cs.toList.drop (j + bu.length) = cs'.toList) (h : ∀ w1, St w P (bs.set i (some g, .cells cs' t0 (0, 0))) ow ts ro w1 → K a w1) :
  if Region.wanted op (yielded ops a.tmps) = true then Oper.wp Pr op a W K Q else K (a.put none undef) W := by
 obtain ⟨h2, h3⟩ := abx (a := a) (Pr := Pr) i hi t p x ho cs' S kK hx hu ht h1 hj he
 exact I9 hw hN h2 (h _ h3)
theorem Rj {K : Act → World → Prop} {g n cap : Nat} {l : List ai} (i : Int) (x : ai) {A : Option Addr} {c : Nat} (p y : Operand) (ho : op.op = .store 26 p y) (S : St w P bs [(.slice (some ⟨g, 0, none⟩) n cap, l)] ts ro W)
  (hw : Region.wanted op (yielded ops a.tmps) = true) (hN : op.dst = none) (h0 : 0 ≤ i) (h1 : i < l.length)
  (kK : a.eval p = .pointer (some ⟨g, i.toNat * 7, none⟩)) (hx : a.eval y = .agg (iI x A c).toArray) (hsz : (Pr.info? 26).map (·.size) = some 7) (hm : (.slice A x.f3.length c, x.f3) ∈ ts) (h : ∀ w1, St w P bs [(.slice (some ⟨g, 0, none⟩) n cap, l.set i.toNat x)] ts ro w1 → K a w1) :
  if Region.wanted op (yielded ops a.tmps) = true then Oper.wp Pr op a W K Q else K (a.put none undef) W := by
 obtain ⟨w1, hr, S1⟩ := Rk (a := a) (Pr := Pr) i x p y ho S h0 h1 kK hx hsz hm
 exact I9 hw hN hr (h _ S1)
theorem St.f_ {k : Option Nat} {o : Obj} (S : St w P ((k, o) :: bs) ow ts ro W) : St w P bs ow ts ro W := by
 have hin : ∀ x, x ∈ keys bs ow → x ∈ keys ((k, o) :: bs) ow := fun x h => by
  unfold keys at h ⊢
  rw [List.filterMap_cons]
  cases k with
  | none => exact h
  | some g => exact List.mem_cons_of_mem _ h
 refine ⟨S.below, fun p hp => S.blk p (List.mem_cons_of_mem _ hp), fun x hx => S.new x (hin x hx), ?_, fun t ht => Kd.iQ (S.tree t ht) (fun x h => ⟨h.1, fun h2 => h.2 (hin x h2)⟩), fun r hr => Kd.jb (S.own r hr) (fun x h => h.elim (fun h1 => .inl ⟨h1.1, fun h2 => h1.2 (hin x h2)⟩) .inr), fun c hc => ⟨(S.cell c hc).1, fun h2 => (S.cell c hc).2 (hin _ h2)⟩⟩
 have h := S.nd
 unfold keys at h ⊢
 rw [List.filterMap_cons] at h
 cases k with
 | none => exact h
 | some g => exact (List.nodup_cons.1 h).2
theorem St.dC {t : Value × List ai} (S : St w P bs ow (t :: ts) ro W) : St w P bs ow ts ro W :=
 ⟨S.below, S.blk, S.new, S.nd, fun t ht => S.tree t (List.mem_cons_of_mem _ ht), S.own, S.cell⟩
theorem St.agD {t : Value × List ai} (S : St w P bs ow ts ro W) (hm : t ∈ ts) : St w P bs ow [t] ro W :=
 ⟨S.below, S.blk, S.new, S.nd, fun x hx => by rw [List.mem_singleton.1 hx]; exact S.tree t hm, S.own, S.cell⟩
theorem St.aU {c : Addr × Value} (S : St w P bs ow ts (c :: ro) W) : St w P bs ow ts ro W :=
 ⟨S.below, S.blk, S.new, S.nd, S.tree, S.own, fun c hc => S.cell c (List.mem_cons_of_mem _ hc)⟩
theorem afe {g n cap : Nat} {l : List ai} (i : Int) (x : ai) {A : Option Addr} {c : Nat} (p y : Operand) (ho : op.op = .store 26 p y) (S : St w P bs [(.slice (some ⟨g, 0, none⟩) n cap, l)] ts ro W) (h0 : 0 ≤ i) (h1 : i < l.length)
  (kK : a.eval p = .pointer (some ⟨g, i.toNat * 7, none⟩)) (hx : a.eval y = .agg (iI x A c).toArray) (hsz : (Pr.info? 26).map (·.size) = some 7) (hm : (.slice A x.f3.length c, x.f3) ∈ ts) (hN : op.dst = none) (hgd : op.guard = none)
  (h : ∀ w1, St w P bs [(.slice (some ⟨g, 0, none⟩) n cap, l.set i.toNat x)] ts ro w1 → wpList Pr ops Q rest a w1) : wpList Pr ops Q (op :: rest) a W := by
 obtain ⟨w1, hr, S1⟩ := Rk (a := a) (Pr := Pr) i x p y ho S h0 h1 kK hx hsz hm
 refine wpList_plain hgd fun K hK => ?_
 unfold Oper.wp
 rw [hr]
 show K (a.put op.dst undef) _
 rw [hN]
 exact hK a _ (h _ S1)
end
section
variable {Pr : Program} {ops : Array Oper} {rest : List Oper} {op : Oper} {a : Act} {Q : Exit → Act → World → Prop} {w W W1 : World} {P : Nat → Prop} {bs : List (Option Nat × Obj)} {ts : List (Value × List ai)} {ro : List (Addr × Value)} {v v1 : Value} {xs ys : List ai}
theorem St.EJ (S : St w P bs [(v, xs)] ts ro W) (hb : Below w.heap.size w W1) (hg : W.grownBy W1 v.ownBlock) (hat : v1.ownBlock = v.ownBlock ∨ ∃ b, v1.ownBlock = some b ∧ W.heap.size ≤ b) (hN : Kd.N k26 26 W1 w.heap.size (Ok w P (keys bs [])) v1 ys) :
  St w P bs [(v1, ys)] ts ro W1 := by
 have hkeep : ∀ k, k ∉ keys bs [(v, xs)] → k < W.heap.size → k ∉ keys bs [(v1, ys)] := fun k h1 h2 h3 => by
  rcases fF.1 h3 with h4 | h4
  ·exact h1 (fF.2 (.inl h4))
  ·rcases hat with e | ⟨b, e, hle⟩
   ·exact h1 (fF.2 (.inr (by rw [← e]; exact h4)))
   ·rw [e] at h4; injection h4 with h4; omega
 have hin : ∀ k, k ∈ keys bs [] → k ∈ keys bs [(v, xs)] := fun k h => fF.2 (.inl h)
 have hnb : ∀ k, k ∈ keys bs [] → v1.ownBlock ≠ some k := fun k h e => (hN.1 k e).2 h
 refine ⟨hb, fun p hp q hq => bT (S.blk p hp q hq) hg (fun e => (List.nodup_append.1 S.nd).2.2 q (List.mem_filterMap.2 ⟨p, hp, hq⟩) q (by simp [← e]) rfl), fun k hk => ?_, ?_, fun t ht => ?_, fun r hr => ?_, fun c hc => ?_⟩
 ·rcases fF.1 hk with h1 | h1
  ·exact ⟨(S.new k (hin k h1)).1, Nat.lt_of_lt_of_le (S.new k (hin k h1)).2 hg.size⟩
  ·exact ⟨Kd.sK hN k h1, Kd.DI hN k h1⟩
 ·simp only [keys, List.flatMap_cons, List.flatMap_nil, List.append_nil]
  refine List.nodup_append.2 ⟨(List.nodup_append.1 S.nd).1, by cases v1.ownBlock <;> simp, fun q hq b hb2 => ?_⟩
  rintro rfl
  exact hnb q (by simpa [keys] using hq) (by simpa using hb2)
 ·exact Kd.iQ (Kd.vK (Kd.Fg (S.tree t ht)) hg (fun k h e => h.1.2 (fF.2 (.inr e.symm)))) (fun k h => ⟨h.1.1, hkeep k h.1.2 h.2⟩)
 ·rw [List.mem_singleton] at hr
  subst hr
  refine Kd.jb hN (fun k h => ?_)
  by_cases hk : v1.ownBlock = some k
  ·exact .inr hk
  ·exact .inl ⟨h.1, fun h2 => (fF.1 h2).elim h.2 hk⟩
 ·exact ⟨cell_grown hg (S.cell c hc).1 (fun e => (S.cell c hc).2 (fF.2 (.inr e.symm))), hkeep _ (S.cell c hc).2 (World.block_lt_of_cell? W _ (S.cell c hc).1)⟩
theorem St.AZ (S : St w P bs [(v, xs)] ts ro W) : Kd.N k26 26 W w.heap.size (Ok w P (keys bs [])) v xs :=
 Kd.jb (S.own _ (List.mem_singleton.2 rfl)) (fun k h => h.elim (fun h1 => ⟨h1.1, fun h2 => h1.2 (fF.2 (.inl h2))⟩) (fun h1 => ⟨.inr (S.new k (fF.2 (.inr h1))).1, fun h2 => (List.nodup_append.1 S.nd).2.2 k (by simpa [keys] using h2) k (by simp [h1]) rfl⟩))
theorem qy {W W1 : World} (hg : W.grownBy W1 none) : Below W.heap.size W W1 := ⟨hg.os, hg.tape, hg.output, hg.size, fun k hk => hg.block k hk (by simp)⟩
theorem VV {N : Tmp} (hd : op.dst = some N) (hgd : op.guard = none) (S : St w P bs [] ts ro W) (hrun : (execOp a.eval op).run Pr W = .ok (.value (.slice (some ⟨W.heap.size, 0, none⟩) 0 0)) (W.alloc (.cells #[] 26)))
  (h : ∀ A c w1, St w P bs [(.slice A 0 c, [])] ts ro w1 → wpList Pr ops Q rest (a.put op.dst (.slice A 0 c)) w1) : wpList Pr ops Q (op :: rest) a W :=
 Kd.zk k26 (w0 := W) W.heap.size 26 hgd hd (xs := []) (inner := []) (ok := fun k => Ok w P (keys bs []) k ∨ W.heap.size ≤ k) (fG := fun _ => False) hrun (bF.none _ _) (fun _ h => h.elim) (.inr (Nat.le_refl _)) (Below.refl _ _) (Nat.le_refl _) (by simp) (fun v1 w1 hN _ hg _ => by
  obtain ⟨A, c, rfl⟩ := Kd.jJ hN
  exact h A c w1 (S.xK hN (qy hg)))
theorem BC (t : TypeId) (s x : Operand) (hgd : op.guard = none) (ho : op.op = .call { callee := .builtin .append, args := #[s, x], argTypes := #[t, t] }) (ht : Pr.underlying t = some (.slice 26)) (hinfo : (Pr.info? 26).map (fun i => (i.zero, i.size, i.bytes)) = some (some (.agg #[(.int .u8 0), (.int .i64 0), (.int .i64 0), (.int .i64 0), (.int .i64 0), (.int .i64 0), (.slice none 0 0)]), 7, 72))
  (S : St w P bs [(v, xs)] ts ro W) {A : Option Addr} {m c : Nat} (hm : (.slice A m c, ys) ∈ ts) (hs : a.eval s = v) (hx : a.eval x = .slice A m c) (hl : xs.length + ys.length ≤ 1000000000)
  (h : ∀ A1 c1 w1, St w P bs [(.slice A1 (xs ++ ys).length c1, xs ++ ys)] ts ro w1 → wpList Pr ops Q rest (a.put op.dst (.slice A1 (xs ++ ys).length c1)) w1) : wpList Pr ops Q (op :: rest) a W := by
 have hV := S.tree _ hm
 have hmy : m = ys.length := (Kd.oI hV).1
 exact Kd.yP k26 (w0 := w) w.heap.size hgd s x t 26 _ 72 ho ht hinfo rfl (by decide) (by omega) v xs ys A m c (Ok w P (keys bs [])) (Ok w P (keys bs [(v, xs)])) hs hx S.AZ (Kd.NP hV)
  (fun k h => ⟨⟨h.1, fun h2 => h.2 (fF.2 (.inl h2))⟩, fun e => h.2 (fF.2 (.inr e.symm))⟩) (fun k h => ⟨.inr (Nat.le_trans S.below.size h), fun h2 => by have := S.lt ((fF (v := v) (l := xs)).2 (.inl h2)); omega⟩) S.below S.below.size (by omega)
  (fun v1 w1 hN hb hg hat => by
   obtain ⟨A1, c1, rfl⟩ := Kd.jJ hN
   exact h A1 c1 w1 (S.EJ hb hg hat hN))
end
section
variable {w : World} {P : Nat → Prop} {bs bs' : List (Option Nat × Obj)} {ow : List (Value × List ai)} {ts : List (Value × List ai)} {ro : List (Addr × Value)} {W W1 : World} {b0 : Nat} {o o1 : Obj} {v v1 : Value} {xs : List Int} {ok : Nat → Prop}
def IR (base : Nat) (v : Value) (xs : List Int) (o : Obj) : Prop := ∀ W : World, (∀ g, v.ownBlock = some g → W.heap[g]? = some o) → (Kd.int .i64).R 3 W base (fun k => some k = v.ownBlock) v xs
theorem afP {b' : Nat} (h : (Kd.int .i64).R 3 W1 b0 ok v xs) (hb : b' ≤ b0) : ∃ o, (∀ g, v.ownBlock = some g → W1.heap[g]? = some o) ∧ IR b' v xs o := by
 have ht := Kd.rM (Kd.Ff rfl h) hb
 cases hv : v.ownBlock with
 | none => exact ⟨.cells #[] 0 (0, 0), fun g hg => (by cases hg), fun W hW => Kd.yt ht (fun k hk => (by rw [hv] at hk; cases hk))⟩
 | some g =>
  obtain ⟨cells, hc⟩ := Kd.Jk h g hv
  refine ⟨_, fun g' hg => (by injection hg with hg; rw [← hg]; exact hc), fun W hW => Kd.yt ht (fun k hk _ => ?_)⟩
  rw [hv] at hk
  injection hk with hk
  rw [hk, hc]
  exact hW g hv
theorem St.Xk (S : St w P bs ow ts ro W) (k : Option Nat) (hk : ∀ g, k = some g → W.heap.size ≤ g ∧ W1.heap[g]? = some o) (hb : Below W.heap.size W W1) : St w P ((k, o) :: bs) ow ts ro W1 := by
 cases k with
 | none =>
  have S1 := S.call hb
  exact ⟨S1.below, fun p hp q hq => by
   rcases List.mem_cons.1 hp with rfl | hp
   ·cases hq
   ·exact S1.blk p hp q hq, S1.new, S1.nd, S1.tree, S1.own, S1.cell⟩
 | some g =>
  obtain ⟨hg, hbox⟩ := hk g rfl
  refine ⟨ak S.below hb, fun p hp q hq => ?_, fun k hk => ?_, List.nodup_cons.2 ⟨fun h => by have := (S.new g h).2; omega, S.nd⟩, fun t ht => ?_, fun r hr => ?_, fun c hc => ?_⟩
  ·rcases List.mem_cons.1 hp with rfl | hp
   ·rw [← Option.some.inj hq]; exact hbox
   ·exact aN (S.blk p hp q hq) hb
  ·rcases List.mem_cons.1 (show k ∈ g :: keys bs ow from hk) with rfl | hk
   ·exact ⟨Nat.le_trans S.below.size hg, fU hbox⟩
   ·exact ⟨(S.new k hk).1, Nat.lt_of_lt_of_le (S.new k hk).2 hb.size⟩
  ·exact Kd.iQ (Kd.mY (Kd.pW (S.tree t ht) g hg) hb) (fun k hk => ⟨hk.1.1, fun h => (List.mem_cons.1 (show k ∈ g :: keys bs ow from h)).elim hk.2 hk.1.2⟩)
  ·exact Kd.jb (Kd.rJ (Kd.Ce (S.own r hr) g hg) hb) (fun k hk => hk.1.elim (fun h1 => .inl ⟨h1.1, fun h => (List.mem_cons.1 (show k ∈ g :: keys bs ow from h)).elim hk.2 h1.2⟩) .inr)
  ·exact ⟨(hb.cell (World.block_lt_of_cell? W _ (S.cell c hc).1)).trans (S.cell c hc).1, fun h => (List.mem_cons.1 (show c.1.block ∈ g :: keys bs ow from h)).elim (fun he => by have := World.block_lt_of_cell? W _ (S.cell c hc).1; omega) (S.cell c hc).2⟩
theorem St.ah9 (S : St w P bs ow ts ro W) (h : (Kd.int .i64).R 3 W1 W.heap.size ok v xs) (hb : Below W.heap.size W W1) : ∃ o, St w P ((v.ownBlock, o) :: bs) ow ts ro W1 ∧ IR w.heap.size v xs o := by
 obtain ⟨o, h1, h2⟩ := afP h S.below.size
 exact ⟨o, S.Xk v.ownBlock (fun g hg => ⟨Kd.DK h g hg, h1 g hg⟩) hb, h2⟩
theorem St.Kt (S : St w P ((v.ownBlock, o) :: bs) ow ts ro W) (hb : Below w.heap.size w W1) (hg : W.grownBy W1 v.ownBlock) (hat : v1.ownBlock = v.ownBlock ∨ ∃ b, v1.ownBlock = some b ∧ W.heap.size ≤ b) (ho : ∀ g, v1.ownBlock = some g → W1.heap[g]? = some o1) :
  St w P ((v1.ownBlock, o1) :: bs) ow ts ro W1 := by
 have kc : ∀ (x : Value) (o : Obj) k, k ∈ keys ((x.ownBlock, o) :: bs) ow ↔ x.ownBlock = some k ∨ k ∈ keys bs ow := fun x o k => by
  unfold keys
  rw [List.filterMap_cons]
  cases x.ownBlock with
  | none => simp
  | some g => simp [eq_comm]
 have hnv : ∀ k, k ∈ keys bs ow → v.ownBlock ≠ some k := fun k hk e => by
  have h := S.nd
  unfold keys at h hk
  rw [List.filterMap_cons, e] at h
  exact (List.nodup_cons.1 h).1 hk
 have hnb : (keys bs ow).Nodup := by
  have h := S.nd
  unfold keys at h ⊢
  rw [List.filterMap_cons] at h
  split at h
  ·exact h
  ·exact (List.nodup_cons.1 h).2
 have hin : ∀ k, k ∈ keys bs ow → k ∈ keys ((v.ownBlock, o) :: bs) ow := fun k h => (kc v o k).2 (.inr h)
 have hnew : ∀ k, k ∈ keys bs ow → v1.ownBlock ≠ some k := fun k hk e => by
  rcases hat with h | ⟨b, h, hle⟩
  ·exact hnv k hk (by rw [← h]; exact e)
  ·rw [h] at e; injection e with e; have := S.lt (hin k hk); omega
 have hkeep : ∀ k, k ∉ keys ((v.ownBlock, o) :: bs) ow → k < W.heap.size → k ∉ keys ((v1.ownBlock, o1) :: bs) ow := fun k h1 h2 h3 => by
  rcases (kc v1 o1 k).1 h3 with h4 | h4
  ·rcases hat with h | ⟨b, h, hle⟩
   ·exact h1 ((kc v o k).2 (.inl (by rw [← h]; exact h4)))
   ·rw [h] at h4; injection h4 with h4; omega
  ·exact h1 (hin k h4)
 refine ⟨hb, fun p hp q hq => ?_, fun k hk => ?_, ?_, fun t ht => ?_, fun r hr => ?_, fun c hc => ?_⟩
 ·rcases List.mem_cons.1 hp with rfl | hp
  ·exact ho q hq
  ·exact bT (S.blk p (List.mem_cons_of_mem _ hp) q hq) hg (fun e => hnv q (mem_keys hp hq) e.symm)
 ·rcases (kc v1 o1 k).1 hk with h1 | h1
  ·rcases hat with h | ⟨b, h, hle⟩
   ·have := S.new k ((kc v o k).2 (.inl (by rw [← h]; exact h1)))
    exact ⟨this.1, Nat.lt_of_lt_of_le this.2 hg.size⟩
   ·rw [h] at h1
    injection h1 with h1
    subst h1
    exact ⟨Nat.le_trans S.below.size hle, fU (ho b h)⟩
  ·exact ⟨(S.new k (hin k h1)).1, Nat.lt_of_lt_of_le (S.new k (hin k h1)).2 hg.size⟩
 ·unfold keys
  rw [List.filterMap_cons]
  cases hv1 : v1.ownBlock with
  | none => exact hnb
  | some g => exact List.nodup_cons.2 ⟨fun h => hnew g h hv1, hnb⟩
 ·exact Kd.iQ (Kd.vK (Kd.Fg (S.tree t ht)) hg (fun k h e => h.1.2 ((kc v o k).2 (.inl e.symm)))) (fun k h => ⟨h.1.1, hkeep k h.1.2 h.2⟩)
 ·have hrv : ∀ k, r.1.ownBlock = some k → some k ≠ v.ownBlock := fun k h1 e => hnv k (List.mem_append.2 (.inr (List.mem_flatMap.2 ⟨r, hr, by simp [h1]⟩))) e.symm
  exact Kd.jb (Kd.vJ (Kd.BA (S.own r hr)) hg (fun k h e => h.1.elim (fun h1 => h1.2 ((kc v o k).2 (.inl e.symm))) (fun h1 => hrv k h1 e))) (fun k h => h.1.imp (fun h1 => ⟨h1.1, hkeep k h1.2 h.2⟩) id)
 ·exact ⟨cell_grown hg (S.cell c hc).1 (fun e => (S.cell c hc).2 ((kc v o _).2 (.inl e.symm))), hkeep _ (S.cell c hc).2 (World.block_lt_of_cell? W _ (S.cell c hc).1)⟩
end
section
variable {Pr : Program} {ops : Array Oper} {rest : List Oper} {op : Oper} {a : Act} {Q : Exit → Act → World → Prop} {w W : World} {P : Nat → Prop} {bs : List (Option Nat × Obj)} {ow : List (Value × List ai)} {ts : List (Value × List ai)} {ro : List (Addr × Value)} {v : Value} {xs : List Int} {o : Obj}
end
section
variable {w : World} {P : Nat → Prop} {bs : List (Option Nat × Obj)} {ts : List (Value × List ai)} {ro : List (Addr × Value)} {W : World} {l : List ai} {g n cap : Nat}
theorem St.QC (S : St w P bs [(.slice (some ⟨g, 0, none⟩) n cap, l)] ts ro W) (i : Int) (h0 : 0 ≤ i) (h1 : i < l.length) :
  ∃ ua uc, St w P bs [(.slice (some ⟨g, 0, none⟩) n cap, l)] ((.slice ua (aj l i).f3.length uc, (aj l i).f3) :: ts) ro W ∧ ∀ (j : Nat) (u : Value), (iI (aj l i) ua uc)[j]? = some u → W.cell? ⟨g, i.toNat * 7 + j, none⟩ = some u := by
 have hN := S.own _ (List.mem_singleton.2 rfl)
 have hob : (Value.slice (some ⟨g, 0, none⟩) n cap).ownBlock = some g := by simp [Value.ownBlock]
 obtain ⟨c0, hcl, hM, hcc, hfr⟩ := Kd.yl hN z26 i h0 (by rw [(Kd.jO hN).1]; exact h1)
 obtain ⟨A6, c6, rfl, l6, g6⟩ := oC hM
 have l6 : (aj l i).f3.length ≤ c6 := l6
 have g6 : Kd.F k26 W _ A6 (aj l i).f3.length (aj l i).f3 := g6
 exact ⟨A6, c6, S.add (b0 := 0) (Kd.yR l6 (Kd.sG g6 (fun k hk => hk.1.elim id (fun e => absurd (by rw [hob] at e; exact (Option.some.inj e).symm) hk.2)))), fun j u h => hcc j u h⟩
end
section
variable {Pr : Program} {ops : Array Oper} {rest : List Oper} {op : Oper} {a : Act} {Q : Exit → Act → World → Prop} {Kc : Act → World → Prop} {w W : World} {P : Nat → Prop} {bs : List (Option Nat × Obj)} {ts : List (Value × List ai)} {ro : List (Addr × Value)}
theorem zF {v : Value} {xs : List ai} (s x : Operand) (hgd : op.guard = none) (ho : op.op = .call { callee := .builtin .append, args := #[s, x], argTypes := #[24, 24] }) (ht : Pr.underlying 24 = some (.slice 26)) (hinfo : (Pr.info? 26).map (fun i => (i.zero, i.size, i.bytes)) = some (some (.agg #[(.int .u8 0), (.int .i64 0), (.int .i64 0), (.int .i64 0), (.int .i64 0), (.int .i64 0), (.slice none 0 0)]), 7, 72))
  (S : St w P bs [(v, xs)] ts ro W) (y : ai) {A : Option Addr} {c : Nat} (hm : (.slice A y.f3.length c, y.f3) ∈ ts) (hs : a.eval s = v) (hx : a.eval x = .slice (some ⟨W.heap.size, 0, none⟩) 1 1) (hl : xs.length ≤ 1000000000)
  (h : ∀ A1 c1 w1, St w P bs [(.slice A1 (xs ++ [y]).length c1, xs ++ [y])] ts ro w1 → wpList Pr ops Q rest (a.put op.dst (.slice A1 (xs ++ [y]).length c1)) w1) :
  wpList Pr ops Q (op :: rest) a (W.alloc (.cells (iI y A c).toArray 26)) := by
 obtain ⟨_, hl2, hF⟩ := Kd.yQ (S.tree _ hm)
 exact Kd.NG k26 (w0 := w) w.heap.size hgd s x 24 26 _ 72 ho ht hinfo rfl (by decide) (by omega) v xs y (iI y A c) (Ok w P (keys bs [])) (Ok w P (keys bs [(v, xs)])) hs hx (nH W _ y hl2 hF)
  (fun k h => ⟨⟨h.1, fun h2 => h.2 (fF.2 (.inl h2))⟩, fun e => h.2 (fF.2 (.inr e.symm))⟩) (fun k h => ⟨.inr (Nat.le_trans S.below.size h), fun h2 => by have := S.lt ((fF (v := v) (l := xs)).2 (.inl h2)); omega⟩) S.AZ S.below S.below.size (by omega)
  (fun v1 w1 hN hb hg hat => by
   obtain ⟨A1, c1, rfl⟩ := Kd.jJ hN
   exact h A1 c1 w1 (S.EJ hb hg hat hN))
end
section
variable {Pr : Program} {ops : Array Oper} {md : Region.Mode} {Q : Exit → Act → World → Prop} {S : World → Prop} {ds : List Nat} {T : Bool × List (List Nat × List Nat)} {B : List Nat} {fuel : Nat} {l : Array Bool} {a a' : Act} {w : World} {v : Value} {oi : Oper}
def bA (n m : Nat) : Array Bool := ((List.range n).map fun i => m.testBit i).toArray
theorem aJ (i : Nat) (N : Tmp) (l' : Array Bool) (HT : ae (iY md ops = T)) (h : bC Pr md ops Q S ds fuel l' a' w) (hi : ops[i]? = some oi := by rfl) (hN : oi.dst = some N := by rfl) (hc : Xe T l.toList l'.toList i = true := by kernel_rfl)
  (hQ : ∀ c a w, Q (.panic c) (a.put oi.dst v) w → Q (.panic c) a w := by exact fun _ _ _ h => h) (hw : Region.wanted oi (yielded ops a.tmps) = true := by rfl) (hv : ∀ w, (execOp a.eval oi).run Pr w = .ok (.value v) w := by intro w'; go_simp; with_reducible rfl)
  (ha : a.put (some N) v = a' := by simp only [Act.put, List.setIfInBounds_toArray, List.set_cons_zero, List.set_cons_succ, lW, lV]; rfl) : bC Pr md ops Q S ds (fuel + 1) l a w :=
 zx l' hi hN (wE HT.out hc) hQ (.inl ⟨hw, hv⟩) ha h
theorem eQ (i : Nat) (N : Tmp) (l' : Array Bool) (HT : ae (iY md ops = T)) (HW : ae (jA T.2 B = true)) (hS : S w) (h : bC Pr md ops Q S ds fuel l' a' w) (hi : ops[i]? = some oi := by rfl) (hN : oi.dst = some N := by rfl)
  (hc : TQ T B ds l.toList l'.toList i = true := by kernel_rfl) (hQ : ∀ c a w, Q (.panic c) (a.put oi.dst v) w → Q (.panic c) a w := by exact fun _ _ _ h => h) (hw : Region.wanted oi (yielded ops a.tmps) = true := by rfl) (hv : ∀ w, S w → (execOp a.eval oi).run Pr w = .ok (.value v) w)
  (ha : a.put (some N) v = a' := by simp only [Act.put, List.setIfInBounds_toArray, List.set_cons_zero, List.set_cons_succ, lW, lV]; rfl) : bC Pr md ops Q S ds (fuel + 1) l a w :=
 Dp l' hi hN (AB HT.out HW.out hc) hQ (.inl ⟨hw, hv⟩) hS ha h
end
theorem bf {α : Type} {a0 x : α} {l : List α} : x ∈ a0 :: x :: l := (.tail _ (.head _))
theorem eF {α : Type} {a0 a1 x : α} {l : List α} : x ∈ a0 :: a1 :: x :: l := (.tail _ (.tail _ (.head _)))
theorem jM {α : Type} {a0 a1 a2 x : α} {l : List α} : x ∈ a0 :: a1 :: a2 :: x :: l := (.tail _ (.tail _ (.tail _ (.head _))))
theorem qg {α : Type} {a0 a1 a2 a3 x : α} {l : List α} : x ∈ a0 :: a1 :: a2 :: a3 :: x :: l := (.tail _ (.tail _ (.tail _ (.tail _ (.head _)))))
theorem zh {α : Type} {a0 a1 a2 a3 a4 x : α} {l : List α} : x ∈ a0 :: a1 :: a2 :: a3 :: a4 :: x :: l := (.tail _ (.tail _ (.tail _ (.tail _ (.tail _ (.head _))))))
theorem Ew {α : Type} {a0 a1 a2 a3 a4 a5 x : α} {l : List α} : x ∈ a0 :: a1 :: a2 :: a3 :: a4 :: a5 :: x :: l := (.tail _ (.tail _ (.tail _ (.tail _ (.tail _ (.tail _ (.head _)))))))
theorem mm7 {α : Type} {a0 a1 a2 a3 a4 a5 a6 x : α} {l : List α} : x ∈ a0 :: a1 :: a2 :: a3 :: a4 :: a5 :: a6 :: x :: l := (.tail _ (.tail _ (.tail _ (.tail _ (.tail _ (.tail _ (.tail _ (.head _))))))))
theorem mm8 {α : Type} {a0 a1 a2 a3 a4 a5 a6 a7 x : α} {l : List α} : x ∈ a0 :: a1 :: a2 :: a3 :: a4 :: a5 :: a6 :: a7 :: x :: l := (.tail _ (.tail _ (.tail _ (.tail _ (.tail _ (.tail _ (.tail _ (.tail _ (.head _)))))))))
theorem Dw {α : Type} {a0 a1 a2 a3 a4 a5 a6 a7 a8 x : α} {l : List α} : x ∈ a0 :: a1 :: a2 :: a3 :: a4 :: a5 :: a6 :: a7 :: a8 :: x :: l := (.tail _ (.tail _ (.tail _ (.tail _ (.tail _ (.tail _ (.tail _ (.tail _ (.tail _ (.head _))))))))))
theorem vN {a b : Int} (h : a = b) : (a == b) = true ∧ (a != b) = false ∧ decide (a = b) = true := ⟨beq_iff_eq.mpr h, bne_eq_false_iff_eq.mpr h, decide_eq_true h⟩
theorem eqF {a b : Int} (h : a ≠ b) : (a == b) = false ∧ (a != b) = true ∧ decide (a = b) = false := ⟨beq_eq_false_iff_ne.mpr h, bne_iff_ne.mpr h, decide_eq_false h⟩
theorem o5 {a b : Int} (h : a < b) : decide (a < b) = true ∧ decide (b > a) = true := ⟨decide_eq_true h, decide_eq_true h⟩
theorem gU {a b : Int} (h : ¬ a < b) : decide (a < b) = false ∧ decide (b > a) = false := ⟨decide_eq_false h, decide_eq_false h⟩
end Go.Proofs.Ytfdmfgaiblfbhaa.P
namespace Go.Proofs.Ytfdmfgaiblfbhaa.P
open Go.RowKit Go.Proofs.ag.aA Go.Proofs.ag.bg Go.Proofs.ag.bG
attribute [local go_sem] jD jQ kM kV jo jq kC kD
mutual
def cZ.l0 : Nat → Int → List Int → List Int → Option (List Int)
 | 0, _, _, _ => none
 | k + 1, x0, x1, x5 => if x0 > 0 then (cZ.l1 k x0 x1 x5 0 x0 x1 (x1.length : Int) 0) else (some x5)
def cZ.l1 : Nat → Int → List Int → List Int → Int → Int → List Int → Int → Int → Option (List Int)
 | 0, _, _, _, _, _, _, _, _ => none
 | k + 1, x0, x1, x5, x6, x7, x20, x21, Gh => if Gh < x21 then (if 0 ≤ Gh then (if Gh < (x20.length : Int) then (if Gh < (x5.length : Int) then (if (wrap64 ((rd x20 Gh) + (rd x5 Gh))) > 0 then (cZ.l1 k x0 x1 x5 (wrap64 (x6 + 1)) (mn x7 (wrap64 ((rd x20 Gh) + (rd x5 Gh)))) x20 x21 (wrap64 (Gh + 1))) else (cZ.l1 k x0 x1 x5 x6 x7 x20 x21 (wrap64 (Gh + 1)))) else (none)) else (none)) else (none)) else (if x6 = 0 then (none) else (cZ.l2 k x0 x1 x5 (mx 1 (mn x7 (wrap64 (Int.tdiv x0 x6)))) x1 (x1.length : Int) 0))
def cZ.l2 : Nat → Int → List Int → List Int → Int → List Int → Int → Int → Option (List Int)
 | 0, _, _, _, _, _, _, _ => none
 | k + 1, x0, x1, x5, x10, WR, Zi, EX => if EX < Zi then (if 0 ≤ EX then (if EX < (WR.length : Int) then (if EX < (x5.length : Int) then (if (wrap64 ((rd WR EX) + (rd x5 EX))) > 0 then (if x0 > 0 then (cZ.l2 k (wrap64 (x0 - (mn x10 x0))) x1 (x5.set (EX : Int).toNat (wrap64 ((rd x5 EX) - (mn x10 x0)))) x10 WR Zi (wrap64 (EX + 1))) else (cZ.l2 k x0 x1 x5 x10 WR Zi (wrap64 (EX + 1)))) else (cZ.l2 k x0 x1 x5 x10 WR Zi (wrap64 (EX + 1)))) else (none)) else (none)) else (none)) else (cZ.l0 k x0 x1 x5)
end
def cZ.f (k : Nat) (a0 : Int) (l1 : List Int) : Option (List Int) := if 0 ≤ (l1.length : Int) then (if ((l1.length : Int) : Int).toNat ≤ 35184372088832 then (cZ.l0 k a0 l1 (List.replicate ((l1.length : Int) : Int).toNat 0)) else (none)) else (none)
end Go.Proofs.Ytfdmfgaiblfbhaa.P
namespace Go.Proofs.Ytfdmfgaiblfbhaa.P
open Go.RowKit Go.Proofs.ag.aA Go.Proofs.ag.bg Go.Proofs.ag.bG
def IV (a n : Int) (i : Int) : Int := a / n + if i < a % n then 1 else 0
def moreL (a : Int) (n : Nat) : List Int := (List.range n).map fun i => IV a n (i : Nat)
theorem Pj (a : Int) (n : Nat) : (moreL a n).length = n := by simp [moreL]
def FZ.f (a0 a1 : Int) : Option (List Int) := if 0 ≤ a0 ∧ a0 ≤ 9000000000000000000 ∧ 1 ≤ a1 ∧ a1 ≤ 100000 then some (moreL a0 a1.toNat) else none
end Go.Proofs.Ytfdmfgaiblfbhaa.P
namespace Go.Proofs.Ytfdmfgaiblfbhaa.P
open Go.RowKit Go.Proofs.ag.aA Go.Proofs.ag.bg Go.Proofs.ag.bG
attribute [local go_sem] jD jQ kM kV jo jq kC kD
mutual
def di.l0 : Nat → Int → List Int → Int → List Int → Int → Int → Option (List Int × Bool)
 | 0, _, _, _, _, _, _ => none
 | k + 1, x0, x1, x6, x9, x10, x11 => if x11 < x10 then (if 0 ≤ x11 then (if x11 < (x9.length : Int) then (if (rd x9 x11) < 0 then (some (([] : List Int), false)) else (if (rd x9 x11) > 2147483647 then (some (([] : List Int), false)) else (di.l0 k x0 x1 (mn 2147483647 (wrap64 (x6 + (rd x9 x11)))) x9 x10 (wrap64 (x11 + 1))))) else (none)) else (none)) else (if (x1.length : Int) = 0 then (di.j1 k x0 x1 true) else (if x0 < (wrap64 (-x6)) then (di.j1 k x0 x1 true) else (di.j1 k x0 x1 (decide (x0 > 2147483647)))))
def di.j1 : Nat → Int → List Int → Bool → Option (List Int × Bool)
 | 0, _, _, _ => none
 | k + 1, x0, x1, x26 => if x26 = true then (some (([] : List Int), false)) else (if x0 ≥ 0 then ((FZ.f x0 (x1.length : Int)).bind fun ah_ => (some (ah_, true))) else ((cZ.f k (wrap64 (-x0)) x1).bind fun ah' => (some (ah', true))))
end
def di.f (k : Nat) (a0 : Int) (l1 : List Int) : Option (List Int × Bool) := di.l0 k a0 l1 0 l1 (l1.length : Int) 0
def mZ.l0 : Nat → List Int → List Int → Int → Int → Option (Bool)
 | 0, _, _, _, _ => none
 | k + 1, x0, x1, x12, BV => if BV < x12 then (if 0 ≤ BV then (if BV < (x0.length : Int) then (if BV < (x1.length : Int) then (if (rd x0 BV) = (rd x1 BV) then (mZ.l0 k x0 x1 x12 (wrap64 (BV + 1))) else (some false)) else (none)) else (none)) else (none)) else (some true)
def mZ.f (k : Nat) (l0 : List Int) (l1 : List Int) : Option (Bool) := if (l0.length : Int) = (l1.length : Int) then (mZ.l0 k l0 l1 (l0.length : Int) 0) else (some false)
def Y5.f (k : Nat)  : Option (Bool) := (di.f k 5 (([0, 0, 0] : List Int))).bind fun YL => ((di.f k (-5) (([1, 9, 2] : List Int))).bind fun YM => (if YL.2 = true then ((mZ.f k YL.1 (([2, 2, 1] : List Int))).bind fun aia => (if aia = true then (if YM.2 = true then ((mZ.f k YM.1 (([(-1), (-2), (-2)] : List Int))).bind fun aib => (some aib)) else (some false)) else (some false))) else (some false)))
end Go.Proofs.Ytfdmfgaiblfbhaa.P
namespace Go.Proofs.Ytfdmfgaiblfbhaa.P
open Go.RowKit Go.Proofs.ag.aA Go.Proofs.ag.bg Go.Proofs.ag.bG
def zy (left : Int) (p : Int × Int) : Int × (Int × Int) := if left > 0 then (left - 1, (p.1, p.2 + 1)) else if left < 0 ∧ p.1 + p.2 > 0 then (left + 1, (p.1, p.2 - 1)) else (left, p)
def yC : Int → List (Int × Int) → Int × List (Int × Int)
 | l, [] => (l, [])
 | l, p :: ps => ((yC (zy l p).1 ps).1, (zy l p).2 :: (yC (zy l p).1 ps).2)
def wV : Nat → Int → List (Int × Int) → Option (List Int × Bool)
 | 0, _, _ => none
 | k + 1, l, ps => if l = 0 then some (ps.map Prod.snd, true) else if (yC l ps).1 = l then some ([], false) else wV k (yC l ps).1 (yC l ps).2
def Yj.f (k : Nat) (a0 : Int) (l1 : List Int) : Option (List Int × Bool) :=
 if -100000 ≤ a0 ∧ a0 ≤ 100000 ∧ l1.length ≤ 100000 then
  if l1 = [] then some ([], false)
  else if ∀ g, g ∈ l1 → 0 ≤ g ∧ g ≤ 2147483647 then wV k a0 (l1.map fun g => (g, 0)) else some ([], false)
 else none
theorem wp {x : Int} (h0 : -9223372036854775808 ≤ x) (h1 : x ≤ 9223372036854775807) : wrap64 x = x := by unfold wrap64; omega
def kP (m : Int) : Int → List (Int × Int) → Int × List (Int × Int)
 | b, [] => (b, [])
 | b, p :: ps => if p.1 + p.2 > 0 then (if b > 0 then ((kP m (b - mn m b) ps).1, (p.1, p.2 - mn m b) :: (kP m (b - mn m b) ps).2) else ((kP m b ps).1, p :: (kP m b ps).2)) else ((kP m b ps).1, p :: (kP m b ps).2)
def able : List (Int × Int) → Int
 | [] => 0
 | p :: ps => (if p.1 + p.2 > 0 then 1 else 0) + able ps
def lst : Int → List (Int × Int) → Int
 | m, [] => m
 | m, p :: ps => lst (if p.1 + p.2 > 0 then mn m (p.1 + p.2) else m) ps
def wF : List (Int × Int) → Int
 | [] => 0
 | p :: ps => (p.1 + p.2) + wF ps
def outs : List (Int × Int) → Int
 | [] => 0
 | p :: ps => p.2 + outs ps
def Good (ps : List (Int × Int)) : Prop := ∀ p, p ∈ ps → 0 ≤ p.1 ∧ p.1 ≤ 2147483647 ∧ -p.1 ≤ p.2 ∧ p.2 ≤ 0
def nV (m : Int) (ps : List (Int × Int)) : List (Int × Int) := ps.map fun p => (p.1, p.2 - if p.1 + p.2 > 0 then m else 0)
def E8 (ps : List (Int × Int)) : Prop := ∀ p, p ∈ ps → ∀ q, q ∈ ps → p.2 > q.2 → p.1 + p.2 = 0
def Me (ps : List (Int × Int)) : Prop := ∀ p, p ∈ ps → ∀ q, q ∈ ps → p.2 > q.2 + 1 → p.2 = -p.1
theorem Good.tail {p : Int × Int} {ps : List (Int × Int)} (h : Good (p :: ps)) : Good ps := fun q hq => h q (List.mem_cons_of_mem _ hq)
theorem Good.head {p : Int × Int} {ps : List (Int × Int)} (h : Good (p :: ps)) : 0 ≤ p.1 ∧ p.1 ≤ 2147483647 ∧ -p.1 ≤ p.2 ∧ p.2 ≤ 0 := h p List.mem_cons_self
theorem zn (ps : List (Int × Int)) : 0 ≤ able ps ∧ able ps ≤ ps.length := by
 induction ps with
 | nil => simp [able]
 | cons p ps ih => simp only [able, List.length_cons]; split <;> omega
theorem W_ {ps : List (Int × Int)} (hg : Good ps) (h : 0 < wF ps) : 0 < able ps := by
 induction ps with
 | nil => simp [wF] at h
 | cons p ps ih =>
  have hr := zn ps
  simp only [wF] at h
  simp only [able]
  split
  ·omega
  ·rename_i hp
   have := ih hg.tail (by omega)
   omega
theorem VW (ps : List (Int × Int)) : ∀ m, lst m ps ≤ m := by
 induction ps with
 | nil => intro m; simp [lst]
 | cons p ps ih =>
  intro m
  simp only [lst]
  have h1 := ih (if p.1 + p.2 > 0 then mn m (p.1 + p.2) else m)
  have h2 : (if p.1 + p.2 > 0 then mn m (p.1 + p.2) else m) ≤ m := by
   split
   ·unfold mn; split <;> omega
   ·exact Int.le_refl _
  omega
theorem abn (ps : List (Int × Int)) : ∀ m, ∀ p, p ∈ ps → p.1 + p.2 > 0 → lst m ps ≤ p.1 + p.2 := by
 induction ps with
 | nil => intro m p hp; cases hp
 | cons q ps ih =>
  intro m p hp h
  simp only [lst]
  rcases List.mem_cons.1 hp with rfl | hp
  ·rw [if_pos h]
   have h1 := VW ps (mn m (p.1 + p.2))
   have h2 : mn m (p.1 + p.2) ≤ p.1 + p.2 := by unfold mn; split <;> omega
   omega
  ·exact ih _ p hp h
theorem abo (ps : List (Int × Int)) : ∀ m, 0 < m → 0 < lst m ps := by
 induction ps with
 | nil => intro m h; simpa [lst] using h
 | cons q ps ih =>
  intro m h
  simp only [lst]
  apply ih
  unfold mn
  split
  ·split <;> omega
  ·exact h
theorem Gv {m : Int} (hm : 0 < m) : ∀ (ps : List (Int × Int)) (b : Int), m * able ps ≤ b → kP m b ps = (b - m * able ps, nV m ps) := by
 intro ps
 induction ps with
 | nil => intro b _; simp [kP, able, nV]
 | cons p ps ih =>
  intro b hb
  have hr := zn ps
  have hmn : 0 ≤ m * able ps := Int.mul_nonneg (by omega) hr.1
  simp only [able] at hb ⊢
  by_cases hp : p.1 + p.2 > 0
  ·simp only [if_pos hp] at hb ⊢
   rw [Int.mul_add, Int.mul_one] at hb ⊢
   have h1 : mn m b = m := by unfold mn; split <;> omega
   have h2 := ih (b - m) (by omega)
   simp only [kP]
   rw [if_pos hp, if_pos (by omega), h1, h2]
   simp only [nV, List.map_cons, if_pos hp, Prod.mk.injEq, and_true]
   omega
  ·simp only [if_neg hp] at hb ⊢
   rw [Int.zero_add] at hb ⊢
   simp only [kP]
   rw [if_neg hp, ih b hb]
   simp only [nV, List.map_cons, if_neg hp, Int.sub_zero]
theorem Xj : ∀ (ps : List (Int × Int)) (b : Int), 0 ≤ b → b ≤ able ps → (kP 1 b ps).1 = 0 := by
 intro ps
 induction ps with
 | nil => intro b h0 h; simp only [able] at h; simp only [kP]; omega
 | cons p ps ih =>
  intro b h0 h
  simp only [able] at h
  simp only [kP]
  by_cases hp : p.1 + p.2 > 0
  ·rw [if_pos hp] at h ⊢
   by_cases hb : b > 0
   ·rw [if_pos hb]
    have h1 : mn 1 b = 1 := by unfold mn; split <;> omega
    rw [h1]
    exact ih (b - 1) (by omega) (by omega)
   ·rw [if_neg hb]
    exact ih b h0 (by have := zn ps; omega)
  ·rw [if_neg hp] at h ⊢
   exact ih b h0 (by omega)
theorem Zw (m : Int) : ∀ (ps : List (Int × Int)) (b : Int), (kP m b ps).2.map Prod.fst = ps.map Prod.fst := by
 intro ps
 induction ps with
 | nil => intro b; simp [kP]
 | cons p ps ih =>
  intro b
  simp only [kP]
  split
  ·split <;> simp [ih]
  ·simp [ih]
theorem Jm : ∀ (ps : List (Int × Int)) (b : Int) (q : Int × Int), q ∈ (kP 1 b ps).2 → ∃ p, p ∈ ps ∧ q.1 = p.1 ∧ (q.2 = p.2 ∨ (p.1 + p.2 > 0 ∧ q.2 = p.2 - 1)) := by
 intro ps
 induction ps with
 | nil => intro b q hq; simp [kP] at hq
 | cons p ps ih =>
  intro b q hq
  simp only [kP] at hq
  have key : ∀ b' , q ∈ (kP 1 b' ps).2 → ∃ Rf, Rf ∈ p :: ps ∧ q.1 = Rf.1 ∧ (q.2 = Rf.2 ∨ (Rf.1 + Rf.2 > 0 ∧ q.2 = Rf.2 - 1)) := fun b' h => by
   obtain ⟨p', h1, h2⟩ := ih b' q h
   exact ⟨p', List.mem_cons_of_mem _ h1, h2⟩
  split at hq
  ·rename_i hp
   split at hq
   ·rename_i hb
    simp only [List.mem_cons] at hq
    rcases hq with rfl | hq
    ·refine ⟨p, List.mem_cons_self, rfl, .inr ⟨hp, ?_⟩⟩
     have h1 : mn 1 b = 1 := by unfold mn; split <;> omega
     simp only [h1]
    ·exact key _ hq
   ·simp only [List.mem_cons] at hq
    rcases hq with rfl | hq
    ·exact ⟨_, List.mem_cons_self, rfl, .inl rfl⟩
    ·exact key _ hq
  ·simp only [List.mem_cons] at hq
   rcases hq with rfl | hq
   ·exact ⟨_, List.mem_cons_self, rfl, .inl rfl⟩
   ·exact key _ hq
theorem N_ (m : Int) : ∀ (ps : List (Int × Int)) (b : Int), outs (kP m b ps).2 - (kP m b ps).1 = outs ps - b := by
 intro ps
 induction ps with
 | nil => intro b; simp [kP]
 | cons p ps ih =>
  intro b
  simp only [kP]
  split
  ·split
   ·have := ih (b - mn m b); simp only [outs]; omega
   ·have := ih b; simp only [outs]; omega
  ·have := ih b; simp only [outs]; omega
theorem Xx (m : Int) (ps : List (Int × Int)) : (nV m ps).map Prod.fst = ps.map Prod.fst := by simp [nV, List.map_map, Function.comp_def]
theorem UY {m : Int} {ps : List (Int × Int)} (hm : 0 ≤ m) (hg : Good ps) (hl : ∀ p, p ∈ ps → p.1 + p.2 > 0 → m ≤ p.1 + p.2) : Good (nV m ps) := by
 intro q hq
 obtain ⟨p, hp, rfl⟩ := List.mem_map.1 hq
 have h1 := hg p hp
 have h2 := hl p hp
 simp only
 split <;> omega
theorem Su (m : Int) (ps : List (Int × Int)) : wF (nV m ps) = wF ps - m * able ps := by
 induction ps with
 | nil => simp [nV, wF, able]
 | cons p ps ih =>
  have e : nV m (p :: ps) = (p.1, p.2 - if p.1 + p.2 > 0 then m else 0) :: nV m ps := rfl
  rw [e]
  simp only [wF, able, ih]
  rw [Int.mul_add]
  split
  ·rw [Int.mul_one]; omega
  ·rw [Int.mul_zero]; omega
theorem UX {m : Int} {ps : List (Int × Int)} (hg : Good ps) (he : E8 ps) (hm : 0 ≤ m) : E8 (nV m ps) := by
 intro p' hp' q' hq' h
 obtain ⟨p, hp, rfl⟩ := List.mem_map.1 hp'
 obtain ⟨q, hq, rfl⟩ := List.mem_map.1 hq'
 have h1 := he p hp q hq
 have h2 := hg p hp
 have h3 := hg q hq
 simp only at h ⊢
 by_cases c1 : p.1 + p.2 > 0
 ·rw [if_pos c1] at h ⊢
  by_cases c2 : q.1 + q.2 > 0
  ·rw [if_pos c2] at h; omega
  ·rw [if_neg c2] at h; omega
 ·rw [if_neg c1] at h ⊢
  by_cases c2 : q.1 + q.2 > 0
  ·rw [if_pos c2] at h; omega
  ·rw [if_neg c2] at h; omega
theorem UZ {m : Int} {ps : List (Int × Int)} (hm : 0 < m) (hl : ∀ p, p ∈ ps → p.1 + p.2 > 0 → m + 1 ≤ p.1 + p.2) : nV (m + 1) ps = nV m (nV 1 ps) ∧ able (nV 1 ps) = able ps := by
 constructor
 ·simp only [nV, List.map_map]
  apply List.map_congr_left
  intro p hp
  have := hl p hp
  simp only [Function.comp_def, Prod.mk.injEq, true_and]
  by_cases h : p.1 + p.2 > 0
  ·rw [if_pos h, if_pos h, if_pos (by omega)]; omega
  ·rw [if_neg h, if_neg h, if_neg (by omega)]; omega
 ·induction ps with
  | nil => rfl
  | cons p ps ih =>
   have e : nV 1 (p :: ps) = (p.1, p.2 - if p.1 + p.2 > 0 then 1 else 0) :: nV 1 ps := rfl
   rw [e]
   simp only [able]
   rw [ih fun q hq => hl q (List.mem_cons_of_mem _ hq)]
   have := hl p List.mem_cons_self
   by_cases h : p.1 + p.2 > 0
   ·rw [if_pos h, if_pos (by omega)]
   ·rw [if_neg h, if_neg (by omega)]
theorem Xh {ps : List (Int × Int)} {b : Int} (he : E8 ps) : Me (kP 1 b ps).2 := by
 intro p' hp' q' hq' h
 obtain ⟨p, hp, e1, e2⟩ := Jm ps b p' hp'
 obtain ⟨q, hq, e3, e4⟩ := Jm ps b q' hq'
 have h1 := he p hp q hq
 omega
theorem adI {ps : List (Int × Int)} (he : E8 ps) : Me ps := by
 intro p hp q hq h
 have := he p hp q hq
 omega
theorem Xi {ps : List (Int × Int)} {b : Int} (hg : Good ps) : Good (kP 1 b ps).2 := by
 intro p' hp'
 obtain ⟨p, hp, e1, e2⟩ := Jm ps b p' hp'
 have := hg p hp
 omega
theorem Ev.BM {α : Type} {c : Prop} [Decidable c] {g f : Nat → Option α} {r : α} (hc : c) (h : Ev g r) : Ev (fun k => if c then g k else f k) r := by simp only [if_pos hc]; exact h
theorem Ev.BL {α : Type} {c : Prop} [Decidable c] {g f : Nat → Option α} {r : α} (hc : ¬c) (h : Ev f r) : Ev (fun k => if c then g k else f k) r := by simp only [if_neg hc]; exact h
theorem I4 {α : Type} (f : α → Int) (pre : List α) (p : α) (rest : List α) : rd ((pre ++ p :: rest).map f) (pre.length : Int) = f p := by
 simp [rd, List.getD_eq_getElem?_getD]
theorem Kr (pre : List Int) (p : Int) (rest : List Int) : rd (pre ++ p :: rest) (pre.length : Int) = p := by
 simp [rd, List.getD_eq_getElem?_getD]
theorem abk (b : Int) (q : Int) (r : List Int) (hb0 : 0 < b) (hb1 : b ≤ 2147483647) : ∀ (rest pre : List (Int × Int)) (A L : Int), Good (pre ++ rest) → (pre ++ rest).length ≤ 100000 → 0 ≤ A → A ≤ pre.length →
  A + able rest ≠ 0 → q = mx 1 (mn (lst L rest) (b / (A + able rest))) →
  Ev (fun k => cZ.l2 k b ((pre ++ rest).map Prod.fst) ((pre ++ rest).map Prod.snd) q ((pre ++ rest).map Prod.fst) ((pre ++ rest).length : Int) 0) r →
  Ev (fun k => cZ.l1 k b ((pre ++ rest).map Prod.fst) ((pre ++ rest).map Prod.snd) A L ((pre ++ rest).map Prod.fst) ((pre ++ rest).length : Int) (pre.length : Int)) r := by
 intro rest
 induction rest with
 | nil =>
  intro pre A L hg hl h0 h1 hne hq h
  refine Ev.step (f := fun k => cZ.l2 k b ((pre ++ []).map Prod.fst) ((pre ++ []).map Prod.snd) q ((pre ++ []).map Prod.fst) ((pre ++ []).length : Int) 0) (fun k => ?_) h
  simp only [cZ.l1]
  simp only [able, Int.add_zero, lst] at hne hq
  have hdiv : wrap64 (Int.tdiv b A) = b / A := by
   rw [Int.tdiv_eq_ediv_of_nonneg (by omega)]
   have h2 : 0 ≤ b / A := Int.ediv_nonneg (by omega) h0
   have h3 : b / A ≤ b := Int.ediv_le_self _ (by omega)
   exact wp (by omega) (by omega)
  rw [if_neg (by simp), if_neg hne, hdiv, ← hq]
  simp
 | cons p rest ih =>
  intro pre A L hg hl h0 h1 hne hq h
  have hp := hg p (by simp)
  have hlen : ((pre ++ p :: rest).length : Int) = pre.length + (rest.length + 1) := by simp
  have hl' : (pre.length : Int) + (rest.length + 1) ≤ 100000 := by omega
  have hw : wrap64 ((pre.length : Int) + 1) = ((pre ++ [p]).length : Int) := by rw [wp (by omega) (by omega)]; simp
  have e : pre ++ p :: rest = (pre ++ [p]) ++ rest := by simp
  have hsum : wrap64 (p.1 + p.2) = p.1 + p.2 := wp (by omega) (by omega)
  refine Ev.step (f := fun k => cZ.l1 k b (((pre ++ [p]) ++ rest).map Prod.fst) (((pre ++ [p]) ++ rest).map Prod.snd) (A + if p.1 + p.2 > 0 then 1 else 0) (if p.1 + p.2 > 0 then mn L (p.1 + p.2) else L) (((pre ++ [p]) ++ rest).map Prod.fst) (((pre ++ [p]) ++ rest).length : Int) ((pre ++ [p]).length : Int)) (fun k => ?_) (ih (pre ++ [p]) _ _ (by rw [← e]; exact hg) (by rw [← e]; exact hl) (by split <;> omega) (by simp; split <;> omega) (by simp only [able] at hne; omega) (by simp only [able, lst] at hq; rw [hq, Int.add_assoc]) (by rw [← e]; exact h))
  simp only [cZ.l1]
  rw [I4, I4, hsum, if_pos (by omega), if_pos (by omega), if_pos (by simp; omega), if_pos (by simp; omega), hw, ← e]
  by_cases hc : p.1 + p.2 > 0
  ·rw [if_pos hc, if_pos hc, if_pos hc, wp (by omega) (by omega)]
  ·rw [if_neg hc, if_neg hc, if_neg hc, Int.add_zero]
theorem abl (m : Int) (r : List Int) (hm : 0 < m) : ∀ (rest pre : List (Int × Int)) (b : Int), 0 ≤ b → b ≤ 2147483647 → Good (pre ++ rest) → (∀ p, p ∈ rest → p.1 + p.2 > 0 → m ≤ p.1 + p.2) → (pre ++ rest).length ≤ 100000 →
  Ev (fun k => cZ.l0 k (kP m b rest).1 ((pre ++ rest).map Prod.fst) ((pre ++ (kP m b rest).2).map Prod.snd)) r →
  Ev (fun k => cZ.l2 k b ((pre ++ rest).map Prod.fst) ((pre ++ rest).map Prod.snd) m ((pre ++ rest).map Prod.fst) ((pre ++ rest).length : Int) (pre.length : Int)) r := by
 intro rest
 induction rest with
 | nil =>
  intro pre b h0 h1 hg hl hlen h
  simp only [kP] at h
  refine Ev.step (fun k => ?_) h
  simp only [cZ.l2]
  rw [if_neg (by simp)]
 | cons p rest ih =>
  intro pre b h0 h1 hg hl hlen h
  have hp := hg p (by simp)
  have hlen' : ((pre ++ p :: rest).length : Int) = pre.length + (rest.length + 1) := by simp
  have hl' : (pre.length : Int) + (rest.length + 1) ≤ 100000 := by omega
  have hw : wrap64 ((pre.length : Int) + 1) = (pre.length : Int) + 1 := wp (by omega) (by omega)
  have hsum : wrap64 (p.1 + p.2) = p.1 + p.2 := wp (by omega) (by omega)
  have hmp := hl p (by simp)
  have hmn : 0 ≤ mn m b ∧ mn m b ≤ m ∧ mn m b ≤ b := by unfold mn; split <;> omega
  have step : ∀ (b' : Int) (p' : Int × Int), p'.1 = p.1 → -p'.1 ≤ p'.2 → p'.2 ≤ 0 → 0 ≤ b' → b' ≤ 2147483647 → kP m b (p :: rest) = ((kP m b' rest).1, p' :: (kP m b' rest).2) →
    Ev (fun k => cZ.l2 k b' ((pre ++ p :: rest).map Prod.fst) ((pre ++ p' :: rest).map Prod.snd) m ((pre ++ p :: rest).map Prod.fst) ((pre ++ p :: rest).length : Int) ((pre.length : Int) + 1)) r := by
   intro b' p' e1 e2 e3 e4 e5 eb
   have f1 : (pre ++ p :: rest).map Prod.fst = ((pre ++ [p']) ++ rest).map Prod.fst := by simp [e1]
   have f2 : (pre ++ p' :: rest).map Prod.snd = ((pre ++ [p']) ++ rest).map Prod.snd := by simp
   have f3 : ((pre ++ p :: rest).length : Int) = (((pre ++ [p']) ++ rest).length : Int) := by simp
   have f4 : (pre.length : Int) + 1 = ((pre ++ [p']).length : Int) := by simp
   have hg' : Good ((pre ++ [p']) ++ rest) := by
    intro q hq
    simp only [List.append_assoc, List.mem_append, List.mem_cons, List.not_mem_nil, or_false] at hq
    rcases hq with hq | rfl | hq
    ·exact hg q (by simp [hq])
    ·omega
    ·exact hg q (by simp [hq])
   rw [f1, f2, f3, f4]
   refine ih (pre ++ [p']) b' e4 e5 hg' (fun q hq => hl q (by simp [hq])) (by simp; omega) ?_
   rw [eb] at h
   rw [← f1, List.append_assoc]
   exact h
  refine Ev.step (f := fun k => if p.1 + p.2 > 0 then (if b > 0 then cZ.l2 k (b - mn m b) ((pre ++ p :: rest).map Prod.fst) ((pre ++ (p.1, p.2 - mn m b) :: rest).map Prod.snd) m ((pre ++ p :: rest).map Prod.fst) ((pre ++ p :: rest).length : Int) ((pre.length : Int) + 1) else cZ.l2 k b ((pre ++ p :: rest).map Prod.fst) ((pre ++ p :: rest).map Prod.snd) m ((pre ++ p :: rest).map Prod.fst) ((pre ++ p :: rest).length : Int) ((pre.length : Int) + 1)) else cZ.l2 k b ((pre ++ p :: rest).map Prod.fst) ((pre ++ p :: rest).map Prod.snd) m ((pre ++ p :: rest).map Prod.fst) ((pre ++ p :: rest).length : Int) ((pre.length : Int) + 1)) (fun k => ?_) ?_
  ·simp only [cZ.l2]
   rw [I4, I4, hsum, if_pos (by omega), if_pos (by omega), if_pos (by simp; omega), if_pos (by simp; omega), hw]
   by_cases hc : p.1 + p.2 > 0
   ·rw [if_pos hc, if_pos hc]
    by_cases hb : b > 0
    ·rw [if_pos hb, if_pos hb, wp (by omega) (by omega), wp (by omega) (by omega)]
     congr 1
     simp
    ·rw [if_neg hb, if_neg hb]
   ·rw [if_neg hc, if_neg hc]
  ·by_cases hc : p.1 + p.2 > 0
   ·by_cases hb : b > 0
    ·refine Ev.BM hc (Ev.BM hb (step (b - mn m b) (p.1, p.2 - mn m b) rfl (by simp only; omega) (by simp only; omega) (by omega) (by omega) ?_))
     simp only [kP]
     rw [if_pos hc, if_pos hb]
    ·refine Ev.BM hc (Ev.BL hb (step b p rfl (by omega) (by omega) h0 h1 ?_))
     simp only [kP]
     rw [if_pos hc, if_neg hb]
   ·refine Ev.BL hc (step b p rfl (by omega) (by omega) h0 h1 ?_)
    simp only [kP]
    rw [if_neg hc]
theorem Zx (ps : List (Int × Int)) : ∀ b : Int, 0 ≤ b → yC (-b) ps = (-(kP 1 b ps).1, (kP 1 b ps).2) := by
 induction ps with
 | nil => intro b _; simp [yC, kP]
 | cons p ps ih =>
  intro b hb
  simp only [yC, kP]
  by_cases hp : p.1 + p.2 > 0
  ·rw [if_pos hp]
   by_cases h : b > 0
   ·rw [if_pos h]
    have h1 : mn 1 b = 1 := by unfold mn; split <;> omega
    have e : zy (-b) p = (-(b - 1), (p.1, p.2 - 1)) := by
     unfold zy
     rw [if_neg (by omega), if_pos ⟨by omega, hp⟩]
     congr 1
     omega
    rw [e, h1]
    simp only
    rw [ih (b - 1) (by omega)]
   ·rw [if_neg h]
    have e : zy (-b) p = (-b, p) := by
     unfold zy
     rw [if_neg (by omega), if_neg (by omega)]
    rw [e]
    simp only
    rw [ih b hb]
  ·rw [if_neg hp]
   have e : zy (-b) p = (-b, p) := by
    unfold zy
    rw [if_neg (by omega), if_neg (by omega)]
   rw [e]
   simp only
   rw [ih b hb]
theorem EI {b : Int} {ps : List (Int × Int)} {r : List Int × Bool} (hb : 0 < b) (hne : (kP 1 b ps).1 ≠ b) (h : Ev (fun k => wV k (-(kP 1 b ps).1) (kP 1 b ps).2) r) : Ev (fun k => wV k (-b) ps) r := by
 refine Ev.step (fun k => ?_) h
 simp only [wV]
 rw [if_neg (by omega), Zx ps b (by omega)]
 simp only
 rw [if_neg (by omega)]
theorem TG {r : List Int × Bool} : ∀ (m : Nat) (b : Int) (ps : List (Int × Int)), 0 < able ps → ((m : Int) + 1) * able ps ≤ b → (∀ p, p ∈ ps → p.1 + p.2 > 0 → (m : Int) + 1 ≤ p.1 + p.2) →
  Ev (fun k => wV k (-(b - ((m : Int) + 1) * able ps)) (nV ((m : Int) + 1) ps)) r → Ev (fun k => wV k (-b) ps) r := by
 intro m
 induction m with
 | zero =>
  intro b ps ha hb hl h
  have e := Gv (m := 1) (by omega) ps b (by simpa using hb)
  have hb' : able ps ≤ b := by simpa using hb
  refine EI (by omega) (by rw [e]; simp only; omega) ?_
  rw [e]
  simpa using h
 | succ m ih =>
  intro b ps ha hb hl h
  have hx : 0 ≤ ((m : Int) + 1) * able ps := Int.mul_nonneg (by omega) (by omega)
  have hm : (((m + 1 : Nat) : Int) + 1) * able ps = ((m : Int) + 1) * able ps + able ps := by rw [show (((m + 1 : Nat) : Int) + 1) = ((m : Int) + 1) + 1 by omega, Int.add_mul, Int.one_mul]
  rw [hm] at hb h
  have e := Gv (m := 1) (by omega) ps b (by omega)
  obtain ⟨d1, d2⟩ := UZ (m := (m : Int) + 1) (ps := ps) (by omega) (fun p hp hc => by have := hl p hp hc; omega)
  refine EI (by omega) (by rw [e]; simp only; omega) ?_
  rw [e]
  simp only [Int.one_mul]
  refine ih (b - able ps) (nV 1 ps) (by omega) (by rw [d2]; omega) ?_ ?_
  ·intro q hq hc
   obtain ⟨p, hp, rfl⟩ := List.mem_map.1 hq
   have := hl p hp
   simp only at hc ⊢
   by_cases hc1 : p.1 + p.2 > 0
   ·rw [if_pos hc1] at hc ⊢
    have := this hc1
    omega
   ·rw [if_neg hc1] at hc
    omega
  ·rw [d2, ← d1]
   refine Ev.congr (fun k => ?_) h
   rw [show (((m + 1 : Nat) : Int) + 1) = ((m : Int) + 1) + 1 by omega]
   congr 2
   omega
theorem VU : ∀ (n : Nat) (b : Int) (ps : List (Int × Int)), b.toNat = n → 0 ≤ b → b ≤ 2147483647 → Good ps → E8 ps → ps.length ≤ 100000 → b ≤ wF ps →
  ∃ qs : List (Int × Int), Ev (fun k => cZ.l0 k b (ps.map Prod.fst) (ps.map Prod.snd)) (qs.map Prod.snd) ∧ Ev (fun k => wV k (-b) ps) (qs.map Prod.snd, true) ∧
   qs.map Prod.fst = ps.map Prod.fst ∧ Good qs ∧ Me qs ∧ outs qs = outs ps - b := by
 intro n
 induction n using Nat.strongRecOn with
 | _ n IH =>
 intro b ps hn h0 h1 hg he hl hav
 by_cases hb : b > 0
 ·have hab := W_ hg (by omega)
  have har := zn ps
  have alo := abo ps b hb
  have aln := VW ps b
  have hm1 : 1 ≤ mx 1 (mn (lst b ps) (b / able ps)) := by unfold mx; split <;> omega
  have Y7 : ∀ (m : Int), m = mx 1 (mn (lst b ps) (b / able ps)) → (∀ p, p ∈ ps → p.1 + p.2 > 0 → m ≤ p.1 + p.2) → ∀ r, Ev (fun k => cZ.l0 k (kP m b ps).1 (ps.map Prod.fst) ((kP m b ps).2.map Prod.snd)) r → Ev (fun k => cZ.l0 k b (ps.map Prod.fst) (ps.map Prod.snd)) r := by
   intro m hm hml r h
   refine Ev.step (f := fun k => cZ.l1 k b (ps.map Prod.fst) (ps.map Prod.snd) 0 b (ps.map Prod.fst) ((ps.map Prod.fst).length : Int) 0) (fun k => ?_) ?_
   ·simp only [cZ.l0]; rw [if_pos hb]
   ·have l2 := abl m r (by omega) ps [] b h0 h1 (by simpa using hg) hml (by simpa using hl) (by simpa using h)
    have l1 := abk b m r hb h1 ps [] 0 b (by simpa using hg) (by simpa using hl) (by omega) (by simp) (by omega) (by rw [Int.zero_add]; exact hm) (by simpa using l2)
    simpa using l1
  by_cases hfull : able ps ≤ b
  ·
   have hq1 : 1 ≤ b / able ps := by rw [Int.le_ediv_iff_mul_le hab]; omega
   have hm : mx 1 (mn (lst b ps) (b / able ps)) = mn (lst b ps) (b / able ps) := by unfold mx mn; split <;> split at * <;> omega
   have ah4 : 1 ≤ mn (lst b ps) (b / able ps) := by unfold mn; split <;> omega
   generalize hmm : mn (lst b ps) (b / able ps) = m at hm
   have hm0 : 1 ≤ m := by rw [← hmm]; exact ah4
   have ah2 : m ≤ lst b ps := by rw [← hmm]; unfold mn; split <;> omega
   have ah3 : m ≤ b / able ps := by rw [← hmm]; unfold mn; split <;> omega
   have hall : ∀ p, p ∈ ps → p.1 + p.2 > 0 → m ≤ p.1 + p.2 := fun p hp hc => Int.le_trans ah2 (abn ps b p hp hc)
   have hmb : m * able ps ≤ b := (Int.le_ediv_iff_mul_le hab).1 ah3
   have hma : able ps ≤ m * able ps := by have := Int.mul_le_mul_of_nonneg_right hm0 (show 0 ≤ able ps by omega); omega
   have adD := Gv (m := m) (by omega) ps b hmb
   obtain ⟨qs, q1, q2, q3, q4, q5, q6⟩ := IH (b - m * able ps).toNat (by omega) (b - m * able ps) (nV m ps) rfl (by omega) (by omega) (UY (by omega) hg hall) (UX hg he (by omega)) (by simpa [nV] using hl) (by rw [Su]; omega)
   rw [Xx] at q1 q3
   have eo : outs (nV m ps) = outs ps - m * able ps := by
    have := N_ m ps b
    rw [adD] at this
    simp only at this
    omega
   refine ⟨qs, Y7 m (by rw [hmm, hm]) hall _ (by rw [adD]; exact q1), ?_, q3, q4, q5, by omega⟩
   obtain ⟨m', rfl⟩ : ∃ m' : Nat, m = (m' : Int) + 1 := ⟨(m - 1).toNat, by omega⟩
   exact TG m' b ps hab hmb hall q2
  ·
   have hq0 : b / able ps = 0 := Int.ediv_eq_zero_of_lt h0 (by omega)
   have hm : mx 1 (mn (lst b ps) (b / able ps)) = 1 := by rw [hq0]; unfold mx mn; split <;> split at * <;> omega
   have hz := Xj ps b h0 (by omega)
   have eo := N_ 1 ps b
   refine ⟨(kP 1 b ps).2, Y7 1 hm.symm (fun p _ hc => by omega) _ ?_, EI hb (by omega) ?_, Zw 1 ps b, Xi hg, Xh he, by omega⟩
   ·rw [hz]
    refine Ev.step (fun k => ?_) (Ev.now _)
    simp only [cZ.l0]
    rw [if_neg (by omega)]
   ·rw [hz]
    refine Ev.step (fun k => ?_) (Ev.now _)
    simp only [wV]
    rw [if_pos (by omega)]
 ·obtain rfl : b = 0 := by omega
  refine ⟨ps, ?_, ?_, rfl, hg, adI he, by omega⟩
  ·refine Ev.step (fun k => ?_) (Ev.now _)
   simp only [cZ.l0]
   rw [if_neg hb]
  ·refine Ev.step (fun k => ?_) (Ev.now _)
   simp only [wV]
   rw [if_pos (by omega)]
def total : List Int → Int
 | [] => 0
 | g :: gs => g + total gs
theorem Qa (gs : List Int) : wF (gs.map fun g => (g, (0 : Int))) = total gs := by
 induction gs with
 | nil => rfl
 | cons g gs ih => simp only [List.map_cons, wF, total, ih]; omega
theorem EO (gs : List Int) (h : ∀ g, g ∈ gs → 0 ≤ g) : 0 ≤ total gs := by
 induction gs with
 | nil => simp [total]
 | cons g gs ih => have h1 := h g (by simp); have h2 := ih fun x hx => h x (by simp [hx]); simp only [total]; omega
def uD (m : Int) (gs : List Int) : Int := if m + total gs > 2147483647 then 2147483647 else m + total gs
theorem P_ (b : Int) (r : List Int × Bool) : ∀ (rest pre : List Int) (s : Int), 0 ≤ s → s ≤ 2147483647 → (pre ++ rest).length ≤ 100000 →
  (∀ g, g ∈ rest → 0 ≤ g ∧ g ≤ 2147483647) →
  Ev (fun k => if ((pre ++ rest).length : Int) = 0 then (di.j1 k b (pre ++ rest) true) else (if b < wrap64 (-(uD s rest)) then (di.j1 k b (pre ++ rest) true) else (di.j1 k b (pre ++ rest) (decide (b > 2147483647))))) r →
  Ev (fun k => di.l0 k b (pre ++ rest) s (pre ++ rest) ((pre ++ rest).length : Int) (pre.length : Int)) r := by
 intro rest
 induction rest with
 | nil =>
  intro pre s h0 h1 hl hg h
  refine Ev.step (fun k => ?_) h
  simp only [di.l0]
  rw [if_neg (by simp)]
  have : uD s [] = s := by unfold uD; simp only [total, Int.add_zero]; rw [if_neg (by omega)]
  rw [this]
 | cons g rest ih =>
  intro pre s h0 h1 hl hg h
  have hgg := hg g (by simp)
  have ht := EO rest fun x hx => (hg x (by simp [hx])).1
  have hlen : ((pre ++ g :: rest).length : Int) = pre.length + (rest.length + 1) := by simp
  have e : pre ++ g :: rest = (pre ++ [g]) ++ rest := by simp
  have hc : uD (mn 2147483647 (s + g)) rest = uD s (g :: rest) := by unfold uD mn; simp only [total]; split <;> split <;> (try split) <;> omega
  refine Ev.step (fun k => ?_) (ih (pre ++ [g]) (mn 2147483647 (s + g)) (by unfold mn; split <;> omega) (by unfold mn; split <;> omega) (by rw [← e]; exact hl) (fun x hx => hg x (by simp [hx])) (by rw [hc, ← e]; exact h))
  simp only [di.l0]
  rw [Kr, if_pos (by omega), if_pos (by omega), if_pos (by omega), if_neg (by omega), if_neg (by omega), wp (x := s + g) (by omega) (by omega), wp (x := (pre.length : Int) + 1) (by omega) (by omega), ← e]
  simp
theorem TL (b : Int) : ∀ (rest pre : List Int) (s : Int), 0 ≤ s → s ≤ 2147483647 → (pre ++ rest).length ≤ 100000 → ¬ (∀ g, g ∈ rest → 0 ≤ g ∧ g ≤ 2147483647) →
  Ev (fun k => di.l0 k b (pre ++ rest) s (pre ++ rest) ((pre ++ rest).length : Int) (pre.length : Int)) ([], false) := by
 intro rest
 induction rest with
 | nil => intro pre s _ _ _ h; exact absurd (fun g hg => by cases hg) h
 | cons g rest ih =>
  intro pre s h0 h1 hl hg
  have hlen : ((pre ++ g :: rest).length : Int) = pre.length + (rest.length + 1) := by simp
  by_cases hgg : 0 ≤ g ∧ g ≤ 2147483647
  ·have e : pre ++ g :: rest = (pre ++ [g]) ++ rest := by simp
   refine Ev.step (fun k => ?_) (ih (pre ++ [g]) (mn 2147483647 (s + g)) (by unfold mn; split <;> omega) (by unfold mn; split <;> omega) (by rw [← e]; exact hl) (fun h => hg fun x hx => by
    rcases List.mem_cons.1 hx with rfl | hx
    ·exact hgg
    ·exact h x hx))
   simp only [di.l0]
   rw [Kr, if_pos (by omega), if_pos (by omega), if_pos (by omega), if_neg (by omega), if_neg (by omega), wp (x := s + g) (by omega) (by omega), wp (x := (pre.length : Int) + 1) (by omega) (by omega), ← e]
   simp
  ·refine Ev.step (fun k => ?_) (Ev.now _)
   simp only [di.l0]
   rw [Kr, if_pos (by omega), if_pos (by omega), if_pos (by omega)]
   by_cases h : g < 0
   ·rw [if_pos h]
   ·rw [if_neg h, if_pos (by omega)]
theorem PQ (xs ys : List Int) : total (xs ++ ys) = total xs + total ys := by
 induction xs with
 | nil => simp [total]
 | cons x xs ih => simp only [List.cons_append, total, ih]; omega
theorem TS (a : Int) (n : Int) (_h0 : 0 ≤ a % n) : ∀ m : Nat, total ((List.range m).map fun i => IV a n (i : Nat)) = m * (a / n) + (if (m : Int) ≤ a % n then (m : Int) else a % n) := by
 intro m
 induction m with
 | zero => simp [total]; omega
 | succ m ih =>
  rw [List.range_succ, List.map_append, PQ, ih]
  simp only [List.map_cons, List.map_nil, total, IV]
  rw [show ((m + 1 : Nat) : Int) = (m : Int) + 1 by omega, Int.add_mul, Int.one_mul]
  split <;> split <;> split <;> omega
theorem Qb (a : Int) (n : Nat) (h0 : 0 ≤ a) (hn : 0 < n) : total (moreL a n) = a := by
 have h1 := Int.emod_nonneg a (show (n : Int) ≠ 0 by omega)
 have h2 := Int.emod_lt_of_pos a (show (0 : Int) < n by omega)
 have h := TS a n h1 n
 unfold moreL
 rw [h, if_neg (by omega)]
 have := Int.mul_ediv_add_emod a n
 omega
theorem TW {gs : List Int} (h : ∀ g, g ∈ gs → 0 ≤ g ∧ g ≤ 2147483647) : Good (gs.map fun g => (g, (0 : Int))) := by
 intro p hp
 obtain ⟨g, hg, rfl⟩ := List.mem_map.1 hp
 have := h g hg
 simp only
 omega
theorem TV (gs : List Int) : E8 (gs.map fun g => (g, (0 : Int))) := by
 intro p hp q hq h
 obtain ⟨g, hg, rfl⟩ := List.mem_map.1 hp
 obtain ⟨g', hg', rfl⟩ := List.mem_map.1 hq
 simp at h
theorem TY (gs : List Int) : outs (gs.map fun g => (g, (0 : Int))) = 0 := by
 induction gs with
 | nil => rfl
 | cons g gs ih => simp only [List.map_cons, outs, ih]; rfl
theorem Tv (ps : List (Int × Int)) : outs ps = total (ps.map Prod.snd) := by
 induction ps with
 | nil => rfl
 | cons p ps ih => simp only [List.map_cons, outs, total, ih]
def NL (b : Int) (gs : List Int) (r : List Int × Bool) : Prop :=
 (r = ([], false) ∧ (gs = [] ∨ (¬ ∀ g, g ∈ gs → 0 ≤ g ∧ g ≤ 2147483647) ∨ ((∀ g, g ∈ gs → 0 ≤ g ∧ g ≤ 2147483647) ∧ b < -total gs))) ∨
 (r = (moreL b gs.length, true) ∧ gs ≠ [] ∧ (∀ g, g ∈ gs → 0 ≤ g ∧ g ≤ 2147483647) ∧ 0 ≤ b) ∨
 (∃ qs : List (Int × Int), r = (qs.map Prod.snd, true) ∧ (∀ g, g ∈ gs → 0 ≤ g ∧ g ≤ 2147483647) ∧ b < 0 ∧ qs.map Prod.fst = gs ∧ Good qs ∧ Me qs ∧ outs qs = b ∧ Ev (fun k => wV k b (gs.map fun g => (g, 0))) (qs.map Prod.snd, true))
theorem WB (b : Int) (gs : List Int) (hl : gs.length ≤ 100000) (h0 : -2147483647 ≤ b) (h1 : b ≤ 2147483647) : ∃ r, NL b gs r ∧ Ev (fun k => di.f k b gs) r := by
 by_cases hg : ∀ g, g ∈ gs → 0 ≤ g ∧ g ≤ 2147483647
 ·have ht := EO gs fun g h => (hg g h).1
  have look := fun r => P_ b r gs [] 0 (by omega) (by omega) (by simpa using hl) hg
  have hcap : uD 0 gs = if total gs > 2147483647 then 2147483647 else total gs := by unfold uD; rw [Int.zero_add]
  have hw : wrap64 (-(uD 0 gs)) = -(uD 0 gs) := by rw [hcap]; apply wp <;> split <;> omega
  simp only [List.nil_append, List.length_nil] at look
  have j1t : Ev (fun k => di.j1 k b gs true) ([], false) := by
   refine Ev.step (fun k => ?_) (Ev.now _)
   simp only [di.j1]
   rw [if_pos trivial]
  by_cases hne : gs = []
  ·refine ⟨_, .inl ⟨rfl, .inl hne⟩, ?_⟩
   refine look _ ?_
   refine Ev.BM (by simp [hne]) j1t
  ·have hpos : 0 < gs.length := List.length_pos_iff.2 hne
   by_cases hb : b < -total gs
   ·refine ⟨_, .inl ⟨rfl, .inr (.inr ⟨hg, hb⟩)⟩, look _ (Ev.BL (by omega) (Ev.BM ?_ j1t))⟩
    rw [hw, hcap]
    split <;> omega
   ·have hdec : decide (b > 2147483647) = false := by simp; omega
    have go : ∀ r, Ev (fun k => di.j1 k b gs false) r → Ev (fun k => di.f k b gs) r := fun r h => by
     refine look _ (Ev.BL (by omega) (Ev.BL ?_ ?_))
     ·rw [hw, hcap]; split <;> omega
     ·rw [hdec]; exact h
    by_cases hb0 : 0 ≤ b
    ·refine ⟨_, .inr (.inl ⟨rfl, hne, hg, hb0⟩), go _ (Ev.step (fun k => ?_) (Ev.now _))⟩
     simp only [di.j1]
     rw [if_neg (by simp), if_pos (by omega)]
     unfold FZ.f
     rw [if_pos ⟨hb0, by omega, by omega, by omega⟩]
     simp
    ·obtain ⟨qs, q1, q2, q3, q4, q5, q6⟩ := VU (-b).toNat (-b) (gs.map fun g => (g, 0)) rfl (by omega) (by omega) (TW hg) (TV gs) (by simpa using hl) (by rw [Qa]; omega)
     have e1 : (gs.map fun g => (g, (0 : Int))).map Prod.fst = gs := by simp [List.map_map, Function.comp_def]
     have e2 : (gs.map fun g => (g, (0 : Int))).map Prod.snd = List.replicate gs.length 0 := by simp [List.map_map, Function.comp_def, List.map_const']
     rw [e1] at q1 q3
     rw [e2] at q1
     rw [TY] at q6
     rw [Int.neg_neg] at q2
     refine ⟨_, .inr (.inr ⟨qs, rfl, hg, by omega, q3, q4, q5, by omega, q2⟩), go _ (Ev.step (f := fun k => (cZ.f k (-b) gs).bind fun t => some (t, true)) (fun k => ?_) (Ev.bind (a := qs.map Prod.snd) ?_ (Ev.now _)))⟩
     ·simp only [di.j1]
      rw [if_neg (by simp), if_neg (by omega), wp (by omega) (by omega)]
     ·refine Ev.congr (fun k => ?_) q1
      unfold cZ.f
      rw [if_pos (by omega), if_pos (by omega)]
      simp
 ·refine ⟨_, .inl ⟨rfl, .inr (.inl hg)⟩, ?_⟩
  have := TL b gs [] 0 (by omega) (by omega) (by simpa using hl) hg
  simp only [List.nil_append, List.length_nil] at this
  exact this
section
variable {Pr : Program} {ops : Array Oper} {rest : List Oper} {op : Oper} {a : Act} {Q : Exit → Act → World → Prop} {w W : World} {P : Nat → Prop} {bs : List (Option Nat × Obj)} {ow : List (Value × List ai)} {ts : List (Value × List ai)} {ro : List (Addr × Value)}
theorem fD (N : Tmp) (_ : op.dst = some N) (h : wpList Pr ops Q (op :: rest) a W) : wpList Pr ops Q (op :: rest) a W := h
theorem ak' (t : TypeId) (p x : Operand) (_ : op.op = .store t p x) (h : wpList Pr ops Q (op :: rest) a W) : wpList Pr ops Q (op :: rest) a W := h
theorem boxS (N : Tmp) (cs : Array Value) (t : TypeId) (S : ae (St w P bs ow ts ro W))
  (h : ∀ g w1, ae (St w P ((some g, .cells cs t (0, 0)) :: bs) ow ts ro w1) → wpList Pr ops Q rest (a.put op.dst (.pointer (some ⟨g, 0, none⟩))) w1) (hd : op.dst = some N := by rfl) (hgd : op.guard = none := by rfl)
  (hr : (execOp a.eval op).run Pr W = .ok (.value (.pointer (some ⟨W.heap.size, 0, none⟩))) (W.alloc (.cells cs t (0, 0))) := by first | (go_simp; done) | (go_simp; rfl)) : wpList Pr ops Q (op :: rest) a W :=
 ac4 hd hgd cs t S.out hr (fun g w1 S1 => h g w1 ⟨S1⟩)
theorem Px (i : Nat) {g : Nat} {cs : Array Value} {t0 : TypeId} (hi : bs[i]? = some (some g, .cells cs t0 (0, 0))) (t : TypeId) (p x : Tmp) (cs' : Array Value) (j n : Nat) (S : ae (St w P bs ow ts ro W)) (h : ∀ w1, ae (St w P (bs.set i (some g, .cells cs' t0 (0, 0))) ow ts ro w1) → wpList Pr ops Q rest a w1)
  (ho : op.op = .store t (.tmp p) (.tmp x)) (kK : a.eval (.tmp p) = .pointer (some ⟨g, j, none⟩)) (hu : (a.eval (.tmp x)).cells.toList = (cs'.toList.drop j).take n) (ht : (Pr.info? t).map (·.size) = some n)
  (hn : ((cs'.toList.drop j).take n).length = n) (h1 : ((cs'.toList.drop j).take n).all Value.oneCell' = true) (hj : j + n ≤ cs.size) (he : cs.toList.take j ++ (cs'.toList.drop j).take n ++ cs.toList.drop (j + n) = cs'.toList) (hN : op.dst = none) (hgd : op.guard = none) : wpList Pr ops Q (op :: rest) a W :=
 ae4 i hi t (.tmp p) (.tmp x) ho cs' S.out kK rfl hu (by rw [hn]; exact ht) (fun q hq => List.all_eq_true.1 h1 q hq) (by rw [hn]; exact hj) (by rw [hn]; exact he) hN hgd (fun w1 S1 => h w1 ⟨S1⟩)
variable {g : Nat} {cs : Array Value} {t0 : TypeId} {b0 b1 b2 b3 b4 : Option Nat × Obj}
theorem fC (t : TypeId) (p x : Tmp) (cs' : Array Value) (j n : Nat) (S : ae (St w P ((some g, .cells cs t0 (0, 0)) :: bs) ow ts ro W)) (h : ∀ w1, ae (St w P ((some g, .cells cs' t0 (0, 0)) :: bs) ow ts ro w1) → wpList Pr ops Q rest a w1)
  (ho : op.op = .store t (.tmp p) (.tmp x) := by rfl) (kK : a.eval (.tmp p) = .pointer (some ⟨g, j, none⟩) := by rfl) (hu : (a.eval (.tmp x)).cells.toList = (cs'.toList.drop j).take n := by rfl) (ht : (Pr.info? t).map (·.size) = some n := by kernel_rfl)
  (hn : ((cs'.toList.drop j).take n).length = n := by rfl) (h1 : ((cs'.toList.drop j).take n).all Value.oneCell' = true := by rfl) (hj : j + n ≤ cs.size := by first | decide | simp) (he : cs.toList.take j ++ (cs'.toList.drop j).take n ++ cs.toList.drop (j + n) = cs'.toList := by rfl) (hN : op.dst = none := by rfl) (hgd : op.guard = none := by rfl) : wpList Pr ops Q (op :: rest) a W :=
 Px 0 rfl t p x cs' j n S h ho kK hu ht hn h1 hj he hN hgd
theorem ru (t : TypeId) (p x : Tmp) (cs' : Array Value) (j n : Nat) (S : ae (St w P (b0 :: (some g, .cells cs t0 (0, 0)) :: bs) ow ts ro W)) (h : ∀ w1, ae (St w P (b0 :: (some g, .cells cs' t0 (0, 0)) :: bs) ow ts ro w1) → wpList Pr ops Q rest a w1)
  (ho : op.op = .store t (.tmp p) (.tmp x) := by rfl) (kK : a.eval (.tmp p) = .pointer (some ⟨g, j, none⟩) := by rfl) (hu : (a.eval (.tmp x)).cells.toList = (cs'.toList.drop j).take n := by rfl) (ht : (Pr.info? t).map (·.size) = some n := by kernel_rfl)
  (hn : ((cs'.toList.drop j).take n).length = n := by rfl) (h1 : ((cs'.toList.drop j).take n).all Value.oneCell' = true := by rfl) (hj : j + n ≤ cs.size := by first | decide | simp) (he : cs.toList.take j ++ (cs'.toList.drop j).take n ++ cs.toList.drop (j + n) = cs'.toList := by rfl) (hN : op.dst = none := by rfl) (hgd : op.guard = none := by rfl) : wpList Pr ops Q (op :: rest) a W :=
 Px 1 rfl t p x cs' j n S h ho kK hu ht hn h1 hj he hN hgd
theorem Pv (t : TypeId) (p x : Tmp) (cs' : Array Value) (j n : Nat) (S : ae (St w P (b0 :: b1 :: (some g, .cells cs t0 (0, 0)) :: bs) ow ts ro W)) (h : ∀ w1, ae (St w P (b0 :: b1 :: (some g, .cells cs' t0 (0, 0)) :: bs) ow ts ro w1) → wpList Pr ops Q rest a w1)
  (ho : op.op = .store t (.tmp p) (.tmp x) := by rfl) (kK : a.eval (.tmp p) = .pointer (some ⟨g, j, none⟩) := by rfl) (hu : (a.eval (.tmp x)).cells.toList = (cs'.toList.drop j).take n := by rfl) (ht : (Pr.info? t).map (·.size) = some n := by kernel_rfl)
  (hn : ((cs'.toList.drop j).take n).length = n := by rfl) (h1 : ((cs'.toList.drop j).take n).all Value.oneCell' = true := by rfl) (hj : j + n ≤ cs.size := by first | decide | simp) (he : cs.toList.take j ++ (cs'.toList.drop j).take n ++ cs.toList.drop (j + n) = cs'.toList := by rfl) (hN : op.dst = none := by rfl) (hgd : op.guard = none := by rfl) : wpList Pr ops Q (op :: rest) a W :=
 Px 2 rfl t p x cs' j n S h ho kK hu ht hn h1 hj he hN hgd
theorem TB (t : TypeId) (p x : Tmp) (cs' : Array Value) (j n : Nat) (S : ae (St w P (b0 :: b1 :: b2 :: (some g, .cells cs t0 (0, 0)) :: bs) ow ts ro W)) (h : ∀ w1, ae (St w P (b0 :: b1 :: b2 :: (some g, .cells cs' t0 (0, 0)) :: bs) ow ts ro w1) → wpList Pr ops Q rest a w1)
  (ho : op.op = .store t (.tmp p) (.tmp x) := by rfl) (kK : a.eval (.tmp p) = .pointer (some ⟨g, j, none⟩) := by rfl) (hu : (a.eval (.tmp x)).cells.toList = (cs'.toList.drop j).take n := by rfl) (ht : (Pr.info? t).map (·.size) = some n := by kernel_rfl)
  (hn : ((cs'.toList.drop j).take n).length = n := by rfl) (h1 : ((cs'.toList.drop j).take n).all Value.oneCell' = true := by rfl) (hj : j + n ≤ cs.size := by first | decide | simp) (he : cs.toList.take j ++ (cs'.toList.drop j).take n ++ cs.toList.drop (j + n) = cs'.toList := by rfl) (hN : op.dst = none := by rfl) (hgd : op.guard = none := by rfl) : wpList Pr ops Q (op :: rest) a W :=
 Px 3 rfl t p x cs' j n S h ho kK hu ht hn h1 hj he hN hgd
theorem ah7 (t : TypeId) (p x : Tmp) (cs' : Array Value) (j n : Nat) (S : ae (St w P (b0 :: b1 :: b2 :: b3 :: (some g, .cells cs t0 (0, 0)) :: bs) ow ts ro W)) (h : ∀ w1, ae (St w P (b0 :: b1 :: b2 :: b3 :: (some g, .cells cs' t0 (0, 0)) :: bs) ow ts ro w1) → wpList Pr ops Q rest a w1)
  (ho : op.op = .store t (.tmp p) (.tmp x) := by rfl) (kK : a.eval (.tmp p) = .pointer (some ⟨g, j, none⟩) := by rfl) (hu : (a.eval (.tmp x)).cells.toList = (cs'.toList.drop j).take n := by rfl) (ht : (Pr.info? t).map (·.size) = some n := by kernel_rfl)
  (hn : ((cs'.toList.drop j).take n).length = n := by rfl) (h1 : ((cs'.toList.drop j).take n).all Value.oneCell' = true := by rfl) (hj : j + n ≤ cs.size := by first | decide | simp) (he : cs.toList.take j ++ (cs'.toList.drop j).take n ++ cs.toList.drop (j + n) = cs'.toList := by rfl) (hN : op.dst = none := by rfl) (hgd : op.guard = none := by rfl) : wpList Pr ops Q (op :: rest) a W :=
 Px 4 rfl t p x cs' j n S h ho kK hu ht hn h1 hj he hN hgd
theorem nG (N : Option Tmp) {f : FuncId} {fn : Func} (hf : Pr.funcs[f]? = some fn) {ar : Array Operand} {ES : Array TypeId} {args : Array Value} {post : Ending → World → Prop} (hc : Calls Pr f args W post)
  (h : ∀ e w1, post e w1 → ∃ v, e = .returned v ∧ wpList Pr ops Q rest (a.put N v) w1) (hd : op.dst = N := by rfl) (hg : op.guard = none := by rfl) (hop : op.op = .call { callee := .value (.func f), args := ar, argTypes := ES } := by rfl)
  (hname : (fn.name == "runtime.NumGoroutine") = false := by kernel_rfl) (hb : fn.body.isSome = true := by rfl) (hargs : ar.map a.eval = args := by ((try simp only [List.map_toArray, List.map_cons, List.map_nil]); first | done | rfl)) : wpList Pr ops Q (op :: rest) a W :=
 nR N hd hg hf hname hb args hop hargs (hc.mono h)
theorem bI (N : Option Tmp) {f : FuncId} {fn : Func} (hf : Pr.funcs[f]? = some fn) {ar : Array Operand} {ES : Array TypeId} {args : Array Value} {v : Value} (S : ae (St w P bs ow ts ro W)) (hc : Calls Pr f args W fun e w' => e = .returned v ∧ Below W.heap.size W w')
  (h : ∀ w1, ae (St w P bs ow ts ro w1) → wpList Pr ops Q rest (a.put N v) w1) (hd : op.dst = N := by rfl) (hg : op.guard = none := by rfl) (hop : op.op = .call { callee := .value (.func f), args := ar, argTypes := ES } := by rfl)
  (hname : (fn.name == "runtime.NumGoroutine") = false := by kernel_rfl) (hb : fn.body.isSome = true := by rfl) (hargs : ar.map a.eval = args := by ((try simp only [List.map_toArray, List.map_cons, List.map_nil]); first | done | rfl)) : wpList Pr ops Q (op :: rest) a W :=
 nR N hd hg hf hname hb args hop hargs (hc.mono fun e w1 ⟨he, hb⟩ => ⟨v, he, h w1 ⟨S.out.call hb⟩⟩)
theorem qw (N : Option Tmp) {f : FuncId} {fn : Func} (hf : Pr.funcs[f]? = some fn) {ar : Array Operand} {ES : Array TypeId} {args : Array Value} {l : List ai} {F : Option Addr → Nat → Value} (S : ae (St w P bs ow ts ro W))
  (hc : Calls Pr f args W fun e w' => ∃ A c, e = .returned (F A c) ∧ Kd.N k26 26 w' W.heap.size (fun k => Ok w P (keys bs ow) k ∨ W.heap.size ≤ k) (.slice A l.length c) l ∧ Below W.heap.size W w')
  (h : ∀ A c w1, ae (St w P bs ow ((.slice A l.length c, l) :: ts) ro w1) → wpList Pr ops Q rest (a.put N (F A c)) w1) (hd : op.dst = N := by rfl) (hg : op.guard = none := by rfl) (hop : op.op = .call { callee := .value (.func f), args := ar, argTypes := ES } := by rfl)
  (hname : (fn.name == "runtime.NumGoroutine") = false := by kernel_rfl) (hb : fn.body.isSome = true := by rfl) (hargs : ar.map a.eval = args := by ((try simp only [List.map_toArray, List.map_cons, List.map_nil]); first | done | rfl)) : wpList Pr ops Q (op :: rest) a W :=
 nR N hd hg hf hname hb args hop hargs (hc.mono fun e w1 ⟨A, c, he, h1, hb⟩ => ⟨_, he, h A c w1 ⟨S.out.res (Kd.Du (base' := 0) h1) hb⟩⟩)
theorem SC (N : Option Tmp) {f : FuncId} {fn : Func} (hf : Pr.funcs[f]? = some fn) {ar : Array Operand} {ES : Array TypeId} {args : Array Value} {l : List ai} {F : Option Addr → Nat → Value} (S : ae (St w P bs ow ts ro W))
  (hc : Calls Pr f args W fun e w' => ∃ A c, e = .returned (F A c) ∧ Kd.V k26 26 w' W.heap.size (fun k => Ok w P (keys bs ow) k ∨ W.heap.size ≤ k) (.slice A l.length c) l ∧ Below W.heap.size W w')
  (h : ∀ A c w1, ae (St w P bs ow ((.slice A l.length c, l) :: ts) ro w1) → wpList Pr ops Q rest (a.put N (F A c)) w1) (hd : op.dst = N := by rfl) (hg : op.guard = none := by rfl) (hop : op.op = .call { callee := .value (.func f), args := ar, argTypes := ES } := by rfl)
  (hname : (fn.name == "runtime.NumGoroutine") = false := by kernel_rfl) (hb : fn.body.isSome = true := by rfl) (hargs : ar.map a.eval = args := by ((try simp only [List.map_toArray, List.map_cons, List.map_nil]); first | done | rfl)) : wpList Pr ops Q (op :: rest) a W :=
 nR N hd hg hf hname hb args hop hargs (hc.mono fun e w1 ⟨A, c, he, h1, hb⟩ => ⟨_, he, h A c w1 ⟨S.out.res h1 hb⟩⟩)
theorem YR (N : Option Tmp) {f : FuncId} {fn : Func} (hf : Pr.funcs[f]? = some fn) {ar : Array Operand} {ES : Array TypeId} {args : Array Value} {l : List ai} {F : Option Addr → Nat → Value} (S : ae (St w P bs [] ts ro W))
  (hc : Calls Pr f args W fun e w' => ∃ A c, e = .returned (F A c) ∧ Kd.N k26 26 w' W.heap.size (fun k => Ok w P (keys bs []) k ∨ W.heap.size ≤ k) (.slice A l.length c) l ∧ Below W.heap.size W w')
  (h : ∀ A c w1, ae (St w P bs [(.slice A l.length c, l)] ts ro w1) → wpList Pr ops Q rest (a.put N (F A c)) w1) (hd : op.dst = N := by rfl) (hg : op.guard = none := by rfl) (hop : op.op = .call { callee := .value (.func f), args := ar, argTypes := ES } := by rfl)
  (hname : (fn.name == "runtime.NumGoroutine") = false := by kernel_rfl) (hb : fn.body.isSome = true := by rfl) (hargs : ar.map a.eval = args := by ((try simp only [List.map_toArray, List.map_cons, List.map_nil]); first | done | rfl)) : wpList Pr ops Q (op :: rest) a W :=
 nR N hd hg hf hname hb args hop hargs (hc.mono fun e w1 ⟨A, c, he, h1, hb⟩ => ⟨_, he, h A c w1 ⟨S.out.xK h1 hb⟩⟩)
end
section
variable {w W : World} {P : Nat → Prop} {bs : List (Option Nat × Obj)} {ow : List (Value × List ai)} {ts : List (Value × List ai)} {ro : List (Addr × Value)} {g : Nat} {t : TypeId} {v0 v1 v2 v3 v4 v5 v6 : Value} {a0 a1 a2 a3 a4 a5 a6 : Addr}
theorem St.dS (S : ae (St w P bs ow ts ro W)) (hm : (some g, .cells #[v0, v1, v2, v3, v4, v5, v6] t (0, 0)) ∈ bs) :
  W.cell? ⟨g, 0, none⟩ = some v0 ∧ W.cell? ⟨g, 1, none⟩ = some v1 ∧ W.cell? ⟨g, 2, none⟩ = some v2 ∧ W.cell? ⟨g, 3, none⟩ = some v3 ∧ W.cell? ⟨g, 4, none⟩ = some v4 ∧ W.cell? ⟨g, 5, none⟩ = some v5 ∧ W.cell? ⟨g, 6, none⟩ = some v6 :=
 ⟨S.out.at hm 0, S.out.at hm 1, S.out.at hm 2, S.out.at hm 3, S.out.at hm 4, S.out.at hm 5, S.out.at hm 6⟩
theorem St.at4 (S : ae (St w P bs ow ts ro W)) (hm : (some g, .cells #[v0, v1, v2, v3] t (0, 0)) ∈ bs) :
  W.cell? ⟨g, 0, none⟩ = some v0 ∧ W.cell? ⟨g, 1, none⟩ = some v1 ∧ W.cell? ⟨g, 2, none⟩ = some v2 ∧ W.cell? ⟨g, 3, none⟩ = some v3 :=
 ⟨S.out.at hm 0, S.out.at hm 1, S.out.at hm 2, S.out.at hm 3⟩
theorem St.Dv (S : ae (St w P bs ow ts ((a0, v0) :: (a1, v1) :: (a2, v2) :: (a3, v3) :: (a4, v4) :: (a5, v5) :: (a6, v6) :: ro) W)) :
  W.cell? a0 = some v0 ∧ W.cell? a1 = some v1 ∧ W.cell? a2 = some v2 ∧ W.cell? a3 = some v3 ∧ W.cell? a4 = some v4 ∧ W.cell? a5 = some v5 ∧ W.cell? a6 = some v6 :=
 ⟨(S.out.cell _ (.head _)).1, (S.out.cell _ bf).1, (S.out.cell _ eF).1, (S.out.cell _ jM).1, (S.out.cell _ qg).1, (S.out.cell _ zh).1, (S.out.cell _ Ew).1⟩
end
section
variable {Pr : Program} {md : Region.Mode} {ops : Array Oper} {Q : Exit → Act → World → Prop} {S : World → Prop} {ds : List Nat}
theorem fJ (N : Tmp) {fuel : Nat} {l : Array Bool} {b a' : Act} {v : Value} {w : World} (h : bC Pr md ops Q S ds fuel l a' w) (ha : Act.put b (some N) v = a' := by simp only [Act.put, List.setIfInBounds_toArray, List.set_cons_zero, List.set_cons_succ, lW, lV]; rfl) : bC Pr md ops Q S ds fuel l (Act.put b (some N) v) w := pM ha h
end
theorem lU {Pr : Program} {ops : Array Oper} {Q : Exit → Act → World → Prop} {oi : Oper} {N : Option Tmp} {a : Act} {w : World} {K : Act → World → Prop} {f : FuncId} {fn : Func} {ar : Array Operand} {ts : Array TypeId} (hf : Pr.funcs[f]? = some fn) (args : Array Value) (h : Calls Pr f args w fun e w' => ∃ v, e = .returned v ∧ K (a.put N v) w')
  (hname : (fn.name == "runtime.NumGoroutine") = false := by kernel_rfl) (hb : fn.body.isSome = true := by rfl) (hw : Region.wanted oi (yielded ops a.tmps) = true := by rfl) (hN : oi.dst = N := by rfl) (hop : oi.op = .call { callee := .value (.func f), args := ar, argTypes := ts } := by rfl) (hargs : ar.map a.eval = args := by ((try simp only [List.map_toArray, List.map_cons, List.map_nil]); first | done | rfl)) : if Region.wanted oi (yielded ops a.tmps) = true then Oper.wp Pr oi a w K Q else K (a.put N undef) w :=
 zu hf hname hb args hw hN hop hargs h
theorem kW {Pr : Program} {ops : Array Oper} {md : Region.Mode} {Q : Exit → Act → World → Prop} {S : World → Prop} {ds : List Nat} {T : Bool × List (List Nat × List Nat)} {fuel : Nat} {l : Array Bool} {a : Act} {w : World} {oi : Oper} (i : Nat) (N : Option Tmp) (l' : Array Bool) (HT : ae (iY md ops = T)) (h : ∀ K : Act → World → Prop, Shut (∀ a' w', S w' → (S w' → bC Pr md ops Q S ds fuel l' a' w') → K a' w') → if Region.wanted oi (yielded ops a.tmps) = true then Oper.wp Pr oi a w K Q else K (a.put N undef) w)
  (hi : ops[i]? = some oi := by rfl) (hN : oi.dst = N := by rfl) (hc : (yB T.2 l.toList == [i] && l.toList.set i true == l'.toList) = true := by kernel_rfl) (hd : i ∉ ds := by decide) : bC Pr md ops Q S ds (fuel + 1) l a w :=
 X5 l' hi hN (BO HT.out hc) hd h
theorem uZ {Pr : Program} {ops : Array Oper} {md : Region.Mode} {Q : Exit → Act → World → Prop} {S : World → Prop} {ds : List Nat} {T : Bool × List (List Nat × List Nat)} {fuel : Nat} {l : Array Bool} {a : Act} {w : World} {oi : Oper} (i : Nat) (N : Option Tmp) (l' : Array Bool) (HT : ae (iY md ops = T)) (h : ∀ K : Act → World → Prop, Shut (∀ a' w', bC Pr md ops Q S ds fuel l' a' w' → K a' w') → if Region.wanted oi (yielded ops a.tmps) = true then Oper.wp Pr oi a w K Q else K (a.put N undef) w)
  (hi : ops[i]? = some oi := by rfl) (hN : oi.dst = N := by rfl) (hc : (yB T.2 l.toList == [i] && l.toList.set i true == l'.toList) = true := by kernel_rfl) (hd : i ∈ ds := by decide) : bC Pr md ops Q S ds (fuel + 1) l a w :=
 Td l' hi hN (BO HT.out hc) hd h
section
variable {α : Type} {d : Kd α} {e : TypeId} {w : World} {P : Nat → Prop} {bs bs' : List (Option Nat × Obj)} {ow : List (Value × List ai)} {ts : List (Value × List ai)} {ro : List (Addr × Value)} {W W1 : World} {b0 : Nat} {o o1 : Obj} {v v1 : Value} {xs : List α} {ok : Nat → Prop}
def KR (d : Kd α) (e : TypeId) (base : Nat) (v : Value) (xs : List α) (o : Obj) : Prop := ∀ W : World, (∀ g, v.ownBlock = some g → W.heap[g]? = some o) → d.R e W base (fun k => some k = v.ownBlock) v xs
theorem MF {b' : Nat} (hE : d.E = []) (h : d.R e W1 b0 ok v xs) (hb : b' ≤ b0) : ∃ o, (∀ g, v.ownBlock = some g → W1.heap[g]? = some o) ∧ KR d e b' v xs o := by
 have ht := Kd.rM (Kd.Ff hE h) hb
 cases hv : v.ownBlock with
 | none => exact ⟨.cells #[] 0 (0, 0), fun g hg => (by cases hg), fun W hW => Kd.yt ht (fun k hk => (by rw [hv] at hk; cases hk))⟩
 | some g =>
  obtain ⟨cells, hc⟩ := Kd.Jk h g hv
  refine ⟨_, fun g' hg => (by injection hg with hg; rw [← hg]; exact hc), fun W hW => Kd.yt ht (fun k hk _ => ?_)⟩
  rw [hv] at hk
  injection hk with hk
  rw [hk, hc]
  exact hW g hv
theorem St.TI (hE : d.E = []) (S : St w P bs ow ts ro W) (h : d.R e W1 W.heap.size ok v xs) (hb : Below W.heap.size W W1) : ∃ o, St w P ((v.ownBlock, o) :: bs) ow ts ro W1 ∧ KR d e w.heap.size v xs o := by
 obtain ⟨o, h1, h2⟩ := MF hE h S.below.size
 exact ⟨o, S.Xk v.ownBlock (fun g hg => ⟨Kd.DK h g hg, h1 g hg⟩) hb, h2⟩
theorem Nz (d : Kd α) (e : TypeId) (base : Nat) : KR d e base (.slice none 0 0) [] (.cells #[] 0 (0, 0)) := fun _ _ => Kd.wC _ _ _ _ _
theorem St.noK (S : St w P bs ow ts ro W) : St w P (((Value.slice none 0 0).ownBlock, .cells #[] 0 (0, 0)) :: bs) ow ts ro W := S.Xk none (fun _ h => by cases h) (Below.refl _ _)
theorem Ny {base : Nat} (HI : KR d e base v xs o) (S : St w P bs ow ts ro W) (hm : (v.ownBlock, o) ∈ bs) : d.R e W base (fun k => some k = v.ownBlock) v xs := HI W (S.blk _ hm)
theorem acL {base : Nat} {A : Option Addr} {c : Nat} (HI : KR d e base (.slice A xs.length c) xs o) (S : St w P bs ow ts ro W) (hm : ((Value.slice A xs.length c).ownBlock, o) ∈ bs) : d.C W A xs.length xs ∧ xs.length ≤ c :=
 have h := Kd.gy (Ny HI S hm)
 ⟨h.2.2, h.2.1⟩
theorem St.perm (hp : bs.Perm bs') (S : St w P bs ow ts ro W) : St w P bs' ow ts ro W := by
 have hk : (keys bs ow).Perm (keys bs' ow) := (hp.filterMap _).append_right _
 have hm : ∀ k, k ∈ keys bs' ow ↔ k ∈ keys bs ow := fun k => hk.symm.mem_iff
 have hO : ∀ k, Ok w P (keys bs ow) k → Ok w P (keys bs' ow) k := fun k h => ⟨h.1, fun h2 => h.2 ((hm k).1 h2)⟩
 exact ⟨S.below, fun x hx => S.blk x (hp.symm.mem_iff.1 hx), fun k hk => S.new k ((hm k).1 hk), hk.nodup_iff.1 S.nd, fun t ht => Kd.iQ (S.tree t ht) hO, fun r hr => Kd.jb (S.own r hr) (fun k h => h.imp (hO k) id), fun c hc => ⟨(S.cell c hc).1, fun h => (S.cell c hc).2 ((hm _).1 h)⟩⟩
variable {x b1 b2 b3 b4 b5 b6 : Option Nat × Obj}
theorem St.vO (S : St w P (b1 :: x :: bs) ow ts ro W) : St w P (x :: b1 :: bs) ow ts ro W := S.perm (List.perm_middle (l₁ := [b1]))
theorem St.Lh (S : St w P (b1 :: b2 :: x :: bs) ow ts ro W) : St w P (x :: b1 :: b2 :: bs) ow ts ro W := S.perm (List.perm_middle (l₁ := [b1, b2]))
theorem St.rY (S : St w P (b1 :: b2 :: b3 :: x :: bs) ow ts ro W) : St w P (x :: b1 :: b2 :: b3 :: bs) ow ts ro W := S.perm (List.perm_middle (l₁ := [b1, b2, b3]))
end
section
variable {α : Type} {d : Kd α} {e : TypeId} {Pr : Program} {ops : Array Oper} {rest : List Oper} {op : Oper} {a : Act} {Q : Exit → Act → World → Prop} {Kc : Act → World → Prop} {w W : World} {P : Nat → Prop} {bs : List (Option Nat × Obj)} {ow : List (Value × List ai)} {ts : List (Value × List ai)} {ro : List (Addr × Value)} {v : Value} {xs : List α} {o : Obj}
theorem oD (d : Kd α) (e : TypeId) (hE : d.E = []) (N : Tmp) (S : ae (St w P bs ow ts ro W)) (h : ∀ A c o w1, ae (St w P (((Value.slice A 0 c).ownBlock, o) :: bs) ow ts ro w1) → ae (KR d e w.heap.size (.slice A 0 c) [] o) → wpList Pr ops Q rest (a.put op.dst (.slice A 0 c)) w1)
  (hd : op.dst = some N := by rfl) (hgd : op.guard = none := by rfl) (hrun : (execOp a.eval op).run Pr W = .ok (.value (.slice (some ⟨W.heap.size, 0, none⟩) 0 0)) (W.alloc (.cells #[] e)) := by first | (go_simp; done) | (go_simp; rfl)) : wpList Pr ops Q (op :: rest) a W :=
 Kd.xP d (w0 := W) W.heap.size e hgd hd (xs := ([] : List α)) (inner := []) (ok := fun _ => True) (fG := fun _ => True) hrun (bF.none _ _) (fun _ hk => hk) trivial (Below.refl _ _) (Nat.le_refl _) (by simp) (fun v1 w1 hR hb hg _ => by
  obtain ⟨A, c, rfl⟩ := Kd.jw hR
  obtain ⟨o, S1, HI⟩ := S.out.TI hE hR (qy hg)
  exact h A c o w1 ⟨S1⟩ ⟨HI⟩)
theorem vM (d : Kd α) (e : TypeId) (hE : d.E = []) (s x : Tmp) (t : TypeId) (z : Value) (bytes : Nat) (ht : Pr.underlying t = some (.slice e)) (hinfo : (Pr.info? e).map (fun i => (i.zero, i.size, i.bytes)) = some (some z, d.sz, bytes)) (hz : z.cells.size = d.sz) (hs0 : 0 < d.sz) (hb0 : 0 < bytes) (hbb : bytes ≤ 1000)
  (S : ae (St w P ((v.ownBlock, o) :: bs) ow ts ro W)) (hI : ae (KR d e w.heap.size v xs o)) (y : α) (cs : List Value) (hM : ∀ W b ok, d.M W b ok y cs) (hl : xs.length ≤ 10000000)
  (h : ∀ A1 c1 o1 w1, ae (St w P (((Value.slice A1 (xs ++ [y]).length c1).ownBlock, o1) :: bs) ow ts ro w1) → ae (KR d e w.heap.size (.slice A1 (xs ++ [y]).length c1) (xs ++ [y]) o1) → wpList Pr ops Q rest (a.put op.dst (.slice A1 (xs ++ [y]).length c1)) w1)
  (hgd : op.guard = none := by rfl) (ho : op.op = .call { callee := .builtin .append, args := #[.tmp s, .tmp x], argTypes := #[t, t] } := by rfl) (hs : a.eval (.tmp s) = v := by rfl) (hx : a.eval (.tmp x) = .slice (some ⟨W.heap.size, 0, none⟩) 1 1 := by first | rfl | (go_simp; rfl)) :
  wpList Pr ops Q (op :: rest) a (W.alloc (.cells cs.toArray e)) := by
 have hR := hI.out W (S.out.blk _ List.mem_cons_self)
 refine Kd.Gs d (w0 := w) w.heap.size hgd (.tmp s) (.tmp x) t e z bytes ho ht hinfo hz hs0 hb0 v xs y cs (fun _ => True) (fun _ => False) hs hx (hM _ _ _) (fun _ hk => hk.elim) (fun _ _ => trivial) (Kd.lL hR (fun _ _ => trivial)) S.out.below S.out.below.size
  (Nat.le_trans (Nat.mul_le_mul (show xs.length + 1 ≤ 10000001 by omega) hbb) (by decide)) ?_
 intro v1 w1 hr hb hg hat
 obtain ⟨A1, c1, rfl⟩ := Kd.jw hr
 obtain ⟨o1, h1, h2⟩ := MF hE hr (Nat.le_refl _)
 exact h A1 c1 o1 w1 ⟨S.out.Kt hb hg hat h1⟩ ⟨h2⟩
theorem N8 (d : Kd α) (e : TypeId) (hE : d.E = []) (s x : Tmp) (t : TypeId) (z : Value) (bytes : Nat) (ht : Pr.underlying t = some (.slice e)) (hinfo : (Pr.info? e).map (fun i => (i.zero, i.size, i.bytes)) = some (some z, d.sz, bytes)) (hz : z.cells.size = d.sz) (hs0 : 0 < d.sz) (hb0 : 0 < bytes) (hbb : bytes ≤ 1000)
  (S : ae (St w P ((v.ownBlock, o) :: bs) ow ts ro W)) (hI : ae (KR d e w.heap.size v xs o)) (y : α) (cs : List Value) (hM : ∀ W b ok, d.M W b ok y cs) (hl : xs.length ≤ 10000000)
  (h : ∀ A1 c1 o1 w1, ae (St w P (((Value.slice A1 (xs ++ [y]).length c1).ownBlock, o1) :: bs) ow ts ro w1) → ae (KR d e w.heap.size (.slice A1 (xs ++ [y]).length c1) (xs ++ [y]) o1) → Kc (a.put op.dst (.slice A1 (xs ++ [y]).length c1)) w1)
  (hw : Region.wanted op (yielded ops a.tmps) = true := by rfl) (ho : op.op = .call { callee := .builtin .append, args := #[.tmp s, .tmp x], argTypes := #[t, t] } := by rfl) (hs : a.eval (.tmp s) = v := by rfl) (hx : a.eval (.tmp x) = .slice (some ⟨W.heap.size, 0, none⟩) 1 1 := by first | rfl | (go_simp; rfl)) :
  if Region.wanted op (yielded ops a.tmps) = true then Oper.wp Pr op a (W.alloc (.cells cs.toArray e)) Kc Q else Kc (a.put op.dst undef) (W.alloc (.cells cs.toArray e)) := by
 have hR := hI.out W (S.out.blk _ List.mem_cons_self)
 refine Kd.L8 d (w0 := w) w.heap.size hw (.tmp s) (.tmp x) t e z bytes ho ht hinfo hz hs0 hb0 v xs y cs (fun _ => True) (fun _ => False) hs hx (hM _ _ _) (fun _ hk => hk.elim) (fun _ _ => trivial) (Kd.lL hR (fun _ _ => trivial)) S.out.below S.out.below.size
  (Nat.le_trans (Nat.mul_le_mul (show xs.length + 1 ≤ 10000001 by omega) hbb) (by decide)) ?_
 intro v1 w1 hr hb hg hat
 obtain ⟨A1, c1, rfl⟩ := Kd.jw hr
 obtain ⟨o1, h1, h2⟩ := MF hE hr (Nat.le_refl _)
 exact h A1 c1 o1 w1 ⟨S.out.Kt hb hg hat h1⟩ ⟨h2⟩
theorem Xf (d : Kd α) (e : TypeId) (hE : d.E = []) (s x : Tmp) (t : TypeId) (z : Value) (bytes : Nat) (ht : Pr.underlying t = some (.slice e)) (hinfo : (Pr.info? e).map (fun i => (i.zero, i.size, i.bytes)) = some (some z, d.sz, bytes)) (hz : z.cells.size = d.sz) (hs0 : 0 < d.sz) (hb0 : 0 < bytes) (hbb : bytes ≤ 1000)
  (S : ae (St w P ((v.ownBlock, o) :: bs) ow ts ro W)) (hI : ae (KR d e w.heap.size v xs o)) {A : Option Addr} {c : Nat} (ys : List α) (hC : d.C W A ys.length ys) (hK : ∀ W b ok y cs, d.K W y cs → d.M W b ok y cs) (hl : xs.length + ys.length ≤ 1000000000)
  (h : ∀ A1 c1 o1 w1, ae (St w P (((Value.slice A1 (xs ++ ys).length c1).ownBlock, o1) :: bs) ow ts ro w1) → ae (KR d e w.heap.size (.slice A1 (xs ++ ys).length c1) (xs ++ ys) o1) → wpList Pr ops Q rest (a.put op.dst (.slice A1 (xs ++ ys).length c1)) w1)
  (hgd : op.guard = none := by rfl) (ho : op.op = .call { callee := .builtin .append, args := #[.tmp s, .tmp x], argTypes := #[t, t] } := by rfl) (hs : a.eval (.tmp s) = v := by rfl) (hx : a.eval (.tmp x) = .slice A ys.length c := by rfl) :
  wpList Pr ops Q (op :: rest) a W := by
 have hR := hI.out W (S.out.blk _ List.mem_cons_self)
 refine Kd.rE d (Rr := d.K W) (w0 := w) w.heap.size hgd (.tmp s) (.tmp x) t e z bytes ho ht hinfo hz hs0 hb0 v xs ys A ys.length c (fun _ => True) (fun _ => False) hs hx (Kd.lL hR (fun _ _ => trivial)) hC (fun y cs h => hK _ _ _ y cs h) (fun _ hk => hk.elim) (fun _ _ => trivial) S.out.below S.out.below.size
  (Nat.le_trans (Nat.mul_le_mul hl hbb) (by decide)) ?_
 intro v1 w1 hr hb hg hat
 obtain ⟨A1, c1, rfl⟩ := Kd.jw hr
 obtain ⟨o1, h1, h2⟩ := MF hE hr (Nat.le_refl _)
 exact h A1 c1 o1 w1 ⟨S.out.Kt hb hg hat h1⟩ ⟨h2⟩
end
section
variable {w W W1 : World} {P : Nat → Prop} {bs : List (Option Nat × Obj)} {ow : List (Value × List ai)} {ts : List (Value × List ai)} {ro : List (Addr × Value)}
theorem St.af9 (new : List (Option Nat × Obj)) (S : St w P bs ow ts ro W) (hk : ∀ p, p ∈ new → ∀ g, p.1 = some g → W.heap.size ≤ g ∧ W1.heap[g]? = some p.2) (hnd : (new.filterMap (·.1)).Nodup) (hb : Below W.heap.size W W1) : St w P (new ++ bs) ow ts ro W1 := by
 have ke : keys (new ++ bs) ow = new.filterMap (·.1) ++ keys bs ow := by unfold keys; rw [List.filterMap_append, List.append_assoc]
 have hn : ∀ k, k ∈ new.filterMap (·.1) → W.heap.size ≤ k ∧ k < W1.heap.size := fun k h => by
  obtain ⟨p, hp, he⟩ := List.mem_filterMap.1 h
  exact ⟨(hk p hp k he).1, fU (hk p hp k he).2⟩
 have hnot : ∀ k, k < W.heap.size → k ∉ keys bs ow → k ∉ keys (new ++ bs) ow := fun k h1 h2 h3 => by
  rw [ke] at h3
  rcases List.mem_append.1 h3 with h | h
  ·have := (hn k h).1; omega
  ·exact h2 h
 refine ⟨ak S.below hb, fun p hp g hg => ?_, fun k h => ?_, ?_, fun t ht => ?_, fun r hr => ?_, fun c hc => ?_⟩
 ·rcases List.mem_append.1 hp with h | h
  ·exact (hk p h g hg).2
  ·exact aN (S.blk p h g hg) hb
 ·rw [ke] at h
  rcases List.mem_append.1 h with h | h
  ·exact ⟨Nat.le_trans S.below.size (hn k h).1, (hn k h).2⟩
  ·exact ⟨(S.new k h).1, Nat.lt_of_lt_of_le (S.new k h).2 hb.size⟩
 ·rw [ke]
  refine List.nodup_append.2 ⟨hnd, S.nd, fun x hx y hy => ?_⟩
  rintro rfl
  have := (hn x hx).1
  have := S.lt hy
  omega
 ·exact Kd.iQ (Kd.mY (Kd.Fg (S.tree t ht)) hb) (fun k h => ⟨h.1.1, hnot k h.2 h.1.2⟩)
 ·exact Kd.jb (Kd.rJ (Kd.BA (S.own r hr)) hb) (fun k h => h.1.imp (fun h1 => ⟨h1.1, hnot k h.2 h1.2⟩) id)
 ·exact ⟨(hb.cell (World.block_lt_of_cell? W _ (S.cell c hc).1)).trans (S.cell c hc).1, hnot _ (World.block_lt_of_cell? W _ (S.cell c hc).1) (S.cell c hc).2⟩
structure Two {α β : Type} (d : Kd α) (e : TypeId) (d' : Kd β) (e' : TypeId) (w w' : World) (v : Value) (l : List α) (v' : Value) (l' : List β) (o o' : Obj) : Prop where
 one : KR d e w.heap.size v l o
 two : KR d' e' w.heap.size v' l' o'
 at1 : ∀ g, v.ownBlock = some g → w.heap.size ≤ g ∧ w'.heap[g]? = some o
 at2 : ∀ g, v'.ownBlock = some g → w.heap.size ≤ g ∧ w'.heap[g]? = some o'
 ne : ∀ g, v.ownBlock = some g → v'.ownBlock ≠ some g
theorem Cb {α : Type} {d : Kd α} {e : TypeId} {b b' : Nat} {v : Value} {l : List α} {o : Obj} (h : KR d e b v l o) (hb : b' ≤ b) : KR d e b' v l o := fun W hW => Kd.rM (h W hW) hb
theorem St.two {α β : Type} {d : Kd α} {e : TypeId} {d' : Kd β} {e' : TypeId} {v v' : Value} {l : List α} {l' : List β} {o o' : Obj} (S : St w P bs ow ts ro W) (h : Two d e d' e' W W1 v l v' l' o o') (hb : Below W.heap.size W W1) :
  St w P ((v.ownBlock, o) :: (v'.ownBlock, o') :: bs) ow ts ro W1 ∧ KR d e w.heap.size v l o ∧ KR d' e' w.heap.size v' l' o' := by
 refine ⟨S.af9 [(v.ownBlock, o), (v'.ownBlock, o')] (fun p hp g hg => ?_) ?_ hb, Cb h.one S.below.size, Cb h.two S.below.size⟩
 ·simp only [List.mem_cons, List.not_mem_nil, or_false] at hp
  rcases hp with rfl | rfl
  ·exact h.at1 g hg
  ·exact h.at2 g hg
 ·cases h1 : v.ownBlock with
  | none => cases h2 : v'.ownBlock <;> simp
  | some g =>
   have hn := h.ne g h1
   cases h2 : v'.ownBlock with
   | none => simp
   | some g' =>
    rw [h2] at hn
    simp
    intro he
    exact hn (by rw [he])
theorem St.V9 {α β : Type} {d : Kd α} {e : TypeId} {d' : Kd β} {e' : TypeId} {v v' : Value} {l : List α} {l' : List β} {o o' : Obj} (S : St w P ((v.ownBlock, o) :: (v'.ownBlock, o') :: bs) ow ts ro W) (h1 : KR d e w.heap.size v l o) (h2 : KR d' e' w.heap.size v' l' o') : Two d e d' e' w W v l v' l' o o' := by
 refine ⟨h1, h2, fun g hg => ⟨(S.new g (mem_keys (List.mem_cons_self) hg)).1, S.blk _ List.mem_cons_self g hg⟩, fun g hg => ⟨(S.new g (mem_keys (List.mem_cons_of_mem _ List.mem_cons_self) hg)).1, S.blk _ (List.mem_cons_of_mem _ List.mem_cons_self) g hg⟩, fun g hg hg2 => ?_⟩
 have hnd := S.nd
 unfold keys at hnd
 rw [List.filterMap_cons, List.filterMap_cons, hg, hg2] at hnd
 exact (List.nodup_cons.1 hnd).1 (by simp)
theorem St.Tu {α : Type} {d : Kd α} {e : TypeId} {v : Value} {l : List α} {o : Obj} (S : St w P bs ow ts ro W) (h : KR d e w.heap.size v l o) (hm : (v.ownBlock, o) ∈ bs) : d.R e W w.heap.size (fun _ => True) v l := Kd.lL (Ny h S hm) (fun _ _ => trivial)
end
end Go.Proofs.Ytfdmfgaiblfbhaa.P
namespace Go.Proofs.Ytfdmfgaiblfbhaa.P
open Go.RowKit Go.Proofs.ag.aA Go.Proofs.ag.bg Go.Proofs.ag.bG
attribute [local go_sem] jD jQ kM kV jo jq kC kD
def xI.f (ay : Int) (aI : Int) (aC : Int) (aH : Int) : Option (Bool) := if ay ≥ 0 then (if aC ≥ 1 then (if aC ≤ 10000 then (if ay ≤ (wrap64 (10000 - aC)) then (if aI ≥ 0 then (if aH ≥ 1 then (if aH ≤ 10000 then (some (decide (aI ≤ (wrap64 (10000 - aH))))) else (some false)) else (some false)) else (some false)) else (some false)) else (some false)) else (some false)) else (some false)
theorem xI.calls (ay : Int) (aI : Int) (aC : Int) (aH : Int) (r : Bool) (w : World) (h : xI.f ay aI aC aH = some r) :
  Calls Try.prog 128 #[.agg #[.int .i64 ay, .int .i64 aI, .int .i64 aC, .int .i64 aH]] w fun e w' => e = .returned (.bool r) ∧ Below w.heap.size w w' := by
 have SV := Try.underlying23
 have HB := ae.mk (Below.refl w.heap.size w)
 have H : (if ay ≥ 0 then (if aC ≥ 1 then (if aC ≤ 10000 then (if ay ≤ (wrap64 (10000 - aC)) then (if aI ≥ 0 then (if aH ≥ 1 then (if aH ≤ 10000 then (some (decide (aI ≤ (wrap64 (10000 - aH))))) else (some false)) else (some false)) else (some false)) else (some false)) else (some false)) else (some false)) else (some false)) = some r := h
 clear h
 by_cases c2 : ay ≥ 0
 ·rw [if_pos c2] at H
  have Gw : decide (0 ≤ ay) = true := decide_eq_true c2
  clear c2
  by_cases c3 : aC ≥ 1
  ·rw [if_pos c3] at H
   have vz : decide (1 ≤ aC) = true := decide_eq_true c3
   clear c3
   by_cases c4 : aC ≤ 10000
   ·rw [if_pos c4] at H
    have oJ : decide (aC ≤ 10000) = true := decide_eq_true c4
    clear c4
    by_cases c5 : ay ≤ (wrap64 (10000 - aC))
    ·rw [if_pos c5] at H
     have DN : decide (ay ≤ (wrap64 (10000 - aC))) = true := decide_eq_true c5
     clear c5
     by_cases c6 : aI ≥ 0
     ·rw [if_pos c6] at H
      have CB : decide (0 ≤ aI) = true := decide_eq_true c6
      clear c6
      by_cases c7 : aH ≥ 1
      ·rw [if_pos c7] at H
       have vC : decide (1 ≤ aH) = true := decide_eq_true c7
       clear c7
       by_cases c8 : aH ≤ 10000
       ·rw [if_pos c8] at H
        have Bh : decide (aH ≤ 10000) = true := decide_eq_true c8
        clear c8
        obtain rfl := Option.some.inj H
        go_enter Try.func128, Try.ntmps128
        go_wp2_with (((with_reducible refine au (N := 1) rfl ?_); refine aG ?hg (N := 1) ?hd (cs := #[.int .i64 ay, .int .i64 aI, .int .i64 aC, .int .i64 aH]) (t := 23) ?hr ?_; (case hd => rfl); (case hg => rfl); (case hr => (go_simp; done)); intro gY hg w9 hbox hb; have dH := ae.mk (hbox); replace HB := ae.mk (ak (by repeat ((with_reducible exact HB.out))) hb); clear hb hbox hg; have Jz : w9.cell? ⟨gY, 0, none⟩ = some (.int .i64 ay) := (af dH.out 0).trans rfl; have JA : w9.cell? ⟨gY, 1, none⟩ = some (.int .i64 aI) := (af dH.out 1).trans rfl; have JB : w9.cell? ⟨gY, 2, none⟩ = some (.int .i64 aC) := (af dH.out 2).trans rfl; have JC : w9.cell? ⟨gY, 3, none⟩ = some (.int .i64 aH) := (af dH.out 3).trans rfl; have JH := ah dH.out 0; have JI := ah dH.out 1; have JJ := ah dH.out 2; have JK := ah dH.out 3))
        go_ret
        exact ⟨by rfl, by repeat ((with_reducible exact HB.out))⟩
       ·rw [if_neg c8] at H
        have Bh : decide (aH ≤ 10000) = false := decide_eq_false c8
        clear c8
        obtain rfl := Option.some.inj H
        go_enter Try.func128, Try.ntmps128
        go_wp2_with (((with_reducible refine au (N := 1) rfl ?_); refine aG ?hg (N := 1) ?hd (cs := #[.int .i64 ay, .int .i64 aI, .int .i64 aC, .int .i64 aH]) (t := 23) ?hr ?_; (case hd => rfl); (case hg => rfl); (case hr => (go_simp; done)); intro gY hg uu hbox hb; have dH := ae.mk (hbox); replace HB := ae.mk (ak (by repeat ((with_reducible exact HB.out))) hb); clear hb hbox hg; have QI : uu.cell? ⟨gY, 0, none⟩ = some (.int .i64 ay) := (af dH.out 0).trans rfl; have QJ : uu.cell? ⟨gY, 1, none⟩ = some (.int .i64 aI) := (af dH.out 1).trans rfl; have QK : uu.cell? ⟨gY, 2, none⟩ = some (.int .i64 aC) := (af dH.out 2).trans rfl; have QL : uu.cell? ⟨gY, 3, none⟩ = some (.int .i64 aH) := (af dH.out 3).trans rfl; have QQ := ah dH.out 0; have QR := ah dH.out 1; have QS := ah dH.out 2; have QT := ah dH.out 3))
        go_ret
        exact ⟨by rfl, by repeat ((with_reducible exact HB.out))⟩
      ·rw [if_neg c7] at H
       have vC : decide (1 ≤ aH) = false := decide_eq_false c7
       clear c7
       obtain rfl := Option.some.inj H
       go_enter Try.func128, Try.ntmps128
       go_wp2_with (((with_reducible refine au (N := 1) rfl ?_); refine aG ?hg (N := 1) ?hd (cs := #[.int .i64 ay, .int .i64 aI, .int .i64 aC, .int .i64 aH]) (t := 23) ?hr ?_; (case hd => rfl); (case hg => rfl); (case hr => (go_simp; done)); intro gY hg uw hbox hb; have dH := ae.mk (hbox); replace HB := ae.mk (ak (by repeat ((with_reducible exact HB.out))) hb); clear hb hbox hg; have JD : uw.cell? ⟨gY, 0, none⟩ = some (.int .i64 ay) := (af dH.out 0).trans rfl; have JE : uw.cell? ⟨gY, 1, none⟩ = some (.int .i64 aI) := (af dH.out 1).trans rfl; have JF : uw.cell? ⟨gY, 2, none⟩ = some (.int .i64 aC) := (af dH.out 2).trans rfl; have JG : uw.cell? ⟨gY, 3, none⟩ = some (.int .i64 aH) := (af dH.out 3).trans rfl; have JL := ah dH.out 0; have JM := ah dH.out 1; have JO := ah dH.out 2; have JP := ah dH.out 3))
       go_ret
       exact ⟨by rfl, by repeat ((with_reducible exact HB.out))⟩
     ·rw [if_neg c6] at H
      have CB : decide (0 ≤ aI) = false := decide_eq_false c6
      clear c6
      obtain rfl := Option.some.inj H
      go_enter Try.func128, Try.ntmps128
      go_wp2_with (((with_reducible refine au (N := 1) rfl ?_); refine aG ?hg (N := 1) ?hd (cs := #[.int .i64 ay, .int .i64 aI, .int .i64 aC, .int .i64 aH]) (t := 23) ?hr ?_; (case hd => rfl); (case hg => rfl); (case hr => (go_simp; done)); intro gY hg uU hbox hb; have dH := ae.mk (hbox); replace HB := ae.mk (ak (by repeat ((with_reducible exact HB.out))) hb); clear hb hbox hg; have QM : uU.cell? ⟨gY, 0, none⟩ = some (.int .i64 ay) := (af dH.out 0).trans rfl; have QN : uU.cell? ⟨gY, 1, none⟩ = some (.int .i64 aI) := (af dH.out 1).trans rfl; have QO : uU.cell? ⟨gY, 2, none⟩ = some (.int .i64 aC) := (af dH.out 2).trans rfl; have QP : uU.cell? ⟨gY, 3, none⟩ = some (.int .i64 aH) := (af dH.out 3).trans rfl; have QU := ah dH.out 0; have QV := ah dH.out 1; have QW := ah dH.out 2; have QX := ah dH.out 3))
      go_ret
      exact ⟨by rfl, by repeat ((with_reducible exact HB.out))⟩
    ·rw [if_neg c5] at H
     have DN : decide (ay ≤ (wrap64 (10000 - aC))) = false := decide_eq_false c5
     clear c5
     obtain rfl := Option.some.inj H
     go_enter Try.func128, Try.ntmps128
     go_wp2_with (((with_reducible refine au (N := 1) rfl ?_); refine aG ?hg (N := 1) ?hd (cs := #[.int .i64 ay, .int .i64 aI, .int .i64 aC, .int .i64 aH]) (t := 23) ?hr ?_; (case hd => rfl); (case hg => rfl); (case hr => (go_simp; done)); intro gY hg Zb hbox hb; have dH := ae.mk (hbox); replace HB := ae.mk (ak (by repeat ((with_reducible exact HB.out))) hb); clear hb hbox hg; have Z7 : Zb.cell? ⟨gY, 0, none⟩ = some (.int .i64 ay) := (af dH.out 0).trans rfl; have Z8 : Zb.cell? ⟨gY, 1, none⟩ = some (.int .i64 aI) := (af dH.out 1).trans rfl; have Z9 : Zb.cell? ⟨gY, 2, none⟩ = some (.int .i64 aC) := (af dH.out 2).trans rfl; have Z_ : Zb.cell? ⟨gY, 3, none⟩ = some (.int .i64 aH) := (af dH.out 3).trans rfl; have aaL := ah dH.out 0; have aaM := ah dH.out 1; have aaN := ah dH.out 2; have aaO := ah dH.out 3))
     go_ret
     exact ⟨by rfl, by repeat ((with_reducible exact HB.out))⟩
   ·rw [if_neg c4] at H
    have oJ : decide (aC ≤ 10000) = false := decide_eq_false c4
    clear c4
    obtain rfl := Option.some.inj H
    go_enter Try.func128, Try.ntmps128
    go_wp2_with (((with_reducible refine au (N := 1) rfl ?_); refine aG ?hg (N := 1) ?hd (cs := #[.int .i64 ay, .int .i64 aI, .int .i64 aC, .int .i64 aH]) (t := 23) ?hr ?_; (case hd => rfl); (case hg => rfl); (case hr => (go_simp; done)); intro gY hg Jb hbox hb; have dH := ae.mk (hbox); replace HB := ae.mk (ak (by repeat ((with_reducible exact HB.out))) hb); clear hb hbox hg; have aab : Jb.cell? ⟨gY, 0, none⟩ = some (.int .i64 ay) := (af dH.out 0).trans rfl; have aac : Jb.cell? ⟨gY, 1, none⟩ = some (.int .i64 aI) := (af dH.out 1).trans rfl; have aad : Jb.cell? ⟨gY, 2, none⟩ = some (.int .i64 aC) := (af dH.out 2).trans rfl; have aae : Jb.cell? ⟨gY, 3, none⟩ = some (.int .i64 aH) := (af dH.out 3).trans rfl; have aaP := ah dH.out 0; have aaQ := ah dH.out 1; have aaR := ah dH.out 2; have aaS := ah dH.out 3))
    go_ret
    exact ⟨by rfl, by repeat ((with_reducible exact HB.out))⟩
  ·rw [if_neg c3] at H
   have vz : decide (1 ≤ aC) = false := decide_eq_false c3
   clear c3
   obtain rfl := Option.some.inj H
   go_enter Try.func128, Try.ntmps128
   go_wp2_with (((with_reducible refine au (N := 1) rfl ?_); refine aG ?hg (N := 1) ?hd (cs := #[.int .i64 ay, .int .i64 aI, .int .i64 aC, .int .i64 aH]) (t := 23) ?hr ?_; (case hd => rfl); (case hg => rfl); (case hr => (go_simp; done)); intro gY hg Gg hbox hb; have dH := ae.mk (hbox); replace HB := ae.mk (ak (by repeat ((with_reducible exact HB.out))) hb); clear hb hbox hg; have aaf : Gg.cell? ⟨gY, 0, none⟩ = some (.int .i64 ay) := (af dH.out 0).trans rfl; have aag : Gg.cell? ⟨gY, 1, none⟩ = some (.int .i64 aI) := (af dH.out 1).trans rfl; have aah : Gg.cell? ⟨gY, 2, none⟩ = some (.int .i64 aC) := (af dH.out 2).trans rfl; have aai : Gg.cell? ⟨gY, 3, none⟩ = some (.int .i64 aH) := (af dH.out 3).trans rfl; have aaT := ah dH.out 0; have aaU := ah dH.out 1; have aaV := ah dH.out 2; have aaW := ah dH.out 3))
   go_ret
   exact ⟨by rfl, by repeat ((with_reducible exact HB.out))⟩
 ·rw [if_neg c2] at H
  have Gw : decide (0 ≤ ay) = false := decide_eq_false c2
  clear c2
  obtain rfl := Option.some.inj H
  go_enter Try.func128, Try.ntmps128
  go_wp2_with (((with_reducible refine au (N := 1) rfl ?_); refine aG ?hg (N := 1) ?hd (cs := #[.int .i64 ay, .int .i64 aI, .int .i64 aC, .int .i64 aH]) (t := 23) ?hr ?_; (case hd => rfl); (case hg => rfl); (case hr => (go_simp; done)); intro gY hg Jc hbox hb; have dH := ae.mk (hbox); replace HB := ae.mk (ak (by repeat ((with_reducible exact HB.out))) hb); clear hb hbox hg; have aaj : Jc.cell? ⟨gY, 0, none⟩ = some (.int .i64 ay) := (af dH.out 0).trans rfl; have aak : Jc.cell? ⟨gY, 1, none⟩ = some (.int .i64 aI) := (af dH.out 1).trans rfl; have aal : Jc.cell? ⟨gY, 2, none⟩ = some (.int .i64 aC) := (af dH.out 2).trans rfl; have aam : Jc.cell? ⟨gY, 3, none⟩ = some (.int .i64 aH) := (af dH.out 3).trans rfl; have aaX := ah dH.out 0; have aaY := ah dH.out 1; have aaZ := ah dH.out 2; have aa0 := ah dH.out 3))
  go_ret
  exact ⟨by rfl, by repeat ((with_reducible exact HB.out))⟩
def o_.f (ay : Int) (aI : Int) (aC : Int) (aH : Int) : Option (Bool) := if ay < 0 then (some false) else (if ay > 10000 then (some false) else (if aI < 0 then (some false) else (if aI > 10000 then (some false) else (if aC > 0 then (if aC ≤ 10000 then (if aH > 0 then (if aH ≤ 10000 then (if (wrap64 (ay + aC)) ≤ 10000 then (some (decide ((wrap64 (aI + aH)) ≤ 10000))) else (some false)) else (some false)) else (some false)) else (some false)) else (some false)))))
theorem o_.calls (ay : Int) (aI : Int) (aC : Int) (aH : Int) (r : Bool) (w : World) (h : o_.f ay aI aC aH = some r) :
  Calls Try.prog 57 #[.agg #[.int .i64 ay, .int .i64 aI, .int .i64 aC, .int .i64 aH]] w fun e w' => e = .returned (.bool r) ∧ Below w.heap.size w w' := by
 have SV := Try.underlying23
 have HB := ae.mk (Below.refl w.heap.size w)
 have H : (if ay < 0 then (some false) else (if ay > 10000 then (some false) else (if aI < 0 then (some false) else (if aI > 10000 then (some false) else (if aC > 0 then (if aC ≤ 10000 then (if aH > 0 then (if aH ≤ 10000 then (if (wrap64 (ay + aC)) ≤ 10000 then (some (decide ((wrap64 (aI + aH)) ≤ 10000))) else (some false)) else (some false)) else (some false)) else (some false)) else (some false)))))) = some r := h
 clear h
 by_cases c2 : ay < 0
 ·rw [if_pos c2] at H
  have Gw : decide (ay < 0) = true := decide_eq_true c2
  clear c2
  obtain rfl := Option.some.inj H
  go_enter Try.func57, Try.ntmps57
  go_wp2_with (((with_reducible refine au (N := 1) rfl ?_); refine aG ?hg (N := 1) ?hd (cs := #[.int .i64 ay, .int .i64 aI, .int .i64 aC, .int .i64 aH]) (t := 23) ?hr ?_; (case hd => rfl); (case hg => rfl); (case hr => (go_simp; done)); intro fP hg w3 hbox hb; have bH := ae.mk (hbox); replace HB := ae.mk (ak (by repeat ((with_reducible exact HB.out))) hb); clear hb hbox hg; have OI : w3.cell? ⟨fP, 0, none⟩ = some (.int .i64 ay) := (af bH.out 0).trans rfl; have OJ : w3.cell? ⟨fP, 1, none⟩ = some (.int .i64 aI) := (af bH.out 1).trans rfl; have OL : w3.cell? ⟨fP, 2, none⟩ = some (.int .i64 aC) := (af bH.out 2).trans rfl; have OM : w3.cell? ⟨fP, 3, none⟩ = some (.int .i64 aH) := (af bH.out 3).trans rfl; have OT := ah bH.out 0; have OU := ah bH.out 1; have OV := ah bH.out 2; have OW := ah bH.out 3))
  go_ret
  exact ⟨by rfl, by repeat ((with_reducible exact HB.out))⟩
 ·rw [if_neg c2] at H
  have Gw : decide (ay < 0) = false := decide_eq_false c2
  clear c2
  by_cases c5 : ay > 10000
  ·rw [if_pos c5] at H
   have DN : decide (10000 < ay) = true := decide_eq_true c5
   clear c5
   obtain rfl := Option.some.inj H
   go_enter Try.func57, Try.ntmps57
   go_wp2_with (((with_reducible refine au (N := 1) rfl ?_); refine aG ?hg (N := 1) ?hd (cs := #[.int .i64 ay, .int .i64 aI, .int .i64 aC, .int .i64 aH]) (t := 23) ?hr ?_; (case hd => rfl); (case hg => rfl); (case hr => (go_simp; done)); intro fP hg w6 hbox hb; have bH := ae.mk (hbox); replace HB := ae.mk (ak (by repeat ((with_reducible exact HB.out))) hb); clear hb hbox hg; have Vh : w6.cell? ⟨fP, 0, none⟩ = some (.int .i64 ay) := (af bH.out 0).trans rfl; have Vj : w6.cell? ⟨fP, 1, none⟩ = some (.int .i64 aI) := (af bH.out 1).trans rfl; have Vk : w6.cell? ⟨fP, 2, none⟩ = some (.int .i64 aC) := (af bH.out 2).trans rfl; have Vl : w6.cell? ⟨fP, 3, none⟩ = some (.int .i64 aH) := (af bH.out 3).trans rfl; have VB := ah bH.out 0; have VC := ah bH.out 1; have VD := ah bH.out 2; have VE := ah bH.out 3))
   go_ret
   exact ⟨by rfl, by repeat ((with_reducible exact HB.out))⟩
  ·rw [if_neg c5] at H
   have DN : decide (10000 < ay) = false := decide_eq_false c5
   clear c5
   by_cases c8 : aI < 0
   ·rw [if_pos c8] at H
    have Bh : decide (aI < 0) = true := decide_eq_true c8
    clear c8
    obtain rfl := Option.some.inj H
    go_enter Try.func57, Try.ntmps57
    go_wp2_with (((with_reducible refine au (N := 1) rfl ?_); refine aG ?hg (N := 1) ?hd (cs := #[.int .i64 ay, .int .i64 aI, .int .i64 aC, .int .i64 aH]) (t := 23) ?hr ?_; (case hd => rfl); (case hg => rfl); (case hr => (go_simp; done)); intro fP hg w9 hbox hb; have bH := ae.mk (hbox); replace HB := ae.mk (ak (by repeat ((with_reducible exact HB.out))) hb); clear hb hbox hg; have Jz : w9.cell? ⟨fP, 0, none⟩ = some (.int .i64 ay) := (af bH.out 0).trans rfl; have JA : w9.cell? ⟨fP, 1, none⟩ = some (.int .i64 aI) := (af bH.out 1).trans rfl; have JB : w9.cell? ⟨fP, 2, none⟩ = some (.int .i64 aC) := (af bH.out 2).trans rfl; have JC : w9.cell? ⟨fP, 3, none⟩ = some (.int .i64 aH) := (af bH.out 3).trans rfl; have JH := ah bH.out 0; have JI := ah bH.out 1; have JJ := ah bH.out 2; have JK := ah bH.out 3))
    go_ret
    exact ⟨by rfl, by repeat ((with_reducible exact HB.out))⟩
   ·rw [if_neg c8] at H
    have Bh : decide (aI < 0) = false := decide_eq_false c8
    clear c8
    by_cases c11 : aI > 10000
    ·rw [if_pos c11] at H
     have MJ : decide (10000 < aI) = true := decide_eq_true c11
     clear c11
     obtain rfl := Option.some.inj H
     go_enter Try.func57, Try.ntmps57
     go_wp2_with (((with_reducible refine au (N := 1) rfl ?_); refine aG ?hg (N := 1) ?hd (cs := #[.int .i64 ay, .int .i64 aI, .int .i64 aC, .int .i64 aH]) (t := 23) ?hr ?_; (case hd => rfl); (case hg => rfl); (case hr => (go_simp; done)); intro fP hg w12 hbox hb; have bH := ae.mk (hbox); replace HB := ae.mk (ak (by repeat ((with_reducible exact HB.out))) hb); clear hb hbox hg; have ZR : w12.cell? ⟨fP, 0, none⟩ = some (.int .i64 ay) := (af bH.out 0).trans rfl; have ZT : w12.cell? ⟨fP, 1, none⟩ = some (.int .i64 aI) := (af bH.out 1).trans rfl; have ZU : w12.cell? ⟨fP, 2, none⟩ = some (.int .i64 aC) := (af bH.out 2).trans rfl; have ZV : w12.cell? ⟨fP, 3, none⟩ = some (.int .i64 aH) := (af bH.out 3).trans rfl; have aaB := ah bH.out 0; have aaC := ah bH.out 1; have aaD := ah bH.out 2; have aaE := ah bH.out 3))
     go_ret
     exact ⟨by rfl, by repeat ((with_reducible exact HB.out))⟩
    ·rw [if_neg c11] at H
     have MJ : decide (10000 < aI) = false := decide_eq_false c11
     clear c11
     by_cases c14 : aC > 0
     ·rw [if_pos c14] at H
      have af' : decide (0 < aC) = true := decide_eq_true c14
      clear c14
      by_cases c15 : aC ≤ 10000
      ·rw [if_pos c15] at H
       have aga : decide (aC ≤ 10000) = true := decide_eq_true c15
       clear c15
       by_cases c16 : aH > 0
       ·rw [if_pos c16] at H
        have agb : decide (0 < aH) = true := decide_eq_true c16
        clear c16
        by_cases c17 : aH ≤ 10000
        ·rw [if_pos c17] at H
         have agc : decide (aH ≤ 10000) = true := decide_eq_true c17
         clear c17
         by_cases c18 : (wrap64 (ay + aC)) ≤ 10000
         ·rw [if_pos c18] at H
          have agd : decide ((wrap64 (ay + aC)) ≤ 10000) = true := decide_eq_true c18
          clear c18
          obtain rfl := Option.some.inj H
          go_enter Try.func57, Try.ntmps57
          go_wp2_with (((with_reducible refine au (N := 1) rfl ?_); refine aG ?hg (N := 1) ?hd (cs := #[.int .i64 ay, .int .i64 aI, .int .i64 aC, .int .i64 aH]) (t := 23) ?hr ?_; (case hd => rfl); (case hg => rfl); (case hr => (go_simp; done)); intro fP hg Jb hbox hb; have bH := ae.mk (hbox); replace HB := ae.mk (ak (by repeat ((with_reducible exact HB.out))) hb); clear hb hbox hg; have aab : Jb.cell? ⟨fP, 0, none⟩ = some (.int .i64 ay) := (af bH.out 0).trans rfl; have aac : Jb.cell? ⟨fP, 1, none⟩ = some (.int .i64 aI) := (af bH.out 1).trans rfl; have aad : Jb.cell? ⟨fP, 2, none⟩ = some (.int .i64 aC) := (af bH.out 2).trans rfl; have aae : Jb.cell? ⟨fP, 3, none⟩ = some (.int .i64 aH) := (af bH.out 3).trans rfl; have aaP := ah bH.out 0; have aaQ := ah bH.out 1; have aaR := ah bH.out 2; have aaS := ah bH.out 3))
          go_ret
          exact ⟨by rfl, by repeat ((with_reducible exact HB.out))⟩
         ·rw [if_neg c18] at H
          have agd : decide ((wrap64 (ay + aC)) ≤ 10000) = false := decide_eq_false c18
          clear c18
          obtain rfl := Option.some.inj H
          go_enter Try.func57, Try.ntmps57
          go_wp2_with (((with_reducible refine au (N := 1) rfl ?_); refine aG ?hg (N := 1) ?hd (cs := #[.int .i64 ay, .int .i64 aI, .int .i64 aC, .int .i64 aH]) (t := 23) ?hr ?_; (case hd => rfl); (case hg => rfl); (case hr => (go_simp; done)); intro fP hg Gg hbox hb; have bH := ae.mk (hbox); replace HB := ae.mk (ak (by repeat ((with_reducible exact HB.out))) hb); clear hb hbox hg; have aaf : Gg.cell? ⟨fP, 0, none⟩ = some (.int .i64 ay) := (af bH.out 0).trans rfl; have aag : Gg.cell? ⟨fP, 1, none⟩ = some (.int .i64 aI) := (af bH.out 1).trans rfl; have aah : Gg.cell? ⟨fP, 2, none⟩ = some (.int .i64 aC) := (af bH.out 2).trans rfl; have aai : Gg.cell? ⟨fP, 3, none⟩ = some (.int .i64 aH) := (af bH.out 3).trans rfl; have aaT := ah bH.out 0; have aaU := ah bH.out 1; have aaV := ah bH.out 2; have aaW := ah bH.out 3))
          go_ret
          exact ⟨by rfl, by repeat ((with_reducible exact HB.out))⟩
        ·rw [if_neg c17] at H
         have agc : decide (aH ≤ 10000) = false := decide_eq_false c17
         clear c17
         obtain rfl := Option.some.inj H
         go_enter Try.func57, Try.ntmps57
         go_wp2_with (((with_reducible refine au (N := 1) rfl ?_); refine aG ?hg (N := 1) ?hd (cs := #[.int .i64 ay, .int .i64 aI, .int .i64 aC, .int .i64 aH]) (t := 23) ?hr ?_; (case hd => rfl); (case hg => rfl); (case hr => (go_simp; done)); intro fP hg Jc hbox hb; have bH := ae.mk (hbox); replace HB := ae.mk (ak (by repeat ((with_reducible exact HB.out))) hb); clear hb hbox hg; have aaj : Jc.cell? ⟨fP, 0, none⟩ = some (.int .i64 ay) := (af bH.out 0).trans rfl; have aak : Jc.cell? ⟨fP, 1, none⟩ = some (.int .i64 aI) := (af bH.out 1).trans rfl; have aal : Jc.cell? ⟨fP, 2, none⟩ = some (.int .i64 aC) := (af bH.out 2).trans rfl; have aam : Jc.cell? ⟨fP, 3, none⟩ = some (.int .i64 aH) := (af bH.out 3).trans rfl; have aaX := ah bH.out 0; have aaY := ah bH.out 1; have aaZ := ah bH.out 2; have aa0 := ah bH.out 3))
         go_ret
         exact ⟨by rfl, by repeat ((with_reducible exact HB.out))⟩
       ·rw [if_neg c16] at H
        have agb : decide (0 < aH) = false := decide_eq_false c16
        clear c16
        obtain rfl := Option.some.inj H
        go_enter Try.func57, Try.ntmps57
        go_wp2_with (((with_reducible refine au (N := 1) rfl ?_); refine aG ?hg (N := 1) ?hd (cs := #[.int .i64 ay, .int .i64 aI, .int .i64 aC, .int .i64 aH]) (t := 23) ?hr ?_; (case hd => rfl); (case hg => rfl); (case hr => (go_simp; done)); intro fP hg Zc hbox hb; have bH := ae.mk (hbox); replace HB := ae.mk (ak (by repeat ((with_reducible exact HB.out))) hb); clear hb hbox hg; have aiC : Zc.cell? ⟨fP, 0, none⟩ = some (.int .i64 ay) := (af bH.out 0).trans rfl; have aiD : Zc.cell? ⟨fP, 1, none⟩ = some (.int .i64 aI) := (af bH.out 1).trans rfl; have aiE : Zc.cell? ⟨fP, 2, none⟩ = some (.int .i64 aC) := (af bH.out 2).trans rfl; have aiF : Zc.cell? ⟨fP, 3, none⟩ = some (.int .i64 aH) := (af bH.out 3).trans rfl; have aiV := ah bH.out 0; have aiW := ah bH.out 1; have aiX := ah bH.out 2; have aiY := ah bH.out 3))
        go_ret
        exact ⟨by rfl, by repeat ((with_reducible exact HB.out))⟩
      ·rw [if_neg c15] at H
       have aga : decide (aC ≤ 10000) = false := decide_eq_false c15
       clear c15
       obtain rfl := Option.some.inj H
       go_enter Try.func57, Try.ntmps57
       go_wp2_with (((with_reducible refine au (N := 1) rfl ?_); refine aG ?hg (N := 1) ?hd (cs := #[.int .i64 ay, .int .i64 aI, .int .i64 aC, .int .i64 aH]) (t := 23) ?hr ?_; (case hd => rfl); (case hg => rfl); (case hr => (go_simp; done)); intro fP hg Zd hbox hb; have bH := ae.mk (hbox); replace HB := ae.mk (ak (by repeat ((with_reducible exact HB.out))) hb); clear hb hbox hg; have aiG : Zd.cell? ⟨fP, 0, none⟩ = some (.int .i64 ay) := (af bH.out 0).trans rfl; have aiH : Zd.cell? ⟨fP, 1, none⟩ = some (.int .i64 aI) := (af bH.out 1).trans rfl; have aiI : Zd.cell? ⟨fP, 2, none⟩ = some (.int .i64 aC) := (af bH.out 2).trans rfl; have aiJ : Zd.cell? ⟨fP, 3, none⟩ = some (.int .i64 aH) := (af bH.out 3).trans rfl; have aiZ := ah bH.out 0; have ai0 := ah bH.out 1; have ai1 := ah bH.out 2; have ai2 := ah bH.out 3))
       go_ret
       exact ⟨by rfl, by repeat ((with_reducible exact HB.out))⟩
     ·rw [if_neg c14] at H
      have af' : decide (0 < aC) = false := decide_eq_false c14
      clear c14
      obtain rfl := Option.some.inj H
      go_enter Try.func57, Try.ntmps57
      go_wp2_with (((with_reducible refine au (N := 1) rfl ?_); refine aG ?hg (N := 1) ?hd (cs := #[.int .i64 ay, .int .i64 aI, .int .i64 aC, .int .i64 aH]) (t := 23) ?hr ?_; (case hd => rfl); (case hg => rfl); (case hr => (go_simp; done)); intro fP hg Ze hbox hb; have bH := ae.mk (hbox); replace HB := ae.mk (ak (by repeat ((with_reducible exact HB.out))) hb); clear hb hbox hg; have aiK : Ze.cell? ⟨fP, 0, none⟩ = some (.int .i64 ay) := (af bH.out 0).trans rfl; have aiL : Ze.cell? ⟨fP, 1, none⟩ = some (.int .i64 aI) := (af bH.out 1).trans rfl; have aiM : Ze.cell? ⟨fP, 2, none⟩ = some (.int .i64 aC) := (af bH.out 2).trans rfl; have aiN : Ze.cell? ⟨fP, 3, none⟩ = some (.int .i64 aH) := (af bH.out 3).trans rfl; have ai3 := ah bH.out 0; have ai4 := ah bH.out 1; have ai5 := ah bH.out 2; have ai6 := ah bH.out 3))
      go_ret
      exact ⟨by rfl, by repeat ((with_reducible exact HB.out))⟩
end Go.Proofs.Ytfdmfgaiblfbhaa.P
namespace Go.Proofs.Ytfdmfgaiblfbhaa.P
open Go.RowKit Go.Proofs.ag.aA Go.Proofs.ag.bg Go.Proofs.ag.bG
theorem wq {x : Int} (h0 : -9223372036854775808 ≤ x) (h1 : x ≤ 9223372036854775807) : wrap64 x = x := by unfold wrap64; omega
theorem DZ {α : Type} {c : Prop} [Decidable c] {g f : Nat → Option α} {r : α} (hc : c) (h : Ev g r) : Ev (fun k => if c then g k else f k) r := by simp only [if_pos hc]; exact h
theorem U2 {α : Type} {c : Prop} [Decidable c] {g f : Nat → Option α} {r : α} (hc : ¬c) (h : Ev f r) : Ev (fun k => if c then g k else f k) r := by simp only [if_neg hc]; exact h
def qB (X Y W H : Int) : Bool := decide (0 ≤ X ∧ 1 ≤ W ∧ W ≤ 10000 ∧ X + W ≤ 10000 ∧ 0 ≤ Y ∧ 1 ≤ H ∧ H ≤ 10000 ∧ Y + H ≤ 10000)
theorem vT {X Y W H : Int} : qB X Y W H = true ↔ (0 ≤ X ∧ 1 ≤ W ∧ W ≤ 10000 ∧ X + W ≤ 10000 ∧ 0 ≤ Y ∧ 1 ≤ H ∧ H ≤ 10000 ∧ Y + H ≤ 10000) := by unfold qB; rw [decide_eq_true_iff]
theorem Pg (X Y W H : Int) : xI.f X Y W H = some (qB X Y W H) := by
 unfold xI.f qB
 by_cases h1 : X ≥ 0
 ·by_cases h2 : W ≥ 1
  ·by_cases h3 : W ≤ 10000
   ·rw [if_pos h1, if_pos h2, if_pos h3, wq (x := 10000 - W) (by omega) (by omega)]
    by_cases h4 : X ≤ 10000 - W
    ·rw [if_pos h4]
     by_cases h5 : Y ≥ 0
     ·by_cases h6 : H ≥ 1
      ·by_cases h7 : H ≤ 10000
       ·rw [if_pos h5, if_pos h6, if_pos h7, wq (x := 10000 - H) (by omega) (by omega)]
        congr 1
        rw [decide_eq_decide]
        omega
       ·rw [if_pos h5, if_pos h6, if_neg h7, decide_eq_false (by omega)]
      ·rw [if_pos h5, if_neg h6, decide_eq_false (by omega)]
     ·rw [if_neg h5, decide_eq_false (by omega)]
    ·rw [if_neg h4, decide_eq_false (by omega)]
   ·rw [if_pos h1, if_pos h2, if_neg h3, decide_eq_false (by omega)]
  ·rw [if_pos h1, if_neg h2, decide_eq_false (by omega)]
 ·rw [if_neg h1, decide_eq_false (by omega)]
theorem F_ (X Y W H : Int) : o_.f X Y W H = some (qB X Y W H) := by
 unfold o_.f qB
 by_cases h1 : X < 0
 ·rw [if_pos h1, decide_eq_false (by omega)]
 ·rw [if_neg h1]
  by_cases h2 : X > 10000
  ·rw [if_pos h2, decide_eq_false (by omega)]
  ·rw [if_neg h2]
   by_cases h3 : Y < 0
   ·rw [if_pos h3, decide_eq_false (by omega)]
   ·rw [if_neg h3]
    by_cases h4 : Y > 10000
    ·rw [if_pos h4, decide_eq_false (by omega)]
    ·rw [if_neg h4]
     by_cases h5 : W > 0
     ·by_cases h6 : W ≤ 10000
      ·by_cases h7 : H > 0
       ·by_cases h8 : H ≤ 10000
        ·rw [if_pos h5, if_pos h6, if_pos h7, if_pos h8, wq (x := X + W) (by omega) (by omega), wq (x := Y + H) (by omega) (by omega)]
         by_cases h9 : X + W ≤ 10000
         ·rw [if_pos h9]
          congr 1
          rw [decide_eq_decide]
          omega
         ·rw [if_neg h9, decide_eq_false (by omega)]
        ·rw [if_pos h5, if_pos h6, if_pos h7, if_neg h8, decide_eq_false (by omega)]
       ·rw [if_pos h5, if_pos h6, if_neg h7, decide_eq_false (by omega)]
      ·rw [if_pos h5, if_neg h6, decide_eq_false (by omega)]
     ·rw [if_neg h5, decide_eq_false (by omega)]
def lq (r : dK) : Bool := qB r.f0 r.f1 r.f2 r.f3
def tX (ax X Y : Int) : Int := if ax = 2 then Y else X
def yT (ax X Y W H : Int) : Int → List Int → List dK
 | _, [] => []
 | off, n :: ns => (⟨tX ax (tX ax X Y + off) (tX ax Y X), tX ax (tX ax Y X) (tX ax X Y + off), tX ax n (tX ax H W), tX ax (tX ax H W) n⟩ : dK) :: yT ax X Y W H (off + n + 1) ns
theorem Ou (ax X Y W H : Int) : ∀ (ns : List Int) (off : Int), (yT ax X Y W H off ns).length = ns.length := by
 intro ns
 induction ns with
 | nil => intro off; rfl
 | cons n ns ih => intro off; simp [yT, ih]
def oM (ax s t e n : Int) : dK := ⟨tX ax s t, tX ax t s, tX ax n e, tX ax e n⟩
def oK (ax s t d e : Int) : Int → Bool → List dK → List dK → List Int → List dK × List dK × Bool
 | off, _, ps, ls, [] => if off = d then (ps, ls, true) else ([], [], false)
 | off, fst, ps, ls, n :: ns => if n < 1 ∨ d < (if fst then off else off + 1) + n then ([], [], false) else
  oK ax s t d e ((if fst then off else off + 1) + n) false (ps ++ [oM ax (s + (if fst then off else off + 1)) t e n]) (if fst then ls else ls ++ [oM ax (s + off) t e 1]) ns
def qX (X Y W H ax : Int) (sizes : List Int) : List dK × List dK × Bool :=
 if (ax = 1 ∨ ax = 2) ∧ qB X Y W H = true ∧ sizes ≠ [] then oK ax (tX ax X Y) (tX ax Y X) (tX ax W H) (tX ax H W) 0 true [] [] sizes else ([], [], false)
theorem Xv (ax s t d e : Int) : ∀ (ns : List Int) (off : Int) (f : Bool) (ps ls : List dK), (oK ax s t d e off f ps ls ns).1.length ≤ ps.length + ns.length ∧ (oK ax s t d e off f ps ls ns).2.1.length ≤ ls.length + ns.length := by
 intro ns
 induction ns with
 | nil => intro off f ps ls; unfold oK; split <;> simp
 | cons n ns ih =>
  intro off f ps ls
  unfold oK
  have hl : (if f then ls else ls ++ [oM ax (s + off) t e 1]).length ≤ ls.length + 1 := by cases f <;> simp
  generalize (if f then ls else ls ++ [oM ax (s + off) t e 1]) = ls' at hl ⊢
  generalize (if f then off else off + 1) = o
  by_cases hc : n < 1 ∨ d < o + n
  ·rw [if_pos hc]; simp
  ·rw [if_neg hc]
   have h := ih (o + n) false (ps ++ [oM ax (s + o) t e n]) ls'
   rw [List.length_append, List.length_singleton] at h
   rw [List.length_cons]
   omega
theorem UU (ax X Y W H : Int) : ∀ (ns : List Int) (off : Int) (f : Bool) (ps ls : List dK), (oK ax (tX ax X Y) (tX ax Y X) (tX ax W H) (tX ax H W) off f ps ls ns).2.2 = true →
  (oK ax (tX ax X Y) (tX ax Y X) (tX ax W H) (tX ax H W) off f ps ls ns).1 = ps ++ yT ax X Y W H (if f then off else off + 1) ns ∧ off + ns.sum + (ns.length : Int) - (if f ∧ ns ≠ [] then 1 else 0) = tX ax W H ∧ ∀ m, m ∈ ns → 1 ≤ m := by
 intro ns
 induction ns with
 | nil =>
  intro off f ps ls h
  unfold oK at h ⊢
  split at h
  ·rename_i ho
   rw [if_pos ho]
   exact ⟨by simp [yT], by simp [ho], fun m hm => by cases hm⟩
  ·cases h
 | cons n ns ih =>
  intro off f ps ls h
  unfold oK at h ⊢
  by_cases hn : n < 1 ∨ tX ax W H < (if f then off else off + 1) + n
  ·rw [if_pos hn] at h; cases h
  ·rw [if_neg hn] at h ⊢
   obtain ⟨h1, h2, h3⟩ := ih _ _ _ _ h
   refine ⟨?_, ?_, fun m hm => ?_⟩
   ·rw [h1, List.append_assoc]
    cases f <;> rfl
   ·rw [List.sum_cons, List.length_cons]
    cases f with
    | false => simp only [Bool.false_eq_true, if_false, false_and] at h2 ⊢; omega
    | true => simp only [Bool.false_eq_true, if_false, if_true, false_and] at h2 ⊢; rw [if_pos (by simp)]; omega
   ·rcases List.mem_cons.1 hm with rfl | hm
    ·omega
    ·exact h3 m hm
theorem Kv : ∀ (l : List Int), (∀ m, m ∈ l → 1 ≤ m) → (l.length : Int) ≤ l.sum := by
 intro l
 induction l with
 | nil => intro _; simp
 | cons x xs ih =>
  intro h
  have h1 := h x (by simp)
  have h2 := ih (fun m hm => h m (by simp [hm]))
  rw [List.sum_cons, List.length_cons]
  omega
theorem ZA (ax s t d e : Int) : ∀ (ns : List Int) (off : Int) (f : Bool) (ps ls : List dK), off + ns.sum + (ns.length : Int) - (if f ∧ ns ≠ [] then 1 else 0) = d → (∀ m, m ∈ ns → 1 ≤ m) → (oK ax s t d e off f ps ls ns).2.2 = true := by
 intro ns
 induction ns with
 | nil =>
  intro off f ps ls h _
  unfold oK
  simp at h
  rw [if_pos h]
 | cons n ns ih =>
  intro off f ps ls h hp
  have hn := hp n (by simp)
  have hr := Kv ns (fun m hm => hp m (by simp [hm]))
  unfold oK
  rw [List.sum_cons, List.length_cons] at h
  rw [if_neg (by
   cases f with
   | false => simp only [Bool.false_eq_true, if_false, false_and] at h ⊢; omega
   | true => simp only [if_true] at h ⊢; rw [if_pos (by simp)] at h; omega)]
  refine ih _ _ _ _ ?_ (fun m hm => hp m (by simp [hm]))
  cases f with
  | false => simp only [Bool.false_eq_true, if_false, false_and] at h ⊢; omega
  | true => simp only [Bool.false_eq_true, if_false, if_true, false_and] at h ⊢; rw [if_pos (by simp)] at h; omega
theorem Xu (X Y W H ax : Int) (sizes : List Int) : (qX X Y W H ax sizes).1.length ≤ sizes.length ∧ (qX X Y W H ax sizes).2.1.length ≤ sizes.length := by
 unfold qX
 split
 ·have := Xv ax (tX ax X Y) (tX ax Y X) (tX ax W H) (tX ax H W) sizes 0 true [] []
  simpa using this
 ·simp
theorem UT {X Y W H ax : Int} {sizes : List Int} (h : (qX X Y W H ax sizes).2.2 = true) : (ax = 1 ∨ ax = 2) ∧ (qX X Y W H ax sizes).1 = yT ax X Y W H 0 sizes ∧ sizes.sum + (sizes.length : Int) - 1 = tX ax W H ∧ ∀ m, m ∈ sizes → 1 ≤ m := by
 unfold qX at h ⊢
 split at h
 ·rename_i hc
  rw [if_pos hc]
  obtain ⟨h1, h2, h3⟩ := UU ax X Y W H sizes 0 true [] [] h
  rw [if_pos ⟨rfl, hc.2.2⟩] at h2
  exact ⟨hc.1, by simpa using h1, by omega, h3⟩
 ·cases h
theorem Zz {X Y W H ax : Int} {sizes : List Int} (hax : ax = 1 ∨ ax = 2) (hm : qB X Y W H = true) (hne : sizes ≠ []) (hs : sizes.sum + (sizes.length : Int) - 1 = tX ax W H) (hp : ∀ m, m ∈ sizes → 1 ≤ m) : (qX X Y W H ax sizes).2.2 = true := by
 unfold qX
 rw [if_pos ⟨hax, hm, hne⟩]
 exact ZA _ _ _ _ _ _ _ _ _ _ (by rw [if_pos ⟨rfl, hne⟩]; omega) hp
end Go.Proofs.Ytfdmfgaiblfbhaa.P
namespace Go.Proofs.Ytfdmfgaiblfbhaa.P
open Go.RowKit Go.Proofs.ag.aA Go.Proofs.ag.bg Go.Proofs.ag.bG
attribute [local go_sem] jD jQ kM kV jo jq kC kD
def p_.f (ay : Int) (aI : Int) (aC : Int) (aH : Int) (a1 : Int) : Option (Int × Int × Int × Int × Bool) := if a1 = 2 then (some (aI, ay, aH, aC, true)) else (if a1 = 1 then (some (ay, aI, aC, aH, true)) else (some (0, 0, 0, 0, false)))
theorem p_.calls (ay : Int) (aI : Int) (aC : Int) (aH : Int) (a1 : Int) (r1 : Int) (r2 : Int) (r3 : Int) (r4 : Int) (r5 : Bool) (w : World) (h : p_.f ay aI aC aH a1 = some (r1, r2, r3, r4, r5)) :
  Calls Try.prog 127 #[.agg #[.int .i64 ay, .int .i64 aI, .int .i64 aC, .int .i64 aH], .int .u8 a1] w fun e w' => e = .returned (.tuple #[.agg #[.int .i64 r1, .int .i64 r2, .int .i64 r3, .int .i64 r4], .bool r5]) ∧ Below w.heap.size w w' := by
 have SV := Try.underlying23
 have HB := ae.mk (Below.refl w.heap.size w)
 have H : (if a1 = 2 then (some (aI, ay, aH, aC, true)) else (if a1 = 1 then (some (ay, aI, aC, aH, true)) else (some (0, 0, 0, 0, false)))) = some (r1, r2, r3, r4, r5) := h
 clear h
 by_cases c3 : a1 = 2
 ·rw [if_pos c3] at H
  have vz : (a1 == 2) = true := beq_iff_eq.mpr c3
  have Cm : (a1 != 2) = false := bne_eq_false_iff_eq.mpr c3
  clear c3
  simp only [Option.some.injEq, Prod.mk.injEq] at H
  obtain ⟨rfl, rfl, rfl, rfl, rfl⟩ := H
  go_enter Try.func127, Try.ntmps127
  go_wp2_with (first | ((with_reducible refine au (N := 2) rfl ?_); refine aG ?hg (N := 2) ?hd (cs := #[.int .i64 ay, .int .i64 aI, .int .i64 aC, .int .i64 aH]) (t := 23) ?hr ?_; (case hd => rfl); (case hg => rfl); (case hr => (go_simp; done)); intro nY hg w4 hbox hb; have jI := ae.mk (hbox); have RG := ae.mk ((by rw [hg]; exact (dI (by repeat ((with_reducible exact HB.out)))) : w.heap.size ≤ nY)); replace HB := ae.mk (ak (by repeat ((with_reducible exact HB.out))) hb); clear hb hbox hg) | ((with_reducible refine au (N := 4) rfl ?_); refine aG ?hg (N := 4) ?hd (cs := #[.int .i64 0, .int .i64 0, .int .i64 0, .int .i64 0]) (t := 23) ?hr ?_; (case hd => rfl); (case hg => rfl); (case hr => (go_simp; done)); intro kS hg w5 hbox hb; have jS := ae.mk (hbox); have H5 := ae.mk ((by rw [hg]; exact (dI (by repeat ((with_reducible exact HB.out)))) : w.heap.size ≤ kS)); have yj := ae.mk ((by rw [hg]; exact Nat.ne_of_lt (fU jI.out) : nY ≠ kS)); have pF := ae.mk ((by rw [hg]; exact Nat.ne_of_gt (fU jI.out) : kS ≠ nY)); replace jI := ae.mk (aN jI.out hb); replace HB := ae.mk (ak (by repeat ((with_reducible exact HB.out))) hb); clear hb hbox hg; have alq := yj.out; have alr := pF.out; have Vh : w5.cell? ⟨nY, 0, none⟩ = some (.int .i64 ay) := (af jI.out 0).trans rfl; have Vj : w5.cell? ⟨nY, 1, none⟩ = some (.int .i64 aI) := (af jI.out 1).trans rfl; have Vk : w5.cell? ⟨nY, 2, none⟩ = some (.int .i64 aC) := (af jI.out 2).trans rfl; have Vl : w5.cell? ⟨nY, 3, none⟩ = some (.int .i64 aH) := (af jI.out 3).trans rfl; have VB := ah jI.out 0; have VC := ah jI.out 1; have VD := ah jI.out 2; have VE := ah jI.out 3; have Vm : w5.cell? ⟨kS, 0, none⟩ = some (.int .i64 0) := (af jS.out 0).trans rfl; have Vo : w5.cell? ⟨kS, 1, none⟩ = some (.int .i64 0) := (af jS.out 1).trans rfl; have Vp : w5.cell? ⟨kS, 2, none⟩ = some (.int .i64 0) := (af jS.out 2).trans rfl; have Vq : w5.cell? ⟨kS, 3, none⟩ = some (.int .i64 0) := (af jS.out 3).trans rfl; have VF := ah jS.out 0; have VG := ah jS.out 1; have VH := ah jS.out 2; have VI := ah jS.out 3))
  refine bodyPost_ret (dY rfl _ _ kS 23 _ (0, 0) _ rfl (by refine d_ (cs := #[.int .i64 aI, .int .i64 ay, .int .i64 aH, .int .i64 aC]) ?_ 3 _ rfl; refine d_ (cs := #[.int .i64 aI, .int .i64 ay, .int .i64 aH, .int .i64 aC]) ?_ 2 _ rfl; refine d_ (cs := #[.int .i64 aI, .int .i64 ay, .int .i64 aH, .int .i64 aC]) ?_ 1 _ rfl; refine d_ (cs := #[.int .i64 aI, .int .i64 ay, .int .i64 aH, .int .i64 aC]) ?_ 0 _ rfl; refine d_ (cs := #[.int .i64 aI, .int .i64 ay, .int .i64 aH, .int .i64 0]) ?_ 3 _ rfl; refine d_ (cs := #[.int .i64 aI, .int .i64 ay, .int .i64 0, .int .i64 0]) ?_ 2 _ rfl; refine d_ (cs := #[.int .i64 aI, .int .i64 0, .int .i64 0, .int .i64 0]) ?_ 1 _ rfl; refine d_ (cs := #[.int .i64 0, .int .i64 0, .int .i64 0, .int .i64 0]) ?_ 0 _ rfl; refine Fj ?_ pF.out _; refine Fj ?_ pF.out _; refine Fj ?_ pF.out _; refine Fj ?_ pF.out _; exact jS.out) Try.underlying23 rfl (by kernel_rfl)) rfl ?_
  exact ⟨by rfl, by repeat ((with_reducible first | exact HB.out | refine ig ?_ RG.out | refine ig ?_ H5.out))⟩
 ·rw [if_neg c3] at H
  have vz : (a1 == 2) = false := beq_eq_false_iff_ne.mpr c3
  have Cm : (a1 != 2) = true := bne_iff_ne.mpr c3
  by_cases c9 : a1 = 1
  ·rw [if_pos c9] at H
   have Jp : (a1 == 1) = true := beq_iff_eq.mpr c9
   have ahL : (a1 != 1) = false := bne_eq_false_iff_eq.mpr c9
   clear c9
   simp only [Option.some.injEq, Prod.mk.injEq] at H
   obtain ⟨rfl, rfl, rfl, rfl, rfl⟩ := H
   go_enter Try.func127, Try.ntmps127
   go_wp2_with (first | ((with_reducible refine au (N := 2) rfl ?_); refine aG ?hg (N := 2) ?hd (cs := #[.int .i64 ay, .int .i64 aI, .int .i64 aC, .int .i64 aH]) (t := 23) ?hr ?_; (case hd => rfl); (case hg => rfl); (case hr => (go_simp; done)); intro nY hg w10 hbox hb; have jI := ae.mk (hbox); have RG := ae.mk ((by rw [hg]; exact (dI (by repeat ((with_reducible exact HB.out)))) : w.heap.size ≤ nY)); replace HB := ae.mk (ak (by repeat ((with_reducible exact HB.out))) hb); clear hb hbox hg) | ((with_reducible refine au (N := 4) rfl ?_); refine aG ?hg (N := 4) ?hd (cs := #[.int .i64 0, .int .i64 0, .int .i64 0, .int .i64 0]) (t := 23) ?hr ?_; (case hd => rfl); (case hg => rfl); (case hr => (go_simp; done)); intro kS hg uu hbox hb; have jS := ae.mk (hbox); have H5 := ae.mk ((by rw [hg]; exact (dI (by repeat ((with_reducible exact HB.out)))) : w.heap.size ≤ kS)); have yj := ae.mk ((by rw [hg]; exact Nat.ne_of_lt (fU jI.out) : nY ≠ kS)); have pF := ae.mk ((by rw [hg]; exact Nat.ne_of_gt (fU jI.out) : kS ≠ nY)); replace jI := ae.mk (aN jI.out hb); replace HB := ae.mk (ak (by repeat ((with_reducible exact HB.out))) hb); clear hb hbox hg; have alc := yj.out; have ale := pF.out; have ZR : uu.cell? ⟨nY, 0, none⟩ = some (.int .i64 ay) := (af jI.out 0).trans rfl; have ZT : uu.cell? ⟨nY, 1, none⟩ = some (.int .i64 aI) := (af jI.out 1).trans rfl; have ZU : uu.cell? ⟨nY, 2, none⟩ = some (.int .i64 aC) := (af jI.out 2).trans rfl; have ZV : uu.cell? ⟨nY, 3, none⟩ = some (.int .i64 aH) := (af jI.out 3).trans rfl; have aaB := ah jI.out 0; have aaC := ah jI.out 1; have aaD := ah jI.out 2; have aaE := ah jI.out 3; have JD : uu.cell? ⟨kS, 0, none⟩ = some (.int .i64 0) := (af jS.out 0).trans rfl; have JE : uu.cell? ⟨kS, 1, none⟩ = some (.int .i64 0) := (af jS.out 1).trans rfl; have JF : uu.cell? ⟨kS, 2, none⟩ = some (.int .i64 0) := (af jS.out 2).trans rfl; have JG : uu.cell? ⟨kS, 3, none⟩ = some (.int .i64 0) := (af jS.out 3).trans rfl; have JL := ah jS.out 0; have JM := ah jS.out 1; have JO := ah jS.out 2; have JP := ah jS.out 3))
   refine bodyPost_ret (dY rfl _ _ kS 23 _ (0, 0) _ rfl (by refine d_ (cs := #[.int .i64 ay, .int .i64 aI, .int .i64 aC, .int .i64 aH]) ?_ 3 _ rfl; refine d_ (cs := #[.int .i64 ay, .int .i64 aI, .int .i64 aC, .int .i64 aH]) ?_ 2 _ rfl; refine d_ (cs := #[.int .i64 ay, .int .i64 aI, .int .i64 aC, .int .i64 aH]) ?_ 1 _ rfl; refine d_ (cs := #[.int .i64 ay, .int .i64 aI, .int .i64 aC, .int .i64 aH]) ?_ 0 _ rfl; refine d_ (cs := #[.int .i64 ay, .int .i64 aI, .int .i64 aC, .int .i64 0]) ?_ 3 _ rfl; refine d_ (cs := #[.int .i64 ay, .int .i64 aI, .int .i64 0, .int .i64 0]) ?_ 2 _ rfl; refine d_ (cs := #[.int .i64 ay, .int .i64 0, .int .i64 0, .int .i64 0]) ?_ 1 _ rfl; refine d_ (cs := #[.int .i64 0, .int .i64 0, .int .i64 0, .int .i64 0]) ?_ 0 _ rfl; exact jS.out) Try.underlying23 rfl (by kernel_rfl)) rfl ?_
   exact ⟨by rfl, by repeat ((with_reducible first | exact HB.out | refine ig ?_ H5.out))⟩
  ·rw [if_neg c9] at H
   have Jp : (a1 == 1) = false := beq_eq_false_iff_ne.mpr c9
   have ahL : (a1 != 1) = true := bne_iff_ne.mpr c9
   simp only [Option.some.injEq, Prod.mk.injEq] at H
   obtain ⟨rfl, rfl, rfl, rfl, rfl⟩ := H
   go_enter Try.func127, Try.ntmps127
   go_wp2_with (first | ((with_reducible refine au (N := 2) rfl ?_); refine aG ?hg (N := 2) ?hd (cs := #[.int .i64 ay, .int .i64 aI, .int .i64 aC, .int .i64 aH]) (t := 23) ?hr ?_; (case hd => rfl); (case hg => rfl); (case hr => (go_simp; done)); intro nY hg uU hbox hb; have jI := ae.mk (hbox); have RG := ae.mk ((by rw [hg]; exact (dI (by repeat ((with_reducible exact HB.out)))) : w.heap.size ≤ nY)); replace HB := ae.mk (ak (by repeat ((with_reducible exact HB.out))) hb); clear hb hbox hg) | ((with_reducible refine au (N := 4) rfl ?_); refine aG ?hg (N := 4) ?hd (cs := #[.int .i64 0, .int .i64 0, .int .i64 0, .int .i64 0]) (t := 23) ?hr ?_; (case hd => rfl); (case hg => rfl); (case hr => (go_simp; done)); intro kS hg w16 hbox hb; have jS := ae.mk (hbox); have H5 := ae.mk ((by rw [hg]; exact (dI (by repeat ((with_reducible exact HB.out)))) : w.heap.size ≤ kS)); have yj := ae.mk ((by rw [hg]; exact Nat.ne_of_lt (fU jI.out) : nY ≠ kS)); have pF := ae.mk ((by rw [hg]; exact Nat.ne_of_gt (fU jI.out) : kS ≠ nY)); replace jI := ae.mk (aN jI.out hb); replace HB := ae.mk (ak (by repeat ((with_reducible exact HB.out))) hb); clear hb hbox hg; have ald := pF.out; have alf := yj.out; have Z7 : w16.cell? ⟨kS, 0, none⟩ = some (.int .i64 0) := (af jS.out 0).trans rfl; have Z8 : w16.cell? ⟨kS, 1, none⟩ = some (.int .i64 0) := (af jS.out 1).trans rfl; have Z9 : w16.cell? ⟨kS, 2, none⟩ = some (.int .i64 0) := (af jS.out 2).trans rfl; have Z_ : w16.cell? ⟨kS, 3, none⟩ = some (.int .i64 0) := (af jS.out 3).trans rfl; have aaL := ah jS.out 0; have aaM := ah jS.out 1; have aaN := ah jS.out 2; have aaO := ah jS.out 3))
   refine bodyPost_ret (dY rfl _ _ kS 23 _ (0, 0) _ rfl (by refine d_ (cs := #[.int .i64 0, .int .i64 0, .int .i64 0, .int .i64 0]) ?_ 3 _ rfl; refine d_ (cs := #[.int .i64 0, .int .i64 0, .int .i64 0, .int .i64 0]) ?_ 2 _ rfl; refine d_ (cs := #[.int .i64 0, .int .i64 0, .int .i64 0, .int .i64 0]) ?_ 1 _ rfl; refine d_ (cs := #[.int .i64 0, .int .i64 0, .int .i64 0, .int .i64 0]) ?_ 0 _ rfl; exact jS.out) Try.underlying23 rfl (by kernel_rfl)) rfl ?_
   exact ⟨by rfl, by repeat ((with_reducible first | exact HB.out | refine ig ?_ H5.out))⟩
end Go.Proofs.Ytfdmfgaiblfbhaa.P
namespace Go.Proofs.Ytfdmfgaiblfbhaa.P
open Go.RowKit Go.Proofs.ag.aA Go.Proofs.ag.bg Go.Proofs.ag.bG
section
variable {W : World}
theorem Qc {ax : Int} (h : ax = 1 ∨ ax = 2) (X Y W H : Int) : p_.f X Y W H ax = some (tX ax X Y, tX ax Y X, tX ax W H, tX ax H W, true) := by
 unfold p_.f tX
 rcases h with rfl | rfl
 ·rfl
 ·rfl
theorem Hu {ax : Int} (h : ax = 1 ∨ ax = 2) (x y u v : Int) : Calls Try.prog 127 #[.agg #[.int .i64 x, .int .i64 y, .int .i64 u, .int .i64 v], .int .u8 ax] W fun e w' => e = .returned (.tuple #[.agg #[.int .i64 (tX ax x y), .int .i64 (tX ax y x), .int .i64 (tX ax u v), .int .i64 (tX ax v u)], .bool true]) ∧ Below W.heap.size W w' :=
 p_.calls _ _ _ _ _ _ _ _ _ _ W (Qc h x y u v)
theorem WI {ax : Int} (h : ¬ (ax = 1 ∨ ax = 2)) (x y u v : Int) : Calls Try.prog 127 #[.agg #[.int .i64 x, .int .i64 y, .int .i64 u, .int .i64 v], .int .u8 ax] W fun e w' => e = .returned (.tuple #[.agg #[.int .i64 0, .int .i64 0, .int .i64 0, .int .i64 0], .bool false]) ∧ Below W.heap.size W w' :=
 p_.calls _ _ _ _ _ _ _ _ _ _ W (by unfold p_.f; rw [if_neg (fun e => h (.inr e)), if_neg (fun e => h (.inl e))])
theorem Pq {x y u v : Int} {b : Bool} (h : qB x y u v = b) : Calls Try.prog 128 #[.agg #[.int .i64 x, .int .i64 y, .int .i64 u, .int .i64 v]] W fun e w' => e = .returned (.bool b) ∧ Below W.heap.size W w' :=
 xI.calls _ _ _ _ _ W ((Pg _ _ _ _).trans (congrArg some h))
theorem EL {x y u v : Int} {b : Bool} (h : qB x y u v = b) : Calls Try.prog 57 #[.agg #[.int .i64 x, .int .i64 y, .int .i64 u, .int .i64 v]] W fun e w' => e = .returned (.bool b) ∧ Below W.heap.size W w' :=
 o_.calls _ _ _ _ _ W ((F_ _ _ _ _).trans (congrArg some h))
end
abbrev MV (w : World) (t : List dK × List dK × Bool) (e : Ending) (w' : World) : Prop := ∃ A c A' c' o o', e = .returned (.tuple #[.slice A t.1.length c, .slice A' t.2.1.length c', .bool t.2.2]) ∧ (t.2.2 = true → Two k23 23 k23 23 w w' (.slice A t.1.length c) t.1 (.slice A' t.2.1.length c') t.2.1 o o') ∧ Below w.heap.size w w'
theorem zX {X Y W H ax : Int} {sizes : List Int} (h : ¬ (ax = 1 ∨ ax = 2) ∨ qB X Y W H = false ∨ sizes.length = 0) : qX X Y W H ax sizes = ([], [], false) := by
 unfold qX
 refine if_neg (fun hc => ?_)
 rcases h with h | h | h
 ·exact h hc.1
 ·rw [hc.2.1] at h; cases h
 ·exact hc.2.2 (List.eq_nil_of_length_eq_zero h)
theorem UW {X Y W H ax : Int} {sizes : List Int} (h1 : ax = 1 ∨ ax = 2) (h2 : qB X Y W H = true) (h3 : sizes.length ≠ 0) : qX X Y W H ax sizes = oK ax (tX ax X Y) (tX ax Y X) (tX ax W H) (tX ax H W) 0 true [] [] sizes := by
 unfold qX
 exact if_pos ⟨h1, h2, fun h => h3 (by rw [h]; rfl)⟩
theorem Ot {ax s t d e off : Int} {f : Bool} {ps ls : List dK} {R : List dK × List dK × Bool} (h : oK ax s t d e off f ps ls [] = R) : R = if off = d then (ps, ls, true) else ([], [], false) := h.symm
def Bi (ax s t d e o : Int) (ps ls : List dK) (n : Int) (ns : List Int) : List dK × List dK × Bool := if n < 1 ∨ d < o + n then ([], [], false) else oK ax s t d e (o + n) false (ps ++ [oM ax (s + o) t e n]) ls ns
theorem BG {ax s t d e o : Int} {ps ls : List dK} {n : Int} {ns : List Int} (h : n < 1 ∨ d < o + n) : Bi ax s t d e o ps ls n ns = ([], [], false) := if_pos h
theorem QA {ax s t d e o : Int} {ps ls : List dK} {n : Int} {ns : List Int} (h : ¬ (n < 1 ∨ d < o + n)) : Bi ax s t d e o ps ls n ns = oK ax s t d e (o + n) false (ps ++ [oM ax (s + o) t e n]) ls ns := if_neg h
theorem WG {X Y W H ax : Int} (h1 : ax = 1 ∨ ax = 2) (h2 : qB X Y W H = true) : 0 ≤ tX ax X Y ∧ 1 ≤ tX ax W H ∧ tX ax X Y + tX ax W H ≤ 10000 := by
 have hm := vT.1 h2
 unfold tX
 rcases h1 with rfl | rfl
 ·rw [if_neg (by omega), if_neg (by omega)]; omega
 ·rw [if_pos rfl, if_pos rfl]; omega
mutual
def fK : ai → List ai
 | ⟨a, b, d, l⟩ => ⟨a, b, d, l⟩ :: allL l
def allL : List ai → List ai
 | [] => []
 | c :: cs => fK c ++ allL cs
end
theorem lC (c : ai) : fK c = c :: allL c.f3 := by cases c; simp [fK]
theorem lh : allL [] = [] := by simp [allL]
theorem iK (c : ai) (cs : List ai) : allL (c :: cs) = fK c ++ allL cs := by simp [allL]
theorem pX (a b : List ai) : allL (a ++ b) = allL a ++ allL b := by
 induction a with
 | nil => simp [lh]
 | cons x xs ih => rw [List.cons_append, iK, iK, ih, List.append_assoc]
def sz (c : ai) : Nat := (fK c).length
def dO (l : List ai) : Nat := (allL l).length
theorem bP (c : ai) : sz c = 1 + dO c.f3 := by unfold sz dO; rw [lC, List.length_cons]; omega
theorem nK : dO [] = 0 := by unfold dO; rw [lh]; rfl
theorem bJ (c : ai) (cs : List ai) : dO (c :: cs) = sz c + dO cs := by unfold dO sz; rw [iK, List.length_append]
theorem jX (a b : List ai) : dO (a ++ b) = dO a + dO b := by unfold dO; rw [pX, List.length_append]
theorem jY (l : List ai) : l.length ≤ dO l := by
 induction l with
 | nil => simp
 | cons x xs ih => rw [bJ, List.length_cons, bP]; omega
theorem MK (c : ai) : (⟨c.f0, ⟨c.f1.f0, c.f1.f1, c.f1.f2, c.f1.f3⟩, c.f2, c.f3⟩ : ai) = c := by cases c; rfl
theorem abL (l : List ai) : dO l = (l.map sz).sum := by
 induction l with
 | nil => rw [nK]; rfl
 | cons x xs ih => rw [bJ, List.map_cons, List.sum_cons, ih]
end Go.Proofs.Ytfdmfgaiblfbhaa.P
namespace Go.Proofs.Ytfdmfgaiblfbhaa.P
open Go.RowKit Go.Proofs.ag.aA Go.Proofs.ag.bg Go.Proofs.ag.bG
attribute [local go_sem] jD jQ kM kV jo jq kC kD
mutual
def dD.l0 : Nat → Int → Int → Int → Int → Int → Int → Int → Int → Int → Int → List (ai) → Option (Int)
 | 0, _, _, _, _, _, _, _, _, _, _, _ => none
 | k + 1, x1, x5, x9, x10, abT, abU, abV, abW, abX, abY, um => if x10 < x9 then (if x5 > x1 then (some x5) else (if 0 ≤ x10 then (if x10 < (um.length : Int) then ((dD.f k ((aj um x10).f0) ((aj um x10).f1.f0) ((aj um x10).f1.f1) ((aj um x10).f1.f2) ((aj um x10).f1.f3) ((aj um x10).f2) ((aj um x10).f3) x1).bind fun t103 => (dD.l0 k x1 (wrap64 (x5 + t103)) x9 (wrap64 (x10 + 1)) abT abU abV abW abX abY um)) else (none)) else (none))) else (some x5)
def dD.f : Nat → Int → Int → Int → Int → Int → Int → List (ai) → Int → Option (Int)
 | 0, _, _, _, _, _, _, _, _ => none
 | k + 1, ay, aI, aC, aH, bU, bV, aT, a1 => dD.l0 k a1 1 (aT.length : Int) 0 ay aI aC aH bU bV aT
end
theorem dD.calls (k : Nat) : ∀ (ay : Int) (aI : Int) (aC : Int) (aH : Int) (bU : Int) (bV : Int) (eH : Option Addr) (eP : Nat) (aT : List (ai)) (a1 : Int) (r : Int) (w : World) (rZ : Kd.C k26 w eH aT.length aT) (ug : aT.length ≤ eP) (h : dD.f k ay aI aC aH bU bV aT a1 = some r),
  Calls Try.prog 124 #[.agg #[.int .u8 ay, .int .i64 aI, .int .i64 aC, .int .i64 aH, .int .i64 bU, .int .i64 bV, .slice eH aT.length eP], .int .i64 a1] w fun e w' => e = .returned (.int .i64 r) ∧ Below w.heap.size w w' := by
 induction k using Nat.strongRecOn with
 | _ k ih =>
 intro ay aI aC aH bU bV eH eP aT a1 r w rZ ug h
 cases k with
 | zero => exact absurd h (by simp [dD.f])
 | succ k =>
 simp only [dD.f] at h
 have GN := Try.underlying26
 have RP := ae.mk rZ
 clear rZ ug
 have HB := ae.mk (Below.refl w.heap.size w)
 have H : (dD.l0 k a1 1 (aT.length : Int) 0 ay aI aC aH bU bV aT) = some r := h
 clear h
 have H' := ae.mk H
 clear H
 go_enter Try.func124, Try.ntmps124
 go_wp2_with (((with_reducible refine au (N := 2) rfl ?_); refine aG ?hg (N := 2) ?hd (cs := #[.int .u8 ay, .int .i64 aI, .int .i64 aC, .int .i64 aH, .int .i64 bU, .int .i64 bV, .slice eH aT.length eP]) (t := 26) ?hr ?_; (case hd => rfl); (case hg => rfl); (case hr => (go_simp; done)); intro qZ hg w3 hbox hb; have iZ := ae.mk (hbox); replace HB := ae.mk (ak (by repeat ((with_reducible exact HB.out))) hb); clear hb hbox hg; have OI : w3.cell? ⟨qZ, 0, none⟩ = some (.int .u8 ay) := (af iZ.out 0).trans rfl; have OJ : w3.cell? ⟨qZ, 1, none⟩ = some (.int .i64 aI) := (af iZ.out 1).trans rfl; have OL : w3.cell? ⟨qZ, 2, none⟩ = some (.int .i64 aC) := (af iZ.out 2).trans rfl; have OM : w3.cell? ⟨qZ, 3, none⟩ = some (.int .i64 aH) := (af iZ.out 3).trans rfl; have Ve : w3.cell? ⟨qZ, 4, none⟩ = some (.int .i64 bU) := (af iZ.out 4).trans rfl; have Vf : w3.cell? ⟨qZ, 5, none⟩ = some (.int .i64 bV) := (af iZ.out 5).trans rfl; have Vg : w3.cell? ⟨qZ, 6, none⟩ = some (.slice eH aT.length eP) := (af iZ.out 6).trans rfl; have OT := ah iZ.out 0; have OU := ah iZ.out 1; have OV := ah iZ.out 2; have OW := ah iZ.out 3; have Vy := ah iZ.out 4; have Vz := ah iZ.out 5; have VA := ah iZ.out 6))
 go_loopg [5, 10] k (fun kq v5 v10 w' => ∃ (EY : Int) (a_ : Int), v5 = .int .i64 EY ∧ v10 = .int .i64 a_ ∧ ae (dD.l0 kq a1 EY (aT.length : Int) a_ ay aI aC aH bU bV aT = some r) ∧ ae (kq ≤ k) ∧ ae (w'.heap[qZ]? = some (.cells #[.int .u8 ay, .int .i64 aI, .int .i64 aC, .int .i64 aH, .int .i64 bU, .int .i64 bV, (.slice eH aT.length eP)] 26 (0, 0))) ∧ ae (Below w.heap.size w w'))
 case atStart => exact ⟨(1), (0), (by rfl), (by rfl), H', ⟨Nat.le_refl _⟩, ⟨by exact iZ.out⟩, ⟨by repeat ((with_reducible exact HB.out))⟩⟩
 case round =>
  clear H'
  clear OI OJ OL OM Ve Vf Vg OT OU OV OW Vy Vz VA
  obtain ⟨EY, a_, rfl, rfl, HA, qJ, iZ, HB⟩ := hrel
  cases gk with
  | zero => exact absurd HA.out (by simp [dD.l0])
  | succ k1 =>
   have H := HA.out
   clear HA
   simp only [dD.l0] at H
   by_cases c5 : a_ < (aT.length : Int)
   ·rw [if_pos c5] at H
    have DN : decide (a_ < (aT.length : Int)) = true := decide_eq_true c5
    clear c5
    by_cases c6 : EY > a1
    ·rw [if_pos c6] at H
     have CB : decide (a1 < EY) = true := decide_eq_true c6
     clear c6
     obtain rfl := Option.some.inj H
     go_wp2
     go_ret
     exact ⟨by rfl, by repeat ((with_reducible exact HB.out))⟩
    ·rw [if_neg c6] at H
     have CB : decide (a1 < EY) = false := decide_eq_false c6
     clear c6
     by_cases c7 : 0 ≤ a_
     ·rw [if_pos c7] at H
      have vC : decide (0 ≤ a_) = true := decide_eq_true c7
      clear c7
      by_cases c8 : a_ < (aT.length : Int)
      ·rw [if_pos c8] at H
       have Bh : decide (a_ < (aT.length : Int)) = true := decide_eq_true c8
       clear c8
       replace H := Option.bind_eq_some_iff.mp H
       obtain ⟨t103, A90, H⟩ := H
       replace H : (dD.l0 k1 a1 (wrap64 (EY + t103)) (aT.length : Int) (wrap64 (a_ + 1)) ay aI aC aH bU bV aT) = some r := H
       have A9 := ae.mk A90
       clear A90
       have H' := ae.mk H
       clear H
       have Jz : wr.cell? ⟨qZ, 0, none⟩ = some (.int .u8 ay) := (af iZ.out 0).trans rfl
       have JA : wr.cell? ⟨qZ, 1, none⟩ = some (.int .i64 aI) := (af iZ.out 1).trans rfl
       have JB : wr.cell? ⟨qZ, 2, none⟩ = some (.int .i64 aC) := (af iZ.out 2).trans rfl
       have JC : wr.cell? ⟨qZ, 3, none⟩ = some (.int .i64 aH) := (af iZ.out 3).trans rfl
       have ZE : wr.cell? ⟨qZ, 4, none⟩ = some (.int .i64 bU) := (af iZ.out 4).trans rfl
       have ZF : wr.cell? ⟨qZ, 5, none⟩ = some (.int .i64 bV) := (af iZ.out 5).trans rfl
       have ZG : wr.cell? ⟨qZ, 6, none⟩ = some (.slice eH aT.length eP) := (af iZ.out 6).trans rfl
       have JH := ah iZ.out 0
       have JI := ah iZ.out 1
       have JJ := ah iZ.out 2
       have JK := ah iZ.out 3
       have aao := ah iZ.out 4
       have aap := ah iZ.out 5
       have aaq := ah iZ.out 6
       have X8 : 0 ≤ (a_ : Int) := of_decide_eq_true (by (with_reducible assumption))
       have X_ : a_ < (aT.length : Int) := of_decide_eq_true (by (with_reducible assumption))
       obtain ⟨ak6, aca, ac5, ahP, JU, JV, JW, JX, JY, JZ, J3, Q3, QY⟩ := pG RP.out a_ X8 X_
       cases ahP
       replace JU := (HB.out.cell (World.block_lt_of_cell? w _ JU)).trans JU
       replace JV := (HB.out.cell (World.block_lt_of_cell? w _ JV)).trans JV
       replace JW := (HB.out.cell (World.block_lt_of_cell? w _ JW)).trans JW
       replace JX := (HB.out.cell (World.block_lt_of_cell? w _ JX)).trans JX
       replace JY := (HB.out.cell (World.block_lt_of_cell? w _ JY)).trans JY
       replace JZ := (HB.out.cell (World.block_lt_of_cell? w _ JZ)).trans JZ
       replace J3 := (HB.out.cell (World.block_lt_of_cell? w _ J3)).trans J3
       have Zo := ae.mk QY
       have Zm := ae.mk Q3
       clear QY Q3
       replace X8 := eq_true X8
       replace X_ := eq_true X_
       go_wp2_with (((with_reducible refine lK (f := 124) rfl ?_); refine nR (some 24) rfl rfl Try.func124 (by kernel_rfl) rfl #[.agg #[.int .u8 ((aj aT a_).f0), .int .i64 ((aj aT a_).f1.f0), .int .i64 ((aj aT a_).f1.f1), .int .i64 ((aj aT a_).f1.f2), .int .i64 ((aj aT a_).f1.f3), .int .i64 ((aj aT a_).f2), .slice aca ((aj aT a_).f3).length ac5], .int .i64 a1] rfl (by (try simp only [List.map_toArray, List.map_cons, List.map_nil]); rfl) ?_; (with_reducible refine (ih k1 (by have := qJ.out; omega) ((aj aT a_).f0) ((aj aT a_).f1.f0) ((aj aT a_).f1.f1) ((aj aT a_).f1.f2) ((aj aT a_).f1.f3) ((aj aT a_).f2) _ _ ((aj aT a_).f3) a1 t103 _ ?rC ?wY A9.out).mono ?_); (case rC => repeat (exact (Kd.eY Zo.out HB.out))); (case wY => exact Zm.out); rintro e uu ⟨rfl, hb⟩; refine ⟨_, rfl, ?_⟩; replace iZ := ae.mk (aN iZ.out hb); replace HB := ae.mk (ak (by repeat ((with_reducible exact HB.out))) hb); (try clear hb)))
       go_roundg k1
       case measure => have := qJ.out; omega
       case rel => exact ⟨(wrap64 (EY + t103)), (wrap64 (a_ + 1)), (by rfl), (by rfl), H', ⟨by have := qJ.out; omega⟩, ⟨by exact iZ.out⟩, ⟨by repeat ((with_reducible exact HB.out))⟩⟩
      ·rw [if_neg c8] at H
       exact absurd H (by simp)
     ·rw [if_neg c7] at H
      exact absurd H (by simp)
   ·rw [if_neg c5] at H
    have DN : decide (a_ < (aT.length : Int)) = false := decide_eq_false c5
    clear c5
    obtain rfl := Option.some.inj H
    go_wp2
    go_ret
    exact ⟨by rfl, by repeat ((with_reducible exact HB.out))⟩
def kU.f (k : Nat) (ay : Int) (aI : Int) (aC : Int) (aH : Int) (bU : Int) (bV : Int) (aT : List (ai)) : Option (Bool) := (dD.f k ay aI aC aH bU bV aT 200).bind fun t105 => (some (decide (t105 > 200)))
theorem kU.calls (k : Nat) (ay : Int) (aI : Int) (aC : Int) (aH : Int) (bU : Int) (bV : Int) (eH : Option Addr) (eP : Nat) (aT : List (ai)) (r : Bool) (w : World) (rZ : Kd.C k26 w eH aT.length aT) (ug : aT.length ≤ eP) (h : kU.f k ay aI aC aH bU bV aT = some r) :
  Calls Try.prog 34 #[.agg #[.int .u8 ay, .int .i64 aI, .int .i64 aC, .int .i64 aH, .int .i64 bU, .int .i64 bV, .slice eH aT.length eP]] w fun e w' => e = .returned (.bool r) ∧ Below w.heap.size w w' := by
 have GN := Try.underlying26
 have RP := ae.mk rZ
 have afJ := ae.mk ug
 clear rZ ug
 have HB := ae.mk (Below.refl w.heap.size w)
 have H : ((dD.f k ay aI aC aH bU bV aT 200).bind fun t105 => (some (decide (t105 > 200)))) = some r := h
 clear h
 replace H := Option.bind_eq_some_iff.mp H
 obtain ⟨t105, T_, H⟩ := H
 replace H : (some (decide (t105 > 200))) = some r := H
 have A2 := ae.mk T_
 clear T_
 obtain rfl := Option.some.inj H
 go_enter Try.func34, Try.ntmps34
 go_wp2_with (first | ((with_reducible refine au (N := 1) rfl ?_); refine aG ?hg (N := 1) ?hd (cs := #[.int .u8 ay, .int .i64 aI, .int .i64 aC, .int .i64 aH, .int .i64 bU, .int .i64 bV, .slice eH aT.length eP]) (t := 26) ?hr ?_; (case hd => rfl); (case hg => rfl); (case hr => (go_simp; done)); intro CJ hg w3 hbox hb; have qh := ae.mk (hbox); replace HB := ae.mk (ak (by repeat ((with_reducible exact HB.out))) hb); clear hb hbox hg; have OI : w3.cell? ⟨CJ, 0, none⟩ = some (.int .u8 ay) := (af qh.out 0).trans rfl; have OJ : w3.cell? ⟨CJ, 1, none⟩ = some (.int .i64 aI) := (af qh.out 1).trans rfl; have OL : w3.cell? ⟨CJ, 2, none⟩ = some (.int .i64 aC) := (af qh.out 2).trans rfl; have OM : w3.cell? ⟨CJ, 3, none⟩ = some (.int .i64 aH) := (af qh.out 3).trans rfl; have Ve : w3.cell? ⟨CJ, 4, none⟩ = some (.int .i64 bU) := (af qh.out 4).trans rfl; have Vf : w3.cell? ⟨CJ, 5, none⟩ = some (.int .i64 bV) := (af qh.out 5).trans rfl; have Vg : w3.cell? ⟨CJ, 6, none⟩ = some (.slice eH aT.length eP) := (af qh.out 6).trans rfl; have OT := ah qh.out 0; have OU := ah qh.out 1; have OV := ah qh.out 2; have OW := ah qh.out 3; have Vy := ah qh.out 4; have Vz := ah qh.out 5; have VA := ah qh.out 6) | ((with_reducible refine lK (f := 124) rfl ?_); refine nR (some 4) rfl rfl Try.func124 (by kernel_rfl) rfl #[.agg #[.int .u8 ay, .int .i64 aI, .int .i64 aC, .int .i64 aH, .int .i64 bU, .int .i64 bV, .slice eH aT.length eP], .int .i64 200] rfl (by (try simp only [List.map_toArray, List.map_cons, List.map_nil]); rfl) ?_; (with_reducible refine (dD.calls k ay aI aC aH bU bV _ _ aT 200 t105 _ ?rC ?wY A2.out).mono ?_); (case rC => repeat (exact (Kd.eY RP.out HB.out))); (case wY => exact afJ.out); rintro e w5 ⟨rfl, hb⟩; refine ⟨_, rfl, ?_⟩; replace qh := ae.mk (aN qh.out hb); replace HB := ae.mk (ak (by repeat ((with_reducible exact HB.out))) hb); (try clear hb)))
 go_ret
 exact ⟨by rfl, by repeat ((with_reducible exact HB.out))⟩
mutual
def dG.l0 : Nat → List (ai) → Int → Int → Int → Int → Int → Int → Int → Int → List (ai) → Option ((List (ai)))
 | 0, _, _, _, _, _, _, _, _, _, _ => none
 | k + 1, x3, x9, x10, abZ, ab1, ab2, ab3, ab4, ab5, uo => if x10 < x9 then (if 0 ≤ x10 then (if x10 < (uo.length : Int) then ((dG.f k ((aj uo x10).f0) ((aj uo x10).f1.f0) ((aj uo x10).f1.f1) ((aj uo x10).f1.f2) ((aj uo x10).f1.f3) ((aj uo x10).f2) ((aj uo x10).f3)).bind fun t136 => (if x3.length + t136.length < 1954687338268 then (dG.l0 k (x3 ++ t136) x9 (wrap64 (x10 + 1)) abZ ab1 ab2 ab3 ab4 ab5 uo) else (none))) else (none)) else (none)) else (some x3)
def dG.f : Nat → Int → Int → Int → Int → Int → Int → List (ai) → Option ((List (ai)))
 | 0, _, _, _, _, _, _, _ => none
 | k + 1, ay, aI, aC, aH, bU, bV, aT => dG.l0 k (([(⟨ay, (⟨aI, aC, aH, bU⟩ : dK), bV, aT⟩ : ai)] : List (ai))) (aT.length : Int) 0 ay aI aC aH bU bV aT
end
theorem dG.calls (k : Nat) : ∀ (ay : Int) (aI : Int) (aC : Int) (aH : Int) (bU : Int) (bV : Int) (iw : Nat → Prop) (eH : Option Addr) (eP : Nat) (aT : List (ai)) (r : List (ai)) (w : World) (MM : Kd.V k26 26 w w.heap.size (fun k_ => iw k_) (.slice eH aT.length eP) aT) (h : dG.f k ay aI aC aH bU bV aT = some r),
  Calls Try.prog 79 #[.agg #[.int .u8 ay, .int .i64 aI, .int .i64 aC, .int .i64 aH, .int .i64 bU, .int .i64 bV, .slice eH aT.length eP]] w fun e w' => ∃ EU : Value, e = .returned (EU) ∧ Kd.N k26 26 w' w.heap.size (fun k_ => (iw k_ ∨ w.heap.size ≤ k_)) EU r ∧ Below w.heap.size w w' := by
 induction k using Nat.strongRecOn with
 | _ k ih =>
 intro ay aI aC aH bU bV iw eH eP aT r w MM h
 cases k with
 | zero => exact absurd h (by simp [dG.f])
 | succ k =>
 simp only [dG.f] at h
 have GN := Try.underlying26
 have qi := ae.mk (show Kd.V k26 26 w w.heap.size (fun k_ => (iw k_ ∨ w.heap.size ≤ k_)) (.slice eH aT.length eP) aT from Kd.iQ MM (fun k_ hk => .inl hk))
 have HB := ae.mk (Below.refl w.heap.size w)
 have H : (dG.l0 k (([(⟨ay, (⟨aI, aC, aH, bU⟩ : dK), bV, aT⟩ : ai)] : List (ai))) (aT.length : Int) 0 ay aI aC aH bU bV aT) = some r := h
 clear h
 obtain ⟨afA, SX⟩ : ∃ y_ : List (ai), y_ = (([(⟨ay, (⟨aI, aC, aH, bU⟩ : dK), bV, aT⟩ : ai)] : List (ai))) := ⟨_, rfl⟩
 replace H : (dG.l0 k afA (aT.length : Int) 0 ay aI aC aH bU bV aT) = some r := by (rw [SX]; with_reducible exact H)
 have afT := ae.mk SX
 clear SX
 have H' := ae.mk H
 clear H
 go_enter Try.func79, Try.ntmps79
 go_wp2_with (first | ((with_reducible refine au (N := 1) rfl ?_); refine aG ?hg (N := 1) ?hd (cs := #[.int .u8 ay, .int .i64 aI, .int .i64 aC, .int .i64 aH, .int .i64 bU, .int .i64 bV, .slice eH aT.length eP]) (t := 26) ?hr ?_; (case hd => rfl); (case hg => rfl); (case hr => (go_simp; done)); intro iG hg w2 hbox hb; have eX := ae.mk (hbox); replace qi := ae.mk (Kd.mY (Kd.pW qi.out iG (Nat.le_of_eq hg.symm)) hb); replace HB := ae.mk (ak (by repeat ((with_reducible exact HB.out))) hb); clear hb hbox hg; have ad1 : w2.cell? ⟨iG, 0, none⟩ = some (.int .u8 ay) := (af eX.out 0).trans rfl; have ad3 : w2.cell? ⟨iG, 1, none⟩ = some (.int .i64 aI) := (af eX.out 1).trans rfl; have ad4 : w2.cell? ⟨iG, 2, none⟩ = some (.int .i64 aC) := (af eX.out 2).trans rfl; have ad5 : w2.cell? ⟨iG, 3, none⟩ = some (.int .i64 aH) := (af eX.out 3).trans rfl; have ad6 : w2.cell? ⟨iG, 4, none⟩ = some (.int .i64 bU) := (af eX.out 4).trans rfl; have ad7 : w2.cell? ⟨iG, 5, none⟩ = some (.int .i64 bV) := (af eX.out 5).trans rfl; have ad8 : w2.cell? ⟨iG, 6, none⟩ = some (.slice eH aT.length eP) := (af eX.out 6).trans rfl; have aej := ah eX.out 0; have aek := ah eX.out 1; have ael := ah eX.out 2; have aem := ah eX.out 3; have aen := ah eX.out 4; have aeo := ah eX.out 5; have aep := ah eX.out 6) | ((with_reducible refine au (N := 6) rfl ?_); refine Kd.zk k26 _ 26 ?hg (N' := 6) ?hd (xs := ([(⟨ay, (⟨aI, aC, aH, bU⟩ : dK), bV, aT⟩ : ai)] : List (ai))) (inner := [.int .u8 ay, .int .i64 aI, .int .i64 aC, .int .i64 aH, .int .i64 bU, .int .i64 bV, .slice eH aT.length eP]) (ok := (fun k_ => (iw k_ ∨ w.heap.size ≤ k_) ∧ k_ ≠ iG)) (fG := (fun k_ => (iw k_ ∨ w.heap.size ≤ k_) ∧ k_ ≠ iG)) ?hr ?hp (fun _ hk => hk) ((show ∀ k_, w2.heap.size ≤ k_ → (fun k_ => (iw k_ ∨ w.heap.size ≤ k_) ∧ k_ ≠ iG) k_ from fun k_ hk => ⟨(.inr (Nat.le_trans (dI (by repeat ((with_reducible exact HB.out)))) hk)), Kd.BH eX.out k_ hk⟩) _ (Nat.le_refl _)) (Below.refl _ _) (Nat.le_refl _) (by simp) ?_; (case hd => rfl); (case hg => rfl); (case hr => (go_simp; done)); (case hp => exact (bF.c7 (show Kd.FK k26 _ _ (⟨ay, (⟨aI, aC, aH, bU⟩ : dK), bV, aT⟩ : ai) [.int .u8 ay, .int .i64 aI, .int .i64 aC, .int .i64 aH, .int .i64 bU, .int .i64 bV, .slice eH aT.length eP] from (nH _ _ (⟨ay, (⟨aI, aC, aH, bU⟩ : dK), bV, aT⟩ : ai) (Kd.oI (Kd.iQ (ok' := (fun k_ => (iw k_ ∨ w.heap.size ≤ k_) ∧ k_ ≠ iG)) (qi.out) (fun k_ hk => ⟨hk.1, hk.2⟩))).2.1 (Kd.NP (Kd.iQ (ok' := (fun k_ => (iw k_ ∨ w.heap.size ≤ k_) ∧ k_ ≠ iG)) (qi.out) (fun k_ hk => ⟨hk.1, hk.2⟩))))) (bF.none _ _))); intro alx w4 IG hb qA kT; clear qA kT; (rw [← afT.out] at IG); have afK := ae.mk (Kd.zC IG (dI (by repeat ((with_reducible exact HB.out))))); replace qi := ae.mk (Kd.zM qi.out (Kd.sK IG) hb); replace eX := ae.mk (aN eX.out hb); replace HB := ae.mk (ak (by repeat ((with_reducible exact HB.out))) hb); clear hb IG; have D9 : w4.cell? ⟨iG, 0, none⟩ = some (.int .u8 ay) := (af eX.out 0).trans rfl; have D_ : w4.cell? ⟨iG, 1, none⟩ = some (.int .i64 aI) := (af eX.out 1).trans rfl; have Ea : w4.cell? ⟨iG, 2, none⟩ = some (.int .i64 aC) := (af eX.out 2).trans rfl; have Eb : w4.cell? ⟨iG, 3, none⟩ = some (.int .i64 aH) := (af eX.out 3).trans rfl; have Ec : w4.cell? ⟨iG, 4, none⟩ = some (.int .i64 bU) := (af eX.out 4).trans rfl; have Ed : w4.cell? ⟨iG, 5, none⟩ = some (.int .i64 bV) := (af eX.out 5).trans rfl; have Ee : w4.cell? ⟨iG, 6, none⟩ = some (.slice eH aT.length eP) := (af eX.out 6).trans rfl; have Ef := ah eX.out 0; have Eg := ah eX.out 1; have Eh := ah eX.out 2; have Ei := ah eX.out 3; have Ej := ah eX.out 4; have Em := ah eX.out 5; have En := ah eX.out 6))
 go_loopg [3, 10] k (fun kq v3 v10 w' => ∃ (kN : List (ai)) (a_ : Int), v10 = .int .i64 a_ ∧ ae (dG.l0 kq kN (aT.length : Int) a_ ay aI aC aH bU bV aT = some r) ∧ ae (kq ≤ k) ∧ ae (Kd.N k26 26 w' w.heap.size (fun k_ => (iw k_ ∨ w.heap.size ≤ k_) ∧ k_ ≠ iG) v3 kN) ∧ ae (Kd.V k26 26 w' w.heap.size (fun k_ => (iw k_ ∨ w.heap.size ≤ k_) ∧ some k_ ≠ (v3 : Value).ownBlock ∧ k_ ≠ iG) (.slice eH aT.length eP) aT) ∧ ae (w'.heap[iG]? = some (.cells #[.int .u8 ay, .int .i64 aI, .int .i64 aC, .int .i64 aH, .int .i64 bU, .int .i64 bV, (.slice eH aT.length eP)] 26 (0, 0))) ∧ ae (Below w.heap.size w w'))
 case atStart => exact ⟨(afA), (0), (by rfl), H', ⟨Nat.le_refl _⟩, ⟨by exact afK.out⟩, ⟨by exact Kd.iQ qi.out (fun _ hk => ⟨hk.1.1, ⟨hk.2, hk.1.2⟩⟩)⟩, ⟨by exact eX.out⟩, ⟨by repeat ((with_reducible exact HB.out))⟩⟩
 case round =>
  clear H'
  clear ad1 ad3 ad4 ad5 ad6 ad7 ad8 D9 D_ Ea Eb Ec Ed Ee aej aek ael aem aen aeo aep Ef Eg Eh Ei Ej Em En
  obtain ⟨kN, a_, rfl, HA, qJ, lg, sH, eX, HB⟩ := hrel
  cases gk with
  | zero => exact absurd HA.out (by simp [dG.l0])
  | succ k1 =>
   have H := HA.out
   clear HA
   simp only [dG.l0] at H
   by_cases c7 : a_ < (aT.length : Int)
   ·rw [if_pos c7] at H
    have vC : decide (a_ < (aT.length : Int)) = true := decide_eq_true c7
    clear c7
    by_cases c8 : 0 ≤ a_
    ·rw [if_pos c8] at H
     have Bh : decide (0 ≤ a_) = true := decide_eq_true c8
     clear c8
     by_cases c9 : a_ < (aT.length : Int)
     ·rw [if_pos c9] at H
      have Jp : decide (a_ < (aT.length : Int)) = true := decide_eq_true c9
      clear c9
      replace H := Option.bind_eq_some_iff.mp H
      obtain ⟨t136, ab_, H⟩ := H
      replace H : (if kN.length + t136.length < 1954687338268 then (dG.l0 k1 (kN ++ t136) (aT.length : Int) (wrap64 (a_ + 1)) ay aI aC aH bU bV aT) else (none)) = some r := H
      have A10 := ae.mk ab_
      clear ab_
      by_cases c11 : kN.length + t136.length < 1954687338268
      ·rw [if_pos c11] at H
       have afQ := ae.mk c11
       clear c11
       obtain ⟨afB, SY⟩ : ∃ y_ : List (ai), y_ = (kN ++ t136) := ⟨_, rfl⟩
       replace H : (dG.l0 k1 afB (aT.length : Int) (wrap64 (a_ + 1)) ay aI aC aH bU bV aT) = some r := by (rw [SY]; with_reducible exact H)
       have afU := ae.mk SY
       clear SY
       have H' := ae.mk H
       clear H
       have QI : wr.cell? ⟨iG, 0, none⟩ = some (.int .u8 ay) := (af eX.out 0).trans rfl
       have QJ : wr.cell? ⟨iG, 1, none⟩ = some (.int .i64 aI) := (af eX.out 1).trans rfl
       have QK : wr.cell? ⟨iG, 2, none⟩ = some (.int .i64 aC) := (af eX.out 2).trans rfl
       have QL : wr.cell? ⟨iG, 3, none⟩ = some (.int .i64 aH) := (af eX.out 3).trans rfl
       have ZO : wr.cell? ⟨iG, 4, none⟩ = some (.int .i64 bU) := (af eX.out 4).trans rfl
       have ZP : wr.cell? ⟨iG, 5, none⟩ = some (.int .i64 bV) := (af eX.out 5).trans rfl
       have ZQ : wr.cell? ⟨iG, 6, none⟩ = some (.slice eH aT.length eP) := (af eX.out 6).trans rfl
       have QQ := ah eX.out 0
       have QR := ah eX.out 1
       have QS := ah eX.out 2
       have QT := ah eX.out 3
       have aay := ah eX.out 4
       have aaz := ah eX.out 5
       have aaA := ah eX.out 6
       have Tz : 0 ≤ (a_ : Int) := of_decide_eq_true (by (with_reducible assumption))
       have TC : a_ < (aT.length : Int) := of_decide_eq_true (by (with_reducible assumption))
       obtain ⟨ak7, acb, ac6, ahQ, ai7, ai8, ai9, ai_, ai', aja, aa5, aa3, aa1⟩ := pG (Kd.oI sH.out).2.2 a_ Tz TC
       cases ahQ
       obtain ⟨ak9, adY, adS, Vb⟩ := Kd.af6 sH.out z26 a_ Tz TC
       obtain ⟨ajh, ajj, rfl, Kw, Ju⟩ := oC adS
       have FB := Vb 6 _ rfl
       rw [kR _ _ 6 (by omega)] at FB
       replace FB := Option.some.inj (FB.symm.trans aa5)
       injection FB with Ad GR Af
       rw [Ad] at Ju
       rw [Af] at Kw
       have Bq := ae.mk (show Kd.V k26 26 _ w.heap.size _ _ ((aj aT a_).f3) from Kd.yR Kw Ju)
       clear Ad GR Af Ju Kw
       clear Vb adY
       clear aa1 aa3
       replace Tz := eq_true Tz
       replace TC := eq_true TC
       go_wp2_with (first | ((with_reducible refine lK (f := 79) rfl ?_); refine nR (some 19) rfl rfl Try.func79 (by kernel_rfl) rfl #[.agg #[.int .u8 ((aj aT a_).f0), .int .i64 ((aj aT a_).f1.f0), .int .i64 ((aj aT a_).f1.f1), .int .i64 ((aj aT a_).f1.f2), .int .i64 ((aj aT a_).f1.f3), .int .i64 ((aj aT a_).f2), .slice acb ((aj aT a_).f3).length ac6]] rfl (by (try simp only [List.map_toArray, List.map_cons, List.map_nil]); rfl) ?_; (with_reducible refine (ih k1 (by have := qJ.out; omega) ((aj aT a_).f0) ((aj aT a_).f1.f0) ((aj aT a_).f1.f1) ((aj aT a_).f1.f2) ((aj aT a_).f1.f3) ((aj aT a_).f2) (fun k_ => ((iw k_ ∨ w.heap.size ≤ k_) ∧ (some k_ ≠ (u3 : Value).ownBlock ∧ k_ ≠ iG))) _ _ ((aj aT a_).f3) t136 _ ?rC A10.out).mono ?_); (case rC => exact Bq.out); rintro e uw ⟨aly, rfl, ho0, hb⟩; refine ⟨_, rfl, ?_⟩; have MB := ae.mk (Kd.zC (Kd.jb (ok' := fun k_ => (iw k_ ∨ w.heap.size ≤ k_) ∧ some k_ ≠ (u3 : Value).ownBlock ∧ k_ ≠ iG) ho0 (fun k_ O1 => ⟨Or.elim O1 (fun hs_ => hs_.1) (fun Eo => (.inr (Nat.le_trans (dI (by repeat ((with_reducible exact HB.out)))) Eo))), Or.elim O1 (fun hs_ => hs_.2.1) (fun Eo => (Kd.fresh' (Kd.DI lg.out) k_ Eo)), Or.elim O1 (fun hs_ => hs_.2.2) (fun Eo => (Kd.BH eX.out k_ Eo))⟩)) (dI (by repeat ((with_reducible exact HB.out))))); replace lg := ae.mk (Kd.NH lg.out (Kd.sK ho0) hb); replace sH := ae.mk (Kd.zM sH.out (Kd.sK ho0) hb); replace Bq := ae.mk (Kd.zM Bq.out (Kd.sK ho0) hb); replace eX := ae.mk (aN eX.out hb); replace HB := ae.mk (ak (by repeat ((with_reducible exact HB.out))) hb); (try clear hb); (try clear ho0); obtain ⟨MQ, Oq, XB⟩ := Kd.jJ MB.out; subst XB) | ((with_reducible refine oL (b := .append) (xs := #[.tmp 13, .tmp 19]) rfl ?_); at_builtin; refine Kd.yP k26 (w0 := w) w.heap.size rfl (.tmp 13) (.tmp 19) 24 26 (.agg #[(.int .u8 0), (.int .i64 0), (.int .i64 0), (.int .i64 0), (.int .i64 0), (.int .i64 0), (.slice none 0 0)]) 72 rfl Try.underlying24 info26 rfl (by decide) (by omega) u3 kN t136 _ _ _ (fun k_ => (iw k_ ∨ w.heap.size ≤ k_) ∧ k_ ≠ iG) (fun k_ => ((fun k_ => (iw k_ ∨ w.heap.size ≤ k_) ∧ k_ ≠ iG)) k_ ∧ some k_ ≠ (u3 : Value).ownBlock) rfl rfl ?aO ?aR (fun _ hk => hk) ?aF ?aB ?aS ?aL ?_; (case aR => exact (by exact Kd.YI (Kd.jb (ok' := (fun k_ => ((fun k_ => (iw k_ ∨ w.heap.size ≤ k_) ∧ k_ ≠ iG)) k_ ∧ some k_ ≠ (u3 : Value).ownBlock)) (MB.out) (fun k_ hk => ⟨⟨hk.1, hk.2.2⟩, hk.2.1⟩)))); (case aB => exact (by repeat ((with_reducible exact HB.out)))); (case aF => exact (fun k_ hk => ⟨(.inr (Nat.le_trans (dI (by repeat ((with_reducible exact HB.out)))) hk)), Kd.BH eX.out k_ hk⟩)); (case aO => exact (by exact Kd.jb lg.out (fun _ hk => ⟨hk.1.1, hk.1.2⟩))); (case aS => exact (dI (by repeat ((with_reducible exact HB.out))))); (case aL => have := afQ.out; omega); intro alz w14 ho hb hg hat; rw [← afU.out] at ho; have afL := ae.mk (ho); replace sH := ae.mk (Kd.Cf (ok := (fun k_ => (iw k_ ∨ w.heap.size ≤ k_) ∧ some k_ ≠ (.slice MQ t136.length Oq : Value).ownBlock ∧ k_ ≠ iG)) (by exact Kd.iQ sH.out (fun _ hk => ⟨⟨hk.1.1, ⟨hk.2, hk.1.2.2⟩⟩, hk.1.2.1⟩)) hg hat); replace eX := ae.mk (bT eX.out hg (Kd.Ut lg.out (fun _ hk => hk.1.2))); replace Bq := ae.mk (Kd.Cf (ok := (fun k_ => (iw k_ ∨ w.heap.size ≤ k_) ∧ some k_ ≠ (.slice MQ t136.length Oq : Value).ownBlock ∧ k_ ≠ iG)) (by exact Kd.iQ Bq.out (fun _ hk => ⟨⟨hk.1.1, ⟨hk.2, hk.1.2.2⟩⟩, hk.1.2.1⟩)) hg hat); replace MB := ae.mk (Kd.NF (ok := (fun k_ => (iw k_ ∨ w.heap.size ≤ k_) ∧ k_ ≠ iG)) (by exact Kd.jb MB.out (fun _ hk => ⟨⟨hk.1, hk.2.2⟩, hk.2.1⟩)) hg hat); replace HB := ae.mk (hb); clear lg; clear ho hb hg hat))
       go_roundg k1
       case measure => have := qJ.out; omega
       case rel => exact ⟨(afB), (wrap64 (a_ + 1)), (by rfl), H', ⟨by have := qJ.out; omega⟩, ⟨by exact afL.out⟩, ⟨by exact Kd.iQ sH.out (fun _ hk => ⟨hk.1.1, ⟨hk.2, hk.1.2.2⟩⟩)⟩, ⟨by exact eX.out⟩, ⟨by repeat ((with_reducible exact HB.out))⟩⟩
      ·rw [if_neg c11] at H
       exact absurd H (by simp)
     ·rw [if_neg c9] at H
      exact absurd H (by simp)
    ·rw [if_neg c8] at H
     exact absurd H (by simp)
   ·rw [if_neg c7] at H
    have vC : decide (a_ < (aT.length : Int)) = false := decide_eq_false c7
    clear c7
    obtain rfl := Option.some.inj H
    go_wp2
    go_ret
    exact ⟨_, by rfl, by exact Kd.jb lg.out (fun _ hk => hk.1), by repeat ((with_reducible exact HB.out))⟩
def dN.l0 : Nat → List (ai) → List (ai) → Int → Int → Option ((List (ai)))
 | 0, _, _, _, _ => none
 | k + 1, x3, x4, x10, x11 => if x11 < x10 then (if 0 ≤ x11 then (if x11 < (x4.length : Int) then (if ((aj x4 x11).f0) = 1 then (if x3.length < 1954687338268 then (dN.l0 k (x3 ++ [(⟨(aj x4 x11).f0, (⟨(aj x4 x11).f1.f0, (aj x4 x11).f1.f1, (aj x4 x11).f1.f2, (aj x4 x11).f1.f3⟩ : dK), (aj x4 x11).f2, (aj x4 x11).f3⟩ : ai)]) x4 x10 (wrap64 (x11 + 1))) else (none)) else (dN.l0 k x3 x4 x10 (wrap64 (x11 + 1)))) else (none)) else (none)) else (some x3)
def dN.f (k : Nat) (ay : Int) (aI : Int) (aC : Int) (aH : Int) (bU : Int) (bV : Int) (aT : List (ai)) : Option ((List (ai))) := (dG.f k ay aI aC aH bU bV aT).bind fun t146 => (dN.l0 k (([] : List (ai))) t146 (t146.length : Int) 0)
theorem dN.calls (k : Nat) (ay : Int) (aI : Int) (aC : Int) (aH : Int) (bU : Int) (bV : Int) (iw : Nat → Prop) (eH : Option Addr) (eP : Nat) (aT : List (ai)) (r : List (ai)) (w : World) (MM : Kd.V k26 26 w w.heap.size (fun k_ => iw k_) (.slice eH aT.length eP) aT) (h : dN.f k ay aI aC aH bU bV aT = some r) :
  Calls Try.prog 126 #[.agg #[.int .u8 ay, .int .i64 aI, .int .i64 aC, .int .i64 aH, .int .i64 bU, .int .i64 bV, .slice eH aT.length eP]] w fun e w' => ∃ EU : Value, e = .returned (EU) ∧ Kd.N k26 26 w' w.heap.size (fun k_ => (iw k_ ∨ w.heap.size ≤ k_)) EU r ∧ Below w.heap.size w w' := by
 have GN := Try.underlying26
 have qi := ae.mk (show Kd.V k26 26 w w.heap.size (fun k_ => (iw k_ ∨ w.heap.size ≤ k_)) (.slice eH aT.length eP) aT from Kd.iQ MM (fun k_ hk => .inl hk))
 have HB := ae.mk (Below.refl w.heap.size w)
 have H : ((dG.f k ay aI aC aH bU bV aT).bind fun t146 => (dN.l0 k (([] : List (ai))) t146 (t146.length : Int) 0)) = some r := h
 clear h
 obtain ⟨Yw, S9⟩ : ∃ y_ : List (ai), y_ = (([] : List (ai))) := ⟨_, rfl⟩
 replace H : ((dG.f k ay aI aC aH bU bV aT).bind fun t146 => (dN.l0 k Yw t146 (t146.length : Int) 0)) = some r := by (rw [S9]; with_reducible exact H)
 have afV := ae.mk S9
 clear S9
 replace H := Option.bind_eq_some_iff.mp H
 obtain ⟨t146, T_, H⟩ := H
 replace H : (dN.l0 k Yw t146 (t146.length : Int) 0) = some r := H
 have A2 := ae.mk T_
 clear T_
 have H' := ae.mk H
 clear H
 go_enter Try.func126, Try.ntmps126
 go_wp2_with (first | ((with_reducible refine au (N := 1) rfl ?_); refine aG ?hg (N := 1) ?hd (cs := #[.int .u8 ay, .int .i64 aI, .int .i64 aC, .int .i64 aH, .int .i64 bU, .int .i64 bV, .slice eH aT.length eP]) (t := 26) ?hr ?_; (case hd => rfl); (case hg => rfl); (case hr => (go_simp; done)); intro lF hg w3 hbox hb; have kH := ae.mk (hbox); replace qi := ae.mk (Kd.mY (Kd.pW qi.out lF (Nat.le_of_eq hg.symm)) hb); replace HB := ae.mk (ak (by repeat ((with_reducible exact HB.out))) hb); clear hb hbox hg) | ((with_reducible refine au (N := 6) rfl ?_); refine Kd.zk k26 _ 26 ?hg (N' := 6) ?hd (xs := ([] : List (ai))) (inner := []) (ok := (fun k_ => (iw k_ ∨ w.heap.size ≤ k_) ∧ k_ ≠ lF)) (fG := (fun k_ => (iw k_ ∨ w.heap.size ≤ k_) ∧ k_ ≠ lF)) ?hr ?hp (fun _ hk => hk) ((show ∀ k_, w3.heap.size ≤ k_ → (fun k_ => (iw k_ ∨ w.heap.size ≤ k_) ∧ k_ ≠ lF) k_ from fun k_ hk => ⟨(.inr (Nat.le_trans (dI (by repeat ((with_reducible exact HB.out)))) hk)), Kd.BH kH.out k_ hk⟩) _ (Nat.le_refl _)) (Below.refl _ _) (Nat.le_refl _) (by simp) ?_; (case hd => rfl); (case hg => rfl); (case hr => (go_simp; done)); (case hp => exact (bF.none _ _)); intro afr w4 IG hb qA kT; clear qA kT; (rw [← afV.out] at IG); have MC := ae.mk (Kd.zC IG (dI (by repeat ((with_reducible exact HB.out))))); replace qi := ae.mk (Kd.zM qi.out (Kd.sK IG) hb); replace kH := ae.mk (aN kH.out hb); replace HB := ae.mk (ak (by repeat ((with_reducible exact HB.out))) hb); clear hb IG; have D9 : w4.cell? ⟨lF, 0, none⟩ = some (.int .u8 ay) := (af kH.out 0).trans rfl; have D_ : w4.cell? ⟨lF, 1, none⟩ = some (.int .i64 aI) := (af kH.out 1).trans rfl; have Ea : w4.cell? ⟨lF, 2, none⟩ = some (.int .i64 aC) := (af kH.out 2).trans rfl; have Eb : w4.cell? ⟨lF, 3, none⟩ = some (.int .i64 aH) := (af kH.out 3).trans rfl; have Ec : w4.cell? ⟨lF, 4, none⟩ = some (.int .i64 bU) := (af kH.out 4).trans rfl; have Ed : w4.cell? ⟨lF, 5, none⟩ = some (.int .i64 bV) := (af kH.out 5).trans rfl; have Ee : w4.cell? ⟨lF, 6, none⟩ = some (.slice eH aT.length eP) := (af kH.out 6).trans rfl; have Ef := ah kH.out 0; have Eg := ah kH.out 1; have Eh := ah kH.out 2; have Ei := ah kH.out 3; have Ej := ah kH.out 4; have Em := ah kH.out 5; have En := ah kH.out 6) | ((with_reducible refine lK (f := 79) rfl ?_); refine nR (some 8) rfl rfl Try.func79 (by kernel_rfl) rfl #[.agg #[.int .u8 ay, .int .i64 aI, .int .i64 aC, .int .i64 aH, .int .i64 bU, .int .i64 bV, .slice eH aT.length eP]] rfl (by (try simp only [List.map_toArray, List.map_cons, List.map_nil]); rfl) ?_; (with_reducible refine (dG.calls k ay aI aC aH bU bV (fun k_ => (((iw k_ ∨ w.heap.size ≤ k_) ∧ k_ ≠ lF) ∧ some k_ ≠ (afr : Value).ownBlock)) _ _ aT t146 _ ?rC A2.out).mono ?_); (case rC => exact qi.out); rintro e w7 ⟨alA, rfl, ho0, hb⟩; refine ⟨_, rfl, ?_⟩; have YD := ae.mk (Kd.zC (Kd.jb (ok' := fun k_ => (iw k_ ∨ w.heap.size ≤ k_) ∧ some k_ ≠ (afr : Value).ownBlock ∧ k_ ≠ lF) ho0 (fun k_ O1 => ⟨Or.elim O1 (fun hs_ => hs_.1.1) (fun Eo => (.inr (Nat.le_trans (dI (by repeat ((with_reducible exact HB.out)))) Eo))), Or.elim O1 (fun hs_ => hs_.2) (fun Eo => (Kd.fresh' (Kd.DI MC.out) k_ Eo)), Or.elim O1 (fun hs_ => hs_.1.2) (fun Eo => (Kd.BH kH.out k_ Eo))⟩)) (dI (by repeat ((with_reducible exact HB.out))))); replace qi := ae.mk (Kd.zM qi.out (Kd.sK ho0) hb); replace MC := ae.mk (Kd.NH MC.out (Kd.sK ho0) hb); replace kH := ae.mk (aN kH.out hb); replace HB := ae.mk (ak (by repeat ((with_reducible exact HB.out))) hb); (try clear hb); (try clear ho0); obtain ⟨Ao8, Iz, eo8⟩ := Kd.jJ YD.out; subst eo8))
 go_loopg [3, 11] k (fun kq v3 v11 w' => ∃ (kN : List (ai)) (dZ : Int), v11 = .int .i64 dZ ∧ ae (dN.l0 kq kN t146 (t146.length : Int) dZ = some r) ∧ ae (kq ≤ k) ∧ ae (Kd.N k26 26 w' w.heap.size (fun k_ => (iw k_ ∨ w.heap.size ≤ k_) ∧ some k_ ≠ ((.slice Ao8 t146.length Iz) : Value).ownBlock ∧ k_ ≠ lF) v3 kN) ∧ ae (Kd.N k26 26 w' w.heap.size (fun k_ => (iw k_ ∨ w.heap.size ≤ k_) ∧ some k_ ≠ (v3 : Value).ownBlock ∧ k_ ≠ lF) (.slice Ao8 t146.length Iz) t146) ∧ ae (Kd.V k26 26 w' w.heap.size (fun k_ => (iw k_ ∨ w.heap.size ≤ k_) ∧ some k_ ≠ (v3 : Value).ownBlock ∧ some k_ ≠ ((.slice Ao8 t146.length Iz) : Value).ownBlock ∧ k_ ≠ lF) (.slice eH aT.length eP) aT) ∧ ae (w'.heap[lF]? = some (.cells #[.int .u8 ay, .int .i64 aI, .int .i64 aC, .int .i64 aH, .int .i64 bU, .int .i64 bV, (.slice eH aT.length eP)] 26 (0, 0))) ∧ ae (Below w.heap.size w w'))
 case atStart => exact ⟨(Yw), (0), (by rfl), H', ⟨Nat.le_refl _⟩, ⟨by exact Kd.jb MC.out (fun _ hk => ⟨hk.1.1, ⟨hk.2, hk.1.2⟩⟩)⟩, ⟨by exact YD.out⟩, ⟨by exact Kd.iQ qi.out (fun _ hk => ⟨hk.1.1.1, ⟨hk.1.2, ⟨hk.2, hk.1.1.2⟩⟩⟩)⟩, ⟨by exact kH.out⟩, ⟨by repeat ((with_reducible exact HB.out))⟩⟩
 case round =>
  clear H'
  clear D9 D_ Ea Eb Ec Ed Ee Ef Eg Eh Ei Ej Em En
  obtain ⟨kN, dZ, rfl, HA, qJ, lg, zK, AP, kH, HB⟩ := hrel
  cases gk with
  | zero => exact absurd HA.out (by simp [dN.l0])
  | succ k1 =>
   have H := HA.out
   clear HA
   simp only [dN.l0] at H
   by_cases c9 : dZ < (t146.length : Int)
   ·rw [if_pos c9] at H
    have Jp : decide (dZ < (t146.length : Int)) = true := decide_eq_true c9
    clear c9
    by_cases c10 : 0 ≤ dZ
    ·rw [if_pos c10] at H
     have YP : decide (0 ≤ dZ) = true := decide_eq_true c10
     clear c10
     by_cases c11 : dZ < (t146.length : Int)
     ·rw [if_pos c11] at H
      have MJ : decide (dZ < (t146.length : Int)) = true := decide_eq_true c11
      clear c11
      by_cases c12 : ((aj t146 dZ).f0) = 1
      ·rw [if_pos c12] at H
       have Ig : (((aj t146 dZ).f0) == 1) = true := beq_iff_eq.mpr c12
       have Ih : (((aj t146 dZ).f0) != 1) = false := bne_eq_false_iff_eq.mpr c12
       clear c12
       by_cases c13 : kN.length < 1954687338268
       ·rw [if_pos c13] at H
        have afR := ae.mk c13
        clear c13
        obtain ⟨y151, hy151⟩ : ∃ y_ : List (ai), y_ = (kN ++ [(⟨(aj t146 dZ).f0, (⟨(aj t146 dZ).f1.f0, (aj t146 dZ).f1.f1, (aj t146 dZ).f1.f2, (aj t146 dZ).f1.f3⟩ : dK), (aj t146 dZ).f2, (aj t146 dZ).f3⟩ : ai)]) := ⟨_, rfl⟩
        replace H : (dN.l0 k1 y151 t146 (t146.length : Int) (wrap64 (dZ + 1))) = some r := by (rw [hy151]; with_reducible exact H)
        have afW := ae.mk hy151
        clear hy151
        have H' := ae.mk H
        clear H
        have C_ : 0 ≤ (dZ : Int) := of_decide_eq_true (by (with_reducible assumption))
        have Df : dZ < (t146.length : Int) := of_decide_eq_true (by (with_reducible assumption))
        obtain ⟨AQ, TZ, UG, Xy, aa6, aa7, aa8, aa9, aa_, aa', FD, JS, JQ⟩ := pG (Kd.jO zK.out).2.2 dZ C_ Df
        cases Xy
        obtain ⟨agi, OH, OD, D8⟩ := Kd.RQ zK.out z26 dZ C_ Df
        obtain ⟨abP, abQ, rfl, BR, BI⟩ := oC OD
        have uh := D8 6 _ rfl
        rw [kR _ _ 6 (by omega)] at uh
        replace uh := Option.some.inj (uh.symm.trans FD)
        injection uh with Ad GR Af
        rw [Ad] at BI
        rw [Af] at BR
        clear Ad GR Af BI BR
        clear D8 OH
        clear JQ JS
        replace C_ := eq_true C_
        replace Df := eq_true Df
        have TA : 0 ≤ (dZ : Int) := of_decide_eq_true (by (with_reducible assumption))
        have TD : dZ < (t146.length : Int) := of_decide_eq_true (by (with_reducible assumption))
        obtain ⟨af7, ajm, aj8, ahR, ajb, ajc, ajd, aje, ajf, ajg, Q5, aa4, aa2⟩ := pG (Kd.jO zK.out).2.2 dZ TA TD
        obtain rfl : AQ = af7 := (by injection ahR)
        obtain ⟨ak_, adZ, adT, Vd⟩ := Kd.RQ zK.out z26 dZ TA TD
        obtain ⟨aji, ajk, rfl, Ky, Jv⟩ := oC adT
        have FC := Vd 6 _ rfl
        rw [kR _ _ 6 (by omega)] at FC
        replace FC := Option.some.inj (FC.symm.trans Q5)
        injection FC with Ad GR Af
        rw [Ad] at Jv
        rw [Af] at Ky
        have Fa := ae.mk (show Kd.V k26 26 _ w.heap.size _ _ ((aj t146 dZ).f3) from Kd.yR Ky Jv)
        clear Ad GR Af Jv Ky
        clear Vd adZ
        clear aa2 aa4
        replace TA := eq_true TA
        replace TD := eq_true TD
        have ea_ := Option.some.inj (FD.symm.trans Q5)
        injection ea_ with ea_ en_ ec_
        subst ea_
        subst ec_
        clear en_
        go_wp2_with (((with_reducible refine oL (b := .append) (xs := #[.tmp 20, .tmp 25]) rfl ?_); at_builtin; refine Kd.NG k26 (w0 := w) w.heap.size rfl (.tmp 20) (.tmp 25) 24 26 (.agg #[(.int .u8 0), (.int .i64 0), (.int .i64 0), (.int .i64 0), (.int .i64 0), (.int .i64 0), (.slice none 0 0)]) 72 rfl Try.underlying24 info26 rfl (by decide) (by omega) u3 kN (⟨(aj t146 dZ).f0, (⟨(aj t146 dZ).f1.f0, (aj t146 dZ).f1.f1, (aj t146 dZ).f1.f2, (aj t146 dZ).f1.f3⟩ : dK), (aj t146 dZ).f2, (aj t146 dZ).f3⟩ : ai) [.int .u8 ((aj t146 dZ).f0), .int .i64 ((aj t146 dZ).f1.f0), .int .i64 ((aj t146 dZ).f1.f1), .int .i64 ((aj t146 dZ).f1.f2), .int .i64 ((aj t146 dZ).f1.f3), .int .i64 ((aj t146 dZ).f2), .slice TZ ((aj t146 dZ).f3).length UG] (fun k_ => (iw k_ ∨ w.heap.size ≤ k_) ∧ some k_ ≠ (.slice (some AQ) t146.length Iz : Value).ownBlock ∧ k_ ≠ lF) (fun k_ => ((fun k_ => (iw k_ ∨ w.heap.size ≤ k_) ∧ some k_ ≠ (.slice (some AQ) t146.length Iz : Value).ownBlock ∧ k_ ≠ lF)) k_ ∧ some k_ ≠ (u3 : Value).ownBlock) rfl rfl ?aP (fun _ hk => hk) ?aF ?aO ?aB ?aS ?aL ?_; (case aP => exact (nH _ _ (⟨(aj t146 dZ).f0, (⟨(aj t146 dZ).f1.f0, (aj t146 dZ).f1.f1, (aj t146 dZ).f1.f2, (aj t146 dZ).f1.f3⟩ : dK), (aj t146 dZ).f2, (aj t146 dZ).f3⟩ : ai) (Kd.oI (Kd.iQ (ok' := (fun k_ => ((fun k_ => (iw k_ ∨ w.heap.size ≤ k_) ∧ some k_ ≠ (.slice (some AQ) t146.length Iz : Value).ownBlock ∧ k_ ≠ lF)) k_ ∧ some k_ ≠ (u3 : Value).ownBlock)) (Fa.out) (fun k_ hk => ⟨⟨hk.1.1, ⟨hk.2, hk.1.2.2⟩⟩, hk.1.2.1⟩))).2.1 (Kd.NP (Kd.iQ (ok' := (fun k_ => ((fun k_ => (iw k_ ∨ w.heap.size ≤ k_) ∧ some k_ ≠ (.slice (some AQ) t146.length Iz : Value).ownBlock ∧ k_ ≠ lF)) k_ ∧ some k_ ≠ (u3 : Value).ownBlock)) (Fa.out) (fun k_ hk => ⟨⟨hk.1.1, ⟨hk.2, hk.1.2.2⟩⟩, hk.1.2.1⟩))))); (case aB => exact (by repeat ((with_reducible exact HB.out)))); (case aF => exact (fun k_ hk => ⟨(.inr (Nat.le_trans (dI (by repeat ((with_reducible exact HB.out)))) hk)), Kd.fresh' (Kd.DI zK.out) k_ hk, Kd.BH kH.out k_ hk⟩)); (case aO => exact lg.out); (case aS => exact (dI (by repeat ((with_reducible exact HB.out))))); (case aL => have := afR.out; omega); intro v152 w14 ho hb hg hat; rw [← afW.out] at ho; have afM := ae.mk (ho); replace zK := ae.mk (Kd.NF (ok := (fun k_ => (iw k_ ∨ w.heap.size ≤ k_) ∧ k_ ≠ lF)) (by exact Kd.jb zK.out (fun _ hk => ⟨⟨hk.1, hk.2.2⟩, hk.2.1⟩)) hg hat); replace AP := ae.mk (Kd.Cf (ok := (fun k_ => (iw k_ ∨ w.heap.size ≤ k_) ∧ some k_ ≠ (.slice (some AQ) t146.length Iz : Value).ownBlock ∧ k_ ≠ lF)) (by exact Kd.iQ AP.out (fun _ hk => ⟨⟨hk.1, ⟨hk.2.2.1, hk.2.2.2⟩⟩, hk.2.1⟩)) hg hat); replace kH := ae.mk (bT kH.out hg (Kd.Ut lg.out (fun _ hk => hk.2.2))); replace Fa := ae.mk (Kd.Cf (ok := (fun k_ => (iw k_ ∨ w.heap.size ≤ k_) ∧ some k_ ≠ (.slice (some AQ) t146.length Iz : Value).ownBlock ∧ k_ ≠ lF)) (by exact Kd.iQ Fa.out (fun _ hk => ⟨⟨hk.1.1, ⟨hk.2, hk.1.2.2⟩⟩, hk.1.2.1⟩)) hg hat); replace HB := ae.mk (hb); clear lg; clear ho hb hg hat))
        go_roundg k1
        case measure => have := qJ.out; omega
        case rel => exact ⟨(y151), (wrap64 (dZ + 1)), (by rfl), H', ⟨by have := qJ.out; omega⟩, ⟨by exact afM.out⟩, ⟨by exact Kd.jb zK.out (fun _ hk => ⟨hk.1.1, ⟨hk.2, hk.1.2⟩⟩)⟩, ⟨by exact Kd.iQ AP.out (fun _ hk => ⟨hk.1.1, ⟨hk.2, ⟨hk.1.2.1, hk.1.2.2⟩⟩⟩)⟩, ⟨by exact kH.out⟩, ⟨by repeat ((with_reducible exact HB.out))⟩⟩
       ·rw [if_neg c13] at H
        exact absurd H (by simp)
      ·rw [if_neg c12] at H
       have Ig : (((aj t146 dZ).f0) == 1) = false := beq_eq_false_iff_ne.mpr c12
       have Ih : (((aj t146 dZ).f0) != 1) = true := bne_iff_ne.mpr c12
       have H' := ae.mk H
       clear H
       have C_ : 0 ≤ (dZ : Int) := of_decide_eq_true (by (with_reducible assumption))
       have Df : dZ < (t146.length : Int) := of_decide_eq_true (by (with_reducible assumption))
       obtain ⟨AQ, TZ, UG, Xy, aa6, aa7, aa8, aa9, aa_, aa', FD, JS, JQ⟩ := pG (Kd.jO zK.out).2.2 dZ C_ Df
       cases Xy
       obtain ⟨agi, OH, OD, D8⟩ := Kd.RQ zK.out z26 dZ C_ Df
       obtain ⟨abP, abQ, rfl, BR, BI⟩ := oC OD
       have uh := D8 6 _ rfl
       rw [kR _ _ 6 (by omega)] at uh
       replace uh := Option.some.inj (uh.symm.trans FD)
       injection uh with Ad GR Af
       rw [Ad] at BI
       rw [Af] at BR
       clear Ad GR Af BI BR
       clear D8 OH
       clear JQ JS
       replace C_ := eq_true C_
       replace Df := eq_true Df
       go_wp2
       go_roundg k1
       case measure => have := qJ.out; omega
       case rel => exact ⟨(kN), (wrap64 (dZ + 1)), (by rfl), H', ⟨by have := qJ.out; omega⟩, ⟨by exact lg.out⟩, ⟨by exact zK.out⟩, ⟨by exact AP.out⟩, ⟨by exact kH.out⟩, ⟨by repeat ((with_reducible exact HB.out))⟩⟩
     ·rw [if_neg c11] at H
      exact absurd H (by simp)
    ·rw [if_neg c10] at H
     exact absurd H (by simp)
   ·rw [if_neg c9] at H
    have Jp : decide (dZ < (t146.length : Int)) = false := decide_eq_false c9
    clear c9
    obtain rfl := Option.some.inj H
    go_wp2
    go_ret
    exact ⟨_, by rfl, by exact Kd.jb lg.out (fun _ hk => hk.1), by repeat ((with_reducible exact HB.out))⟩
end Go.Proofs.Ytfdmfgaiblfbhaa.P
namespace Go.Proofs.Ytfdmfgaiblfbhaa.P
open Go.RowKit Go.Proofs.ag.aA Go.Proofs.ag.bg Go.Proofs.ag.bG
theorem lD (pre : List ai) (p : ai) (rest : List ai) : aj (pre ++ p :: rest) (pre.length : Int) = p := by
 simp [aj, List.getD_eq_getElem?_getD]
theorem FU {α : Type} (pre : List α) (p : α) (rest : List α) (h : (pre ++ p :: rest).length ≤ 9223372036854775807) : wrap64 ((pre.length : Int) + 1) = ((pre ++ [p]).length : Int) := by
 simp only [List.length_append, List.length_cons, List.length_nil] at h ⊢
 rw [wq (by omega) (by omega)]
 omega
theorem Xt (L : Int) : ∀ (N : Nat) (c : ai), sz c ≤ N → N ≤ 1048576 → ∃ n : Int, Ev (fun k => dD.f k c.f0 c.f1.f0 c.f1.f1 c.f1.f2 c.f1.f3 c.f2 c.f3 L) n ∧ 1 ≤ n ∧ n ≤ (sz c : Int) ∧ (n > L ∨ n = (sz c : Int)) := by
 intro N
 induction N with
 | zero => intro c h _; rw [bP] at h; omega
 | succ N ih =>
  intro c hc hN
  have hs := bP c
  have key : ∀ (rest pre : List ai), pre ++ rest = c.f3 → ∀ acc : Int, 1 ≤ acc → acc + (dO rest : Int) ≤ 1048576 → (acc > L ∨ acc = 1 + (dO pre : Int)) →
    ∃ n : Int, Ev (fun k => dD.l0 k L acc (c.f3.length : Int) (pre.length : Int) c.f0 c.f1.f0 c.f1.f1 c.f1.f2 c.f1.f3 c.f2 c.f3) n ∧ acc ≤ n ∧ n ≤ acc + (dO rest : Int) ∧ (n > L ∨ n = 1 + (dO c.f3 : Int)) := by
   intro rest
   induction rest with
   | nil =>
    intro pre hp acc h1 h2 h3
    rw [List.append_nil] at hp
    refine ⟨acc, Ev.step (f := fun _ => some acc) (fun k => ?_) (Ev.now _), by omega, by omega, by rw [← hp]; exact h3⟩
    simp only [dD.l0]
    rw [if_neg (by rw [hp]; omega)]
   | cons x xs ihr =>
    intro pre hp acc h1 h2 h3
    have hl : (pre.length : Int) < (c.f3.length : Int) := by rw [← hp, List.length_append, List.length_cons]; omega
    have hlen := jY c.f3
    by_cases hL : acc > L
    ·refine ⟨acc, Ev.step (f := fun _ => some acc) (fun k => ?_) (Ev.now _), by omega, by omega, .inl hL⟩
     simp only [dD.l0]
     rw [if_pos hl, if_pos hL]
    ·have h3' : acc = 1 + (dO pre : Int) := by omega
     have hsum : dO c.f3 = dO pre + (sz x + dO xs) := by rw [← hp, jX, bJ]
     obtain ⟨n1, e1, a1, b1, c1⟩ := ih x (by omega) (by omega)
     rw [bJ] at h2
     obtain ⟨n, e2, a2, b2, c2⟩ := ihr (pre ++ [x]) (by rw [List.append_assoc]; exact hp) (acc + n1) (by omega) (by omega) (by
      rw [jX, bJ, nK]
      omega)
     refine ⟨n, ?_, by omega, by rw [bJ]; omega, c2⟩
     have hw : wrap64 (acc + n1) = acc + n1 := wq (by omega) (by omega)
     have hr : aj c.f3 (pre.length : Int) = x := by rw [← hp]; exact lD pre x xs
     have hu : wrap64 ((pre.length : Int) + 1) = ((pre ++ [x]).length : Int) := FU pre x xs (by rw [hp]; omega)
     refine Ev.step (f := fun k => (dD.f k x.f0 x.f1.f0 x.f1.f1 x.f1.f2 x.f1.f3 x.f2 x.f3 L).bind fun t => dD.l0 k L (wrap64 (acc + t)) (c.f3.length : Int) (wrap64 ((pre.length : Int) + 1)) c.f0 c.f1.f0 c.f1.f1 c.f1.f2 c.f1.f3 c.f2 c.f3) (fun k => ?_) (Ev.bind e1 ?_)
     ·simp only [dD.l0]
      rw [if_pos hl, if_neg hL, if_pos (by omega), if_pos hl, hr]
     ·rw [hw, hu]
      exact e2
  obtain ⟨n, e, a, b, d⟩ := key c.f3 [] rfl 1 (by omega) (by omega) (.inr (by rw [nK]; rfl))
  refine ⟨n, Ev.step (fun k => ?_) e, a, by omega, by omega⟩
  simp only [dD.f]
  rfl
theorem XE (c : ai) (h : sz c ≤ 1048576) : ∃ b : Bool, Ev (fun k => kU.f k c.f0 c.f1.f0 c.f1.f1 c.f1.f2 c.f1.f3 c.f2 c.f3) b ∧ (b = false → sz c ≤ 200) := by
 obtain ⟨n, e, h1, h2, h3⟩ := Xt 200 1048576 c h (Nat.le_refl _)
 refine ⟨decide (n > 200), ?_, fun hb => ?_⟩
 ·unfold kU.f
  exact Ev.bind e (Ev.now _)
 ·have := of_decide_eq_false hb
  omega
theorem La : ∀ (N : Nat) (c : ai), sz c ≤ N → N ≤ 1048576 → Ev (fun k => dG.f k c.f0 c.f1.f0 c.f1.f1 c.f1.f2 c.f1.f3 c.f2 c.f3) (fK c) := by
 intro N
 induction N with
 | zero => intro c h _; rw [bP] at h; omega
 | succ N ih =>
  intro c hc hN
  have hs := bP c
  have key : ∀ (rest pre : List ai), pre ++ rest = c.f3 → Ev (fun k => dG.l0 k (c :: allL pre) (c.f3.length : Int) (pre.length : Int) c.f0 c.f1.f0 c.f1.f1 c.f1.f2 c.f1.f3 c.f2 c.f3) (fK c) := by
   intro rest
   induction rest with
   | nil =>
    intro pre hp
    rw [List.append_nil] at hp
    refine Ev.step (f := fun _ => some (fK c)) (fun k => ?_) (Ev.now _)
    simp only [dG.l0]
    rw [if_neg (by rw [hp]; omega), hp, lC]
   | cons x xs ihr =>
    intro pre hp
    have hl : (pre.length : Int) < (c.f3.length : Int) := by rw [← hp, List.length_append, List.length_cons]; omega
    have hlen := jY c.f3
    have hsum : dO c.f3 = dO pre + (sz x + dO xs) := by rw [← hp, jX, bJ]
    have e2 := ihr (pre ++ [x]) (by rw [List.append_assoc]; exact hp)
    have hr : aj c.f3 (pre.length : Int) = x := by rw [← hp]; exact lD pre x xs
    have hu : wrap64 ((pre.length : Int) + 1) = ((pre ++ [x]).length : Int) := FU pre x xs (by rw [hp]; omega)
    have ha : c :: allL (pre ++ [x]) = (c :: allL pre) ++ fK x := by rw [pX, iK, lh, List.append_nil, List.cons_append]
    have hb : (c :: allL pre).length + (fK x).length < 1954687338268 := by
     have h1 : (allL pre).length = dO pre := rfl
     have h2 : (fK x).length = sz x := rfl
     rw [List.length_cons, h1, h2]
     omega
    rw [ha] at e2
    refine Ev.step (f := fun k => (dG.f k x.f0 x.f1.f0 x.f1.f1 x.f1.f2 x.f1.f3 x.f2 x.f3).bind fun t => (if (c :: allL pre).length + t.length < 1954687338268 then (dG.l0 k ((c :: allL pre) ++ t) (c.f3.length : Int) (wrap64 ((pre.length : Int) + 1)) c.f0 c.f1.f0 c.f1.f1 c.f1.f2 c.f1.f3 c.f2 c.f3) else none)) (fun k => ?_) (Ev.bind (ih x (by omega) (by omega)) (DZ hb ?_))
    ·simp only [dG.l0]
     rw [if_pos hl, if_pos (by omega), if_pos hl, hr]
    ·rw [hu]
     exact e2
  refine Ev.step (fun k => ?_) (key c.f3 [] rfl)
  simp only [dG.f, lh, MK]
  rfl
def jy (c : ai) : List ai := (fK c).filter fun x => decide (x.f0 = 1)
theorem Tn (c : ai) : (jy c).length ≤ sz c := List.length_filter_le _ _
theorem LC (c : ai) (h : sz c ≤ 1048576) : Ev (fun k => dN.f k c.f0 c.f1.f0 c.f1.f1 c.f1.f2 c.f1.f3 c.f2 c.f3) (jy c) := by
 unfold dN.f
 refine Ev.bind (La _ c h (Nat.le_refl _)) ?_
 have key : ∀ (rest pre : List ai), pre ++ rest = fK c → Ev (fun k => dN.l0 k (pre.filter fun x => decide (x.f0 = 1)) (fK c) ((fK c).length : Int) (pre.length : Int)) (jy c) := by
  intro rest
  induction rest with
  | nil =>
   intro pre hp
   rw [List.append_nil] at hp
   refine Ev.step (f := fun _ => some (jy c)) (fun k => ?_) (Ev.now _)
   simp only [dN.l0]
   rw [if_neg (by rw [hp]; omega), hp]
   rfl
  | cons x xs ihr =>
   intro pre hp
   have hsz : (fK c).length ≤ 1048576 := h
   have hl : (pre.length : Int) < ((fK c).length : Int) := by rw [← hp, List.length_append, List.length_cons]; omega
   have e2 := ihr (pre ++ [x]) (by rw [List.append_assoc]; exact hp)
   have hr : aj (fK c) (pre.length : Int) = x := by rw [← hp]; exact lD pre x xs
   have hu : wrap64 ((pre.length : Int) + 1) = ((pre ++ [x]).length : Int) := FU pre x xs (by rw [hp]; omega)
   have hb : (pre.filter fun x => decide (x.f0 = 1)).length < 1954687338268 := by
    have := List.length_filter_le (fun x : ai => decide (x.f0 = 1)) pre
    omega
   rw [List.filter_append] at e2
   refine Ev.step (fun k => ?_) e2
   simp only [dN.l0]
   rw [if_pos hl, if_pos (by omega), if_pos hl, hr, hu]
   by_cases h1 : x.f0 = 1
   ·rw [if_pos h1, if_pos hb, List.filter_cons_of_pos (by simpa using h1), MK]
    rfl
   ·rw [if_neg h1, List.filter_cons_of_neg (by simpa using h1), List.filter_nil, List.append_nil]
 exact key (fK c) [] rfl
end Go.Proofs.Ytfdmfgaiblfbhaa.P
namespace Go.Proofs.Ytfdmfgaiblfbhaa.P
open Go.RowKit Go.Proofs.ag.aA Go.Proofs.ag.bg Go.Proofs.ag.bG
attribute [local go_sem] jD jQ kM kV jo jq kC kD
theorem agk (d : Nat) (w : World) (x0 y0 : Int) (x1 y1 : Int) (x2 y2 : Int) (x3 y3 : Int) :
  (Op.equalIn (d + 2) 23 (.agg #[.int .i64 x0, .int .i64 x1, .int .i64 x2, .int .i64 x3]) (.agg #[.int .i64 y0, .int .i64 y1, .int .i64 y2, .int .i64 y3])).run Try.prog w = .ok (x0 == y0 && (x1 == y1 && (x2 == y2 && (x3 == y3)))) w := by
 refine adE Try.underlying23 (by kernel_rfl) ?_
 refine Gz (by rfl) (by go_simp; rfl) (by go_simp; rfl) (by go_simp) ?_
 refine Gz (by rfl) (by go_simp; rfl) (by go_simp; rfl) (by go_simp) ?_
 refine Gz (by rfl) (by go_simp; rfl) (by go_simp; rfl) (by go_simp) ?_
 exact XC (by rfl) (by go_simp; rfl) (by go_simp; rfl) (by go_simp)
end Go.Proofs.Ytfdmfgaiblfbhaa.P
namespace Go.Proofs.Ytfdmfgaiblfbhaa.P
open Go.RowKit Go.Proofs.ag.aA Go.Proofs.ag.bg Go.Proofs.ag.bG
attribute [local go_sem] jD jQ kM kV jo jq kC kD
attribute [local go_sem high] agk
mutual
def jl.j0 : Nat → Bool → Int → Int → Int → Int → Int → Int → List (ai) → Int → Int → Int → Int → Int → Int → List (ai) → Option (Bool)
 | 0, _, _, _, _, _, _, _, _, _, _, _, _, _, _, _ => none
 | k + 1, x33, KF, KG, KH, KI, KJ, KL, pg, KN, KO, KP, KQ, KT, KU, qH => if x33 = true then (some false) else (jl.l0 k (pg.length : Int) 0 KF KG KH KI KJ KL pg KN KO KP KQ KT KU qH)
def jl.l0 : Nat → Int → Int → Int → Int → Int → Int → Int → Int → List (ai) → Int → Int → Int → Int → Int → Int → List (ai) → Option (Bool)
 | 0, _, _, _, _, _, _, _, _, _, _, _, _, _, _, _, _ => none
 | k + 1, x36, xg, KF, KG, KH, KI, KJ, KL, pg, KN, KO, KP, KQ, KT, KU, qH => if xg < x36 then (if 0 ≤ xg then (if xg < (pg.length : Int) then (if xg < (qH.length : Int) then ((jl.f k ((aj pg xg).f0) ((aj pg xg).f1.f0) ((aj pg xg).f1.f1) ((aj pg xg).f1.f2) ((aj pg xg).f1.f3) ((aj pg xg).f2) ((aj pg xg).f3) ((aj qH xg).f0) ((aj qH xg).f1.f0) ((aj qH xg).f1.f1) ((aj qH xg).f1.f2) ((aj qH xg).f1.f3) ((aj qH xg).f2) ((aj qH xg).f3)).bind fun aie => (if aie = true then (jl.l0 k x36 (wrap64 (xg + 1)) KF KG KH KI KJ KL pg KN KO KP KQ KT KU qH) else (some false))) else (none)) else (none)) else (none)) else (some true)
def jl.f : Nat → Int → Int → Int → Int → Int → Int → List (ai) → Int → Int → Int → Int → Int → Int → List (ai) → Option (Bool)
 | 0, _, _, _, _, _, _, _, _, _, _, _, _, _, _ => none
 | k + 1, ay, aI, aC, aH, bU, bV, aT, NR, NT, NU, NV, NW, NY, O_ => if ay = NR then (if (!(aI == NT) || (!(aC == NU) || (!(aH == NV) || (!(bU == NW))))) = true then (jl.j0 k true ay aI aC aH bU bV aT NR NT NU NV NW NY O_) else (if bV = NY then (jl.j0 k ((aT.length : Int) != (O_.length : Int)) ay aI aC aH bU bV aT NR NT NU NV NW NY O_) else (jl.j0 k true ay aI aC aH bU bV aT NR NT NU NV NW NY O_))) else (jl.j0 k true ay aI aC aH bU bV aT NR NT NU NV NW NY O_)
end
def jl.T6 : Bool × List (List Nat × List Nat) := (true, [([], []), ([0], [0]), ([], []), ([1, 2], [1, 2]), ([3], [3]), ([], []), ([5], [5]), ([], []), ([6, 7], [6, 7]), ([8], [8]), ([4, 9], [4, 9]), ([10], [10])])
def jl.B6 : List Nat := [0, 1, 0, 7, 15, 0, 32, 0, 224, 480, 1023, 2047]
end Go.Proofs.Ytfdmfgaiblfbhaa.P
namespace Go.Proofs.Ytfdmfgaiblfbhaa.P
open Go.RowKit Go.Proofs.ag.aA Go.Proofs.ag.bg Go.Proofs.ag.bG
def nI (a b : dK) : Bool := a.f0 == b.f0 && (a.f1 == b.f1 && (a.f2 == b.f2 && a.f3 == b.f3))
mutual
def u_ : ai → ai → Bool
 | ⟨a, r, d, l⟩, ⟨a', r', d', l'⟩ => a == a' && (nI r r' && (d == d' && (l.length == l'.length && ui l l')))
def ui : List ai → List ai → Bool
 | [], _ => true
 | _ :: _, [] => true
 | c :: cs, e :: es => u_ c e && ui cs es
end
theorem PI (a b : ai) : u_ a b = (a.f0 == b.f0 && (nI a.f1 b.f1 && (a.f2 == b.f2 && (a.f3.length == b.f3.length && ui a.f3 b.f3)))) := by cases a; cases b; simp [u_]
theorem yD (b : List ai) : ui [] b = true := by cases b <;> simp [ui]
theorem wW (c e : ai) (cs es : List ai) : ui (c :: cs) (e :: es) = (u_ c e && ui cs es) := by simp [ui]
theorem TK : ∀ (N : Nat), (∀ c : ai, sz c ≤ N → u_ c c = true) ∧ (∀ l : List ai, dO l ≤ N → ui l l = true) := by
 intro N
 induction N with
 | zero =>
  refine ⟨fun c h => ?_, fun l h => ?_⟩
  ·rw [bP] at h; omega
  ·cases l with
   | nil => exact yD _
   | cons x xs => rw [bJ, bP] at h; omega
 | succ N ih =>
  have hC : ∀ c : ai, sz c ≤ N + 1 → u_ c c = true := by
   intro c h
   rw [bP] at h
   rw [PI, ih.2 c.f3 (by omega)]
   simp [nI]
  refine ⟨hC, fun l => ?_⟩
  induction l with
  | nil => intro _; exact yD _
  | cons x xs ihl =>
   intro h
   rw [bJ] at h
   rw [wW, hC x (by omega), ihl (by omega)]
   rfl
theorem qL {P : Program} {f : FuncId} {fn : Func} (hf : P.funcs[f]? = some fn) (hname : (fn.name == "runtime.NumGoroutine") = false) (hb : fn.body.isSome = true) : ∀ args w, (callFunc f args).run P w = .ok (.enter f args) w := by
 intro args w
 obtain ⟨c, hc⟩ := Option.isSome_iff_exists.1 hb
 have h1 : fn.name ≠ "runtime.NumGoroutine" := by simpa using hname
 simp [callFunc, hf, h1, hc, mark]
section
variable {σ α : Type}
def lG (step : σ → α → Bool × σ) : Int → σ → List α → Int × σ
 | _, s, [] => (-1, s)
 | i, s, x :: xs => if (step s x).1 = true then (i, (step s x).2) else lG step (i + 1) (step s x).2 xs
def sD (step : σ → α → Bool × σ) : σ → List α → Bool × σ
 | s, [] => (false, s)
 | s, x :: xs => if (step s x).1 = true then (true, (step s x).2) else sD step (step s x).2 xs
theorem abG (step : σ → α → Bool × σ) : ∀ (l : List α) (i : Int) (s : σ), 0 ≤ i → (sD step s l).1 = decide (0 ≤ (lG step i s l).1) ∧ (sD step s l).2 = (lG step i s l).2 := by
 intro l
 induction l with
 | nil => intro i s h; exact ⟨by simp [sD, lG], rfl⟩
 | cons x xs ih =>
  intro i s h
  simp only [sD, lG]
  split
  ·exact ⟨by simp [h], rfl⟩
  ·exact ih (i + 1) _ (by omega)
theorem PK (step : σ → α → Bool × σ) (s : σ) (l : List α) : sD step s l = (decide (0 ≤ (lG step 0 s l).1), (lG step 0 s l).2) := by
 have h := abG step l 0 s (by omega)
 exact Prod.ext h.1 h.2
theorem Ri (step : σ → α → Bool × σ) (z : α) (l : List α) (k : Nat) (h : k < l.length) (t : σ) :
  lG step k t (l.drop k) = if (step t (l.getD (k : Int).toNat z)).1 = true then ((k : Int), (step t (l.getD (k : Int).toNat z)).2) else lG step ((k + 1 : Nat) : Int) (step t (l.getD (k : Int).toNat z)).2 (l.drop (k + 1)) := by
 rw [List.drop_eq_getElem_cons h]
 simp only [lG, Int.toNat_natCast, List.getD_eq_getElem?_getD, List.getElem?_eq_getElem h, Option.getD_some]
 rfl
theorem Di (z : α) (l : List α) (k : Nat) (h : k < l.length) : l.getD (k : Int).toNat z ∈ l := by
 simp only [Int.toNat_natCast, List.getD_eq_getElem?_getD, List.getElem?_eq_getElem h, Option.getD_some]
 exact List.getElem_mem h
theorem LX (p : α → Bool) : ∀ (l : List α) (s : Unit), sD (fun _ x => (p x, ())) s l = (l.any p, ()) := by
 intro l
 induction l with
 | nil => intro s; rfl
 | cons x xs ih =>
  intro s
  simp only [sD, List.any_cons]
  cases h : p x with
  | true => simp
  | false => simp [ih]
end
def sV {α β : Type} (r : α → β → Bool) : List α → List β → Bool
 | a :: ta, b :: tb => r a b && sV r ta tb
 | [], _ => true
 | _ :: _, [] => true
theorem adF {α β : Type} (r : α → β → Bool) (za : α) (zb : β) (la : List α) (lb : List β) (k : Nat) (ha : k < la.length) (hb : k < lb.length) :
  sV r (la.drop k) (lb.drop k) = (r (la.getD (k : Int).toNat za) (lb.getD (k : Int).toNat zb) && sV r (la.drop (k + 1)) (lb.drop (k + 1))) := by
 rw [List.drop_eq_getElem_cons ha, List.drop_eq_getElem_cons hb]
 simp only [sV, Int.toNat_natCast, List.getD_eq_getElem?_getD, List.getElem?_eq_getElem ha, List.getElem?_eq_getElem hb, Option.getD_some]
theorem Jt {α β : Type} (r : α → β → Bool) (lb : List β) : sV r ([] : List α) lb = true := by cases lb <;> rfl
def zg (k : Int) : Int := (((k - 2) % 256) + 1) % 256
def qP (f0 : Int) (k : ai) : Int := if f0 = 2 then k.f1.f2 else k.f1.f3
def szK (c k : ai) : Int := qP c.f0 k
def jH (c : ai) : List Int := c.f3.map (szK c)
def yU (c : ai) : List dK × List dK × Bool := qX c.f1.f0 c.f1.f1 c.f1.f2 c.f1.f3 (zg c.f0) (jH c)
theorem Ov (c : ai) : (yU c).1.length ≤ c.f3.length ∧ (yU c).2.1.length ≤ c.f3.length := by
 have h := Xu c.f1.f0 c.f1.f1 c.f1.f2 c.f1.f3 (zg c.f0) (jH c)
 rwa [show (jH c).length = c.f3.length from List.length_map _] at h
theorem DY {c : ai} (h : (yU c).2.2 = true) : (zg c.f0 = 1 ∨ zg c.f0 = 2) ∧ (yU c).1 = yT (zg c.f0) c.f1.f0 c.f1.f1 c.f1.f2 c.f1.f3 0 (jH c) ∧ (jH c).sum + ((jH c).length : Int) - 1 = tX (zg c.f0) c.f1.f2 c.f1.f3 ∧ ∀ m, m ∈ jH c → 1 ≤ m := UT h
def C9 (c : ai) (t : List dK × List dK × Bool) : Bool := c.f0 == 1 || (t.2.2 && (c.f3.length == t.1.length && sV (fun k r => nI k.f1 r) c.f3 t.1))
def nN (c : ai) : Bool := C9 c (yU c)
def mf (c : ai) : Bool := (fK c).all nN
theorem tJ (c : ai) : mf c = (nN c && c.f3.all mf) := by
 unfold mf
 rw [lC, List.all_cons]
 congr 1
 generalize c.f3 = l
 induction l with
 | nil => rw [lh]; rfl
 | cons x xs ih => rw [iK, List.all_append, List.all_cons, ih]
theorem QB {W : World} {f : FuncId} {args : Array Value} {t1 t2 : List dK} (h : Calls Try.prog f args W (MV W (t1, t2, true))) :
  Calls Try.prog f args W fun e w' => ∃ A c A' c' o o', e = .returned (.tuple #[.slice A t1.length c, .slice A' t2.length c', .bool true]) ∧ Two k23 23 k23 23 W w' (.slice A t1.length c) t1 (.slice A' t2.length c') t2 o o' ∧ Below W.heap.size W w' :=
 h.mono (fun _ _ ⟨A, c, A', c', o, o', h1, h2, h3⟩ => ⟨A, c, A', c', o, o', h1, h2 rfl, h3⟩)
theorem Ox {W : World} {f : FuncId} {args : Array Value} {t1 t2 : List dK} (h : Calls Try.prog f args W (MV W (t1, t2, false))) :
  Calls Try.prog f args W fun e w' => ∃ A n c A' n' c', e = .returned (.tuple #[.slice A n c, .slice A' n' c', .bool false]) ∧ Below W.heap.size W w' :=
 h.mono (fun _ _ ⟨A, c, A', c', _, _, h1, _, h3⟩ => ⟨A, _, c, A', _, c', h1, h3⟩)
abbrev RX (w : World) (c : ai) (e : Ending) (w' : World) : Prop := ∃ A n cc, e = .returned (.tuple #[.slice A n cc, .bool (nN c)]) ∧ (nN c = true → ∃ ls : List dK, n = ls.length ∧ ls.length ≤ c.f3.length ∧ k23.R 23 w' w.heap.size (fun _ => True) (.slice A ls.length cc) ls) ∧ Below w.heap.size w w'
theorem Zv (k : Int) : (k - 1) % 256 = zg k := by unfold zg; omega
theorem QE {α β : Type} {r : α → β → Bool} : ∀ {a b : List α} {a' b' : List β}, a.length = a'.length → sV r (a ++ b) (a' ++ b') = (sV r a a' && sV r b b') := by
 intro a
 induction a with
 | nil => intro b a' b' h; cases a' with
  | nil => rw [Jt]; rfl
  | cons y ys => simp at h
 | cons x xs ih =>
  intro b a' b' h
  cases a' with
  | nil => simp at h
  | cons y ys =>
   simp only [List.cons_append, sV]
   rw [ih (by simpa using h), Bool.and_assoc]
theorem aeZ {α : Type} {r k : dK} (h : nI k r = false) (x y : α) : (if r.f0 = k.f0 then if r.f1 = k.f1 then if r.f2 = k.f2 then if r.f3 = k.f3 then x else y else y else y else y) = y := by
 unfold nI at h
 repeat' split
 all_goals first | rfl | (simp_all; done)
theorem acM {base n c : Nat} {A : Option Addr} {l : List dK} {o : Obj} (h : KR k23 23 base (.slice A n c) l o) {W : World} (hm : ∀ g, (Value.slice A n c).ownBlock = some g → W.heap[g]? = some o) (pre rest : List dK) (r : dK) (hl : pre ++ r :: rest = l) :
  ∃ ad, A = some ad ∧ ∀ W : World, (∀ g, (Value.slice A n c).ownBlock = some g → W.heap[g]? = some o) → W.cell? (ad.add (pre.length * 4)) = some (.int .i64 r.f0) ∧ W.cell? ⟨(ad.add (pre.length * 4)).block, (ad.add (pre.length * 4)).off + 1, none⟩ = some (.int .i64 r.f1) ∧ W.cell? ⟨(ad.add (pre.length * 4)).block, (ad.add (pre.length * 4)).off + 2, none⟩ = some (.int .i64 r.f2) ∧ W.cell? ⟨(ad.add (pre.length * 4)).block, (ad.add (pre.length * 4)).off + 3, none⟩ = some (.int .i64 r.f3) := by
 have hi : (pre.length : Int) < l.length := by rw [← hl, List.length_append, List.length_cons]; omega
 have hr : qE l pre.length = r := by rw [← hl]; simp [qE, List.getD_eq_getElem?_getD]
 have key : ∀ W : World, (∀ g, (Value.slice A n c).ownBlock = some g → W.heap[g]? = some o) → ∃ ad, A = some ad ∧ W.cell? (ad.add (pre.length * 4)) = some (.int .i64 r.f0) ∧ W.cell? ⟨(ad.add (pre.length * 4)).block, (ad.add (pre.length * 4)).off + 1, none⟩ = some (.int .i64 r.f1) ∧ W.cell? ⟨(ad.add (pre.length * 4)).block, (ad.add (pre.length * 4)).off + 2, none⟩ = some (.int .i64 r.f2) ∧ W.cell? ⟨(ad.add (pre.length * 4)).block, (ad.add (pre.length * 4)).off + 3, none⟩ = some (.int .i64 r.f3) := fun W hW => by
  have hC := (Kd.gy (h W hW)).2.2
  have h2 := N9 hC (pre.length : Int) (Int.natCast_nonneg _) hi
  rw [hr] at h2
  exact h2
 obtain ⟨ad, hA, _⟩ := key W hm
 refine ⟨ad, hA, fun W hW => ?_⟩
 obtain ⟨ad2, h1, h2⟩ := key W hW
 rw [hA] at h1
 injection h1 with h1
 rw [h1]
 exact h2
def yK.T20 : Bool × List (List Nat × List Nat) := (true, [([], []), ([], []), ([1], [1]), ([], []), ([2, 3], [2, 3]), ([], []), ([5], [5]), ([], []), ([], []), ([7, 8], [7, 8]), ([9], [9]), ([], []), ([11], [11]), ([4, 6, 10, 12], [4, 6, 10, 12]), ([13], [13]), ([0, 14], [0, 14]), ([15, 15, 0, 1, 2, 3, 4, 5, 6, 7, 8, 9, 10, 11, 12, 13, 14, 15], [0, 15])])
def yK.B20 : List Nat := [0, 0, 2, 0, 14, 0, 32, 0, 0, 384, 896, 0, 2048, 8190, 16382, 32767, 65535]
theorem yK.agO : iY .any (opsOf Try.f46 20) = yK.T20 := by kernel_rfl
theorem yK.ac2 : jA yK.T20.2 yK.B20 = true := by kernel_rfl
def yL.T21 : Bool × List (List Nat × List Nat) := (true, [([], []), ([], []), ([1], [1]), ([], []), ([3], [3]), ([], []), ([4, 5], [4, 5]), ([], []), ([7], [7]), ([], []), ([], []), ([9, 10], [9, 10]), ([11], [11]), ([2, 6, 8, 12], [2, 6, 8, 12]), ([13], [13]), ([0, 14], [0, 14]), ([15, 15, 0, 1, 2, 3, 4, 5, 6, 7, 8, 9, 10, 11, 12, 13, 14, 15], [0, 15])])
def yL.B21 : List Nat := [0, 0, 2, 0, 8, 0, 56, 0, 128, 0, 0, 1536, 3584, 8190, 16382, 32767, 65535]
theorem yL.agP : iY .any (opsOf Try.f46 21) = yL.T21 := by kernel_rfl
theorem yL.ac3 : jA yL.T21.2 yL.B21 = true := by kernel_rfl
theorem piece1 (s t e n : Int) : oM 1 s t e n = ⟨s, t, n, e⟩ := rfl
theorem piece2 (s t e n : Int) : oM 2 s t e n = ⟨t, s, e, n⟩ := rfl
theorem ae5 (X Y Wd H ax : Int) (sizes : List Int) (hl : sizes.length ≤ 1000000) (B : Option Addr) (cb : Nat) (w : World) (hi : Kd.C (Kd.int .i64) w B sizes.length sizes) :
  Calls Try.prog 46 #[.agg #[.int .i64 X, .int .i64 Y, .int .i64 Wd, .int .i64 H], .int .u8 ax, .slice B sizes.length cb] w (MV w (qX X Y Wd H ax sizes)) := by
 have S := ae.mk (St.start (ts := []) (b0 := w.heap.size) (w := w) (P := fun _ => True) (fun _ h => by cases h))
 have HI := ae.mk hi
 have kF := ae.mk hl
 clear hi hl
 by_cases hm : qB X Y Wd H = true
 case neg =>
  have HQ := ae.mk (zX (X := X) (Y := Y) (W := Wd) (H := H) (ax := ax) (sizes := sizes) (.inr (.inl (Bool.eq_false_iff.mpr hm))))
  have yh := ae.mk (Bool.eq_false_iff.mpr hm)
  clear hm
  go_enter Try.func46, Try.ntmps46
  go_wp2_with (first | (refine boxS 3 _ 23 S ?_; clear S; intro b3 eU S) | (refine fD 15 rfl ?_; refine oD k23 23 rfl 15 S ?_; clear S; intro An cn on fV S Np; obtain ⟨dJ, dR, dU, dV⟩ := St.at4 S bf) | (refine bI (some 17) Try.func57 S (EL yh.out) ?_; clear S; intro gz S; clear dJ dR dU dV))
  go_ret3
  rw [HQ.out]
  exact ⟨_, _, _, _, .cells #[] 0 (0, 0), .cells #[] 0 (0, 0), rfl, (fun h => by cases h), S.out.below⟩
 have yh := ae.mk hm
 by_cases h1 : ax < 1
 case pos =>
  have HQ := ae.mk (zX (X := X) (Y := Y) (W := Wd) (H := H) (ax := ax) (sizes := sizes) (.inl (by omega)))
  obtain ⟨h1a, h1b⟩ := o5 (a := ax) (b := 1) (by omega)
  clear hm h1
  go_enter Try.func46, Try.ntmps46
  go_wp2_with (first | (refine boxS 3 _ 23 S ?_; clear S; intro b3 eU S) | (refine fD 15 rfl ?_; refine oD k23 23 rfl 15 S ?_; clear S; intro An cn on fV S Np; obtain ⟨dJ, dR, dU, dV⟩ := St.at4 S bf) | (refine bI (some 17) Try.func57 S (EL yh.out) ?_; clear S; intro gz S; clear dJ dR dU dV))
  go_ret3
  rw [HQ.out]
  exact ⟨_, _, _, _, .cells #[] 0 (0, 0), .cells #[] 0 (0, 0), rfl, (fun h => by cases h), S.out.below⟩
 obtain ⟨h1a, h1b⟩ := gU (a := ax) (b := 1) (by omega)
 by_cases h2 : 2 < ax
 case pos =>
  have HQ := ae.mk (zX (X := X) (Y := Y) (W := Wd) (H := H) (ax := ax) (sizes := sizes) (.inl (by omega)))
  obtain ⟨D7, h2b⟩ := o5 (a := 2) (b := ax) (by omega)
  clear hm h1 h2
  go_enter Try.func46, Try.ntmps46
  go_wp2_with (first | (refine boxS 3 _ 23 S ?_; clear S; intro b3 eU S) | (refine fD 15 rfl ?_; refine oD k23 23 rfl 15 S ?_; clear S; intro An cn on fV S Np; obtain ⟨dJ, dR, dU, dV⟩ := St.at4 S bf) | (refine bI (some 17) Try.func57 S (EL yh.out) ?_; clear S; intro gz S; clear dJ dR dU dV))
  go_ret3
  rw [HQ.out]
  exact ⟨_, _, _, _, .cells #[] 0 (0, 0), .cells #[] 0 (0, 0), rfl, (fun h => by cases h), S.out.below⟩
 obtain ⟨D7, h2b⟩ := gU (a := 2) (b := ax) (by omega)
 by_cases h0 : sizes.length = 0
 case pos =>
  have HQ := ae.mk (zX (X := X) (Y := Y) (W := Wd) (H := H) (ax := ax) (sizes := sizes) (.inr (.inr h0)))
  obtain ⟨F6, D6, OB⟩ := vN (a := (sizes.length : Int)) (b := 0) (by omega)
  have U6 : (sizes.length == 0) = true := beq_iff_eq.mpr (by omega)
  have U7 : decide (sizes.length = 0) = true := decide_eq_true (by omega)
  clear hm h1 h2 h0
  go_enter Try.func46, Try.ntmps46
  go_wp2_with (first | (refine boxS 3 _ 23 S ?_; clear S; intro b3 eU S) | (refine fD 15 rfl ?_; refine oD k23 23 rfl 15 S ?_; clear S; intro An cn on fV S Np; obtain ⟨dJ, dR, dU, dV⟩ := St.at4 S bf) | (refine bI (some 17) Try.func57 S (EL yh.out) ?_; clear S; intro gz S; clear dJ dR dU dV))
  go_ret3
  rw [HQ.out]
  exact ⟨_, _, _, _, .cells #[] 0 (0, 0), .cells #[] 0 (0, 0), rfl, (fun h => by cases h), S.out.below⟩
 have hax : ax = 1 ∨ ax = 2 := by omega
 have y7 := ae.mk hax
 obtain ⟨S0, hS0⟩ : ∃ s, s = tX ax X Y := ⟨_, rfl⟩
 obtain ⟨T0, hT0⟩ : ∃ s, s = tX ax Y X := ⟨_, rfl⟩
 obtain ⟨D, hD⟩ : ∃ s, s = tX ax Wd H := ⟨_, rfl⟩
 obtain ⟨E, hE⟩ : ∃ s, s = tX ax H Wd := ⟨_, rfl⟩
 have HS1 := ae.mk (show ax = 1 → S0 = X ∧ T0 = Y ∧ D = Wd ∧ E = H from fun h => by subst h; exact ⟨hS0, hT0, hD, hE⟩)
 have HS2 := ae.mk (show ax = 2 → S0 = Y ∧ T0 = X ∧ D = H ∧ E = Wd from fun h => by subst h; exact ⟨hS0, hT0, hD, hE⟩)
 have hq := UW hax hm h0
 rw [← hS0, ← hT0, ← hD, ← hE] at hq
 have hb := WG hax hm
 rw [← hS0, ← hD] at hb
 have HB := ae.mk hb
 rw [hq]
 obtain ⟨F6, D6, OB⟩ := eqF (a := (sizes.length : Int)) (b := 0) (by omega)
 have U6 : (sizes.length == 0) = false := beq_eq_false_iff_ne.mpr (by omega)
 have U7 : decide (sizes.length = 0) = false := decide_eq_false (by omega)
 obtain ⟨R, hR⟩ : ∃ R, R = oK ax S0 T0 D E 0 true [] [] sizes := ⟨_, rfl⟩
 rw [← hR]
 have HR := ae.mk hR
 clear hq hb hm h0 h1 h2 hax hS0 hT0 hD hE hR
 go_enter Try.func46, Try.ntmps46
 go_upto_if 37 with (first | (refine boxS 3 _ 23 S ?_; clear S; intro b3 eU S) | (refine fD 15 rfl ?_; refine oD k23 23 rfl 15 S ?_; clear S; intro An cn on fV S Np; obtain ⟨dJ, dR, dU, dV⟩ := St.at4 S bf) | (refine bI (some 17) Try.func57 S (EL yh.out) ?_; clear S; intro gz S; clear dJ dR dU dV; have dU := (S.out.at bf 2).trans rfl))
 clear dU
 (skip)
 go_cut [10] (fun v10 wc => v10 = .int .i64 D ∧ ae (St w (fun _ => True) [((Value.slice An 0 cn).ownBlock, on), (some b3, .cells #[.int .i64 X, .int .i64 Y, .int .i64 Wd, .int .i64 H] 23 (0, 0))] [] [] [] wc))
 case first =>
  by_cases hx : ax = 2
  case pos =>
   have hd := (HS2.out hx).2.2.1
   obtain ⟨hxa, hxb, hxd⟩ := vN (a := ax) (b := 2) (by omega)
   have HDD := ae.mk hd
   clear hx hd
   have dV := (S.out.at bf 3).trans rfl
   go_wp2
   clear dV
   go_meet
   case rel => exact ⟨by rw [HDD.out], S⟩
  case neg =>
   have hd := (HS1.out (by have := y7.out; omega)).2.2.1
   obtain ⟨hxa, hxb, hxd⟩ := eqF (a := ax) (b := 2) (by omega)
   have HDD := ae.mk hd
   clear hx hd
   go_wp2
   go_meet
   case rel => exact ⟨by rw [HDD.out], S⟩
 case rest =>
  clear S
  obtain ⟨rfl, S⟩ := hcut
  rename World => wx
  go_wp2_with (first | (refine fD 40 rfl ?_; refine oD k23 23 rfl 40 S ?_; clear S; intro Ap cp op eU S iW) | (refine fD 41 rfl ?_; refine oD k23 23 rfl 41 S ?_; clear S; intro Aq cq oq fV S oG))
  clear F6 D6 OB U6 U7 h1a h1b D7 h2b
  go_loopg [11, 12, 13, 44] sizes.length (fun gg v11 v12 v13 v44 wr => ∃ (pre rest : List Int) (off : Int) (ps ls : List dK) (Ap : Option Addr) (cp : Nat) (op : Obj) (Aq : Option Addr) (cq : Nat) (oq : Obj), v11 = .slice Ap ps.length cp ∧ v12 = .slice Aq ls.length cq ∧ v13 = .int .i64 off ∧ v44 = .int .i64 (pre.length : Int) ∧ ae (pre ++ rest = sizes) ∧ rest.length ≤ gg ∧ ae (0 ≤ off ∧ off ≤ D ∧ ps.length ≤ pre.length ∧ ls.length ≤ pre.length) ∧ ae (oK ax S0 T0 D E off (pre.length == 0) ps ls rest = R) ∧ ae (KR k23 23 w.heap.size (.slice Ap ps.length cp) ps op) ∧ ae (KR k23 23 w.heap.size (.slice Aq ls.length cq) ls oq) ∧ ae (St w (fun _ => True) [((Value.slice Ap ps.length cp).ownBlock, op), ((Value.slice Aq ls.length cq).ownBlock, oq), ((Value.slice An 0 cn).ownBlock, on), (some b3, .cells #[.int .i64 X, .int .i64 Y, .int .i64 Wd, .int .i64 H] 23 (0, 0))] [] [] [] wr))
  case atStart => exact ⟨[], sizes, 0, [], [], _, _, _, _, _, _, rfl, rfl, rfl, rfl, ⟨rfl⟩, Nat.le_refl _, ⟨by have := HB.out; simp; omega⟩, ⟨HR.out.symm⟩, iW, oG, ⟨S.out.rY.rY.Lh.rY⟩⟩
  case round =>
   clear S HR iW oG
   obtain ⟨pre, rest, off, ps, ls, Ap, cp, op, Aq, cq, oq, rfl, rfl, rfl, rfl, HE, hgg, HO, HG, iW, oG, S⟩ := hrel
   cases rest with
   | nil =>
    have hE := HE.out
    rw [List.append_nil] at hE
    subst hE
    clear HE hgg
    have hlt : ¬ ((pre.length : Int) < (pre.length : Int)) := by omega
    have Ug := ae.mk (Ot HG.out)
    by_cases hod : off = D
    case pos =>
     obtain ⟨hza, hzb, hzd⟩ := vN (a := off) (b := D) (by omega)
     have Nr := ae.mk hod
     clear hod
     go_wp2
     go_ret3
     rw [Ug.out, if_pos Nr.out]
     exact ⟨Ap, cp, Aq, cq, op, oq, rfl, fun _ => S.out.V9 iW.out oG.out, S.out.below⟩
    case neg =>
     obtain ⟨hza, hzb, hzd⟩ := eqF (a := off) (b := D) (by omega)
     have Nr := ae.mk hod
     clear hod
     go_wp2
     have HQ := ae.mk (Ug.out.trans (if_neg Nr.out))
     go_ret3
     rw [HQ.out]
     exact ⟨_, _, _, _, .cells #[] 0 (0, 0), .cells #[] 0 (0, 0), rfl, (fun h => by cases h), S.out.below⟩
   | cons n ns =>
    have hlt : (pre.length : Int) < (sizes.length : Int) := by rw [← HE.out, List.length_append, List.length_cons]; omega
    have hw1 : wrap64 ((pre.length : Int) + 1) = ((pre ++ [n]).length : Int) := by have := kF.out; rw [List.length_append, List.length_singleton]; unfold wrap64; omega
    have HW1 := ae.mk hw1
    have kY := ae.mk hgg
    have Qk := ae.mk hlt
    have AL := ae.mk (show ps.length ≤ 1000000 ∧ ls.length ≤ 1000000 by have := HO.out; have := kF.out; omega)
    clear hgg hw1
    go_upto_if 48 with fail
    (skip)
    go_cut [12, 13] (fun v12 v13 wc => ∃ (o' : Int) (ls' : List dK) (Aq : Option Addr) (cq : Nat) (oq : Obj), v12 = .slice Aq ls'.length cq ∧ v13 = .int .i64 o' ∧ ae (0 ≤ o' ∧ o' ≤ D + 1 ∧ ls'.length ≤ pre.length + 1) ∧ ae (Bi ax S0 T0 D E o' ps ls' n ns = R) ∧ ae (KR k23 23 w.heap.size (.slice Aq ls'.length cq) ls' oq) ∧ ae (St w (fun _ => True) [((Value.slice Ap ps.length cp).ownBlock, op), ((Value.slice Aq ls'.length cq).ownBlock, oq), ((Value.slice An 0 cn).ownBlock, on), (some b3, .cells #[.int .i64 X, .int .i64 Y, .int .i64 Wd, .int .i64 H] 23 (0, 0))] [] [] [] wc))
    case first =>
     by_cases hp2 : pre.length = 0
     case pos =>
      have hp : (pre.length == 0) = true := beq_iff_eq.mpr hp2
      obtain ⟨hpa, hpb⟩ := gU (a := 0) (b := (pre.length : Int)) (by omega)
      have hpc : decide (0 < pre.length) = false := decide_eq_false (by omega)
      have hpe : ¬ (0 < pre.length) := by omega
      have HG2 := ae.mk (show Bi ax S0 T0 D E off ps ls n ns = R by have h := HG.out; rw [hp] at h; exact h)
      clear hp hp2
      go_wp2
      go_meet
      case rel => exact ⟨off, ls, _, _, _, rfl, rfl, ⟨by have := HO.out; omega⟩, HG2, oG, S⟩
     case neg =>
      have hp : (pre.length == 0) = false := beq_eq_false_iff_ne.mpr hp2
      obtain ⟨hpa, hpb⟩ := o5 (a := 0) (b := (pre.length : Int)) (by omega)
      have hpc : decide (0 < pre.length) = true := decide_eq_true (by omega)
      have hpe : 0 < pre.length := by omega
      have Uf := ae.mk (show Bi ax S0 T0 D E (off + 1) ps (ls ++ [oM ax (S0 + off) T0 E 1]) n ns = R by have h := HG.out; rw [hp] at h; exact h)
      have Qn := ae.mk (show wrap64 (off + 1) = off + 1 by have := HO.out; have := HB.out; unfold wrap64; omega)
      clear hp hp2
      by_cases hx : ax = 1
      case pos =>
       have HX := ae.mk hx
       obtain ⟨hxa, hxb, hxd⟩ := vN (a := ax) (b := 1) (by omega)
       clear hx
       have Ns := ae.mk (show oM ax (S0 + off) T0 E 1 = (⟨wrap64 (X + off), Y, 1, H⟩ : dK) by have hb := HB.out; have ho := HO.out; have hs := HS1.out HX.out; rw [HX.out, piece1, hs.1, hs.2.1, hs.2.2.2, show wrap64 (X + off) = X + off by rw [hs.1] at hb; unfold wrap64; omega])
       have HG2 := ae.mk (show Bi ax S0 T0 D E (off + 1) ps (ls ++ [(⟨wrap64 (X + off), Y, 1, H⟩ : dK)]) n ns = R by rw [← Ns.out]; exact Uf.out)
       have dJ := (S.out.at jM 0).trans rfl
       have dR := (S.out.at jM 1).trans rfl
       have dV := (S.out.at jM 3).trans rfl
       go_wp2_with ((refine fD 62 rfl ?_; at_builtin; replace S := ae.mk S.out.vO; refine vM k23 23 rfl 51 61 42 _ 32 Try.underlying42 info23 rfl (by decide) (by decide) (by decide) S oG ⟨wrap64 (X + off), Y, 1, H⟩ [.int .i64 (wrap64 (X + off)), .int .i64 Y, .int .i64 1, .int .i64 H] (fun _ _ _ => rO _ _ _ _) (by have := AL.out; omega) ?_; clear S oG; intro Aq2 cq2 oq2 eU S oG; clear dJ dR dV))
       go_meet
       case rel => exact ⟨off + 1, _, _, _, _, (by rw [List.length_append]; rfl), (by rw [Qn.out]), ⟨by have := HO.out; rw [List.length_append, List.length_singleton]; omega⟩, HG2, oG, ⟨S.out.rY.rY.Lh.rY⟩⟩
      case neg =>
       have HX := ae.mk (show ax = 2 by have := y7.out; omega)
       obtain ⟨hxa, hxb, hxd⟩ := eqF (a := ax) (b := 1) (by omega)
       clear hx
       have Ns := ae.mk (show oM ax (S0 + off) T0 E 1 = (⟨X, wrap64 (Y + off), Wd, 1⟩ : dK) by have hb := HB.out; have ho := HO.out; have hs := HS2.out HX.out; rw [HX.out, piece2, hs.1, hs.2.1, hs.2.2.2, show wrap64 (Y + off) = Y + off by rw [hs.1] at hb; unfold wrap64; omega])
       have HG2 := ae.mk (show Bi ax S0 T0 D E (off + 1) ps (ls ++ [(⟨X, wrap64 (Y + off), Wd, 1⟩ : dK)]) n ns = R by rw [← Ns.out]; exact Uf.out)
       have dJ := (S.out.at jM 0).trans rfl
       have dR := (S.out.at jM 1).trans rfl
       have dU := (S.out.at jM 2).trans rfl
       go_wp2_with ((refine fD 74 rfl ?_; at_builtin; replace S := ae.mk S.out.vO; refine vM k23 23 rfl 63 73 42 _ 32 Try.underlying42 info23 rfl (by decide) (by decide) (by decide) S oG ⟨X, wrap64 (Y + off), Wd, 1⟩ [.int .i64 X, .int .i64 (wrap64 (Y + off)), .int .i64 Wd, .int .i64 1] (fun _ _ _ => rO _ _ _ _) (by have := AL.out; omega) ?_; clear S oG; intro Aq2 cq2 oq2 eU S oG; clear dJ dR dU))
       go_meet
       case rel => exact ⟨off + 1, _, _, _, _, (by rw [List.length_append]; rfl), (by rw [Qn.out]), ⟨by have := HO.out; rw [List.length_append, List.length_singleton]; omega⟩, HG2, oG, ⟨S.out.rY.rY.Lh.rY⟩⟩
    case rest =>
     clear S oG HG
     obtain ⟨o', ls', Aq, cq, oq, rfl, rfl, rW, HG, oG, S⟩ := hcut
     rename World => wy
     have AL := ae.mk (show ps.length ≤ 1000000 ∧ ls'.length ≤ 1000001 by have := HO.out; have := rW.out; have := kF.out; omega)
     have hlt := Qk.out
     have hrd : rd sizes (pre.length : Int) = n := by rw [← HE.out]; simp [rd, List.getD_eq_getElem?_getD]
     obtain ⟨FY, ek, xi⟩ := Kd.sS (Kd.eY HI.out S.out.below) (pre.length : Int) (Int.natCast_nonneg _) hlt
     subst ek
     rw [hrd] at xi
     simp only [Int.toNat_natCast] at xi
     have HXI := fun (W : World) (h : Below w.heap.size w W) => (show W.cell? (FY.add pre.length) = some (.int .i64 n) by have h2 := Kd.sS (Kd.eY HI.out h) (pre.length : Int) (Int.natCast_nonneg _) Qk.out; obtain ⟨ad, e1, e2⟩ := h2; injection e1 with e1; subst e1; simp only [Int.toNat_natCast] at e2; rw [e2, ← HE.out]; simp [rd, List.getD_eq_getElem?_getD])
     have y9 := ae.mk HXI
     clear hrd xi HXI
     by_cases hn : n < 1
     case pos =>
      obtain ⟨hna, hnb⟩ := o5 (a := n) (b := 1) (by omega)
      have HQ := ae.mk (HG.out.symm.trans (BG (.inl hn)))
      have xi := y9.out _ S.out.below
      go_wp2
      clear xi
      go_ret3
      rw [HQ.out]
      exact ⟨_, _, _, _, .cells #[] 0 (0, 0), .cells #[] 0 (0, 0), rfl, (fun h => by cases h), S.out.below⟩
     obtain ⟨hna, hnb⟩ := gU (a := n) (b := 1) (by omega)
     by_cases hd : D < n
     case pos =>
      obtain ⟨Vr, Vs⟩ := o5 (a := D) (b := n) (by omega)
      have HQ := ae.mk (HG.out.symm.trans (BG (.inr (by have := rW.out; omega))))
      have xi := y9.out _ S.out.below
      go_wp2
      clear xi
      go_ret3
      rw [HQ.out]
      exact ⟨_, _, _, _, .cells #[] 0 (0, 0), .cells #[] 0 (0, 0), rfl, (fun h => by cases h), S.out.below⟩
     obtain ⟨Vr, Vs⟩ := gU (a := D) (b := n) (by omega)
     have hg : wrap64 (o' + n) = o' + n := by have := HB.out; have := rW.out; unfold wrap64; omega
     have HWG := ae.mk hg
     by_cases he : D < o' + n
     case pos =>
      obtain ⟨hea, heb⟩ := o5 (a := D) (b := wrap64 (o' + n)) (by omega)
      obtain ⟨hfa, hfb⟩ := o5 (a := D) (b := o' + n) (by omega)
      have HQ := ae.mk (HG.out.symm.trans (BG (.inr he)))
      have xi := y9.out _ S.out.below
      go_wp2
      clear xi
      go_ret3
      rw [HQ.out]
      exact ⟨_, _, _, _, .cells #[] 0 (0, 0), .cells #[] 0 (0, 0), rfl, (fun h => by cases h), S.out.below⟩
     obtain ⟨hea, heb⟩ := gU (a := D) (b := wrap64 (o' + n)) (by omega)
     obtain ⟨hfa, hfb⟩ := gU (a := D) (b := o' + n) (by omega)
     have Uf := ae.mk ((QA (fun h => h.elim hn he)).symm.trans HG.out)
     have HN := ae.mk hn
     have HD2 := ae.mk he
     clear hn hd he hg
     by_cases hx : ax = 1
     case pos =>
      have HX := ae.mk hx
      obtain ⟨hxa, hxb, hxd⟩ := vN (a := ax) (b := 1) (by omega)
      clear hx
      have Ns := ae.mk (show oM ax (S0 + o') T0 E n = (⟨wrap64 (X + o'), Y, n, H⟩ : dK) by have hb := HB.out; have ho := rW.out; have hs := HS1.out HX.out; rw [HX.out, piece1, hs.1, hs.2.1, hs.2.2.2, show wrap64 (X + o') = X + o' by rw [hs.1] at hb; unfold wrap64; omega])
      have HG2 := ae.mk (show oK ax S0 T0 D E (o' + n) false (ps ++ [(⟨wrap64 (X + o'), Y, n, H⟩ : dK)]) ls' ns = R by rw [← Ns.out]; exact Uf.out)
      have xi := y9.out _ S.out.below
      go_wp2
      clear xi
      go_wp2
      refine kX (n := 17) (S := fun w' => St w _ _ _ _ _ w') (ds := [15]) (bA 17 0) (by kernel_rfl) rfl rfl (S.out.f_.call (bz (Below.refl _ _))) (fun hHeld => ?_); refine ik yK.agO yK.ac2 (fun az fZ => ?_)
      replace S := ae.mk (S.out.call (bz (Below.refl _ _)))
      generalize wy.drew = Zh at S hHeld ⊢
      refine aJ 0 104 (bA 17 1) az ?_
      refine aJ 1 105 (bA 17 3) az ?_
      refine eQ 2 106 (bA 17 7) az fZ hHeld ?_ (hv := by intro w' hs_; have dJ := (hs_.at eF 0).trans rfl; go_simp; with_reducible rfl)
      refine aJ 3 107 (bA 17 15) az ?_
      refine aJ 4 108 (bA 17 31) az ?_
      refine aJ 5 109 (bA 17 63) az ?_
      refine eQ 6 110 (bA 17 127) az fZ hHeld ?_ (hv := by intro w' hs_; have dR := (hs_.at eF 1).trans rfl; go_simp; with_reducible rfl)
      refine aJ 7 111 (bA 17 255) az ?_
      refine aJ 8 112 (bA 17 511) az ?_
      refine aJ 9 113 (bA 17 1023) az ?_
      refine eQ 10 114 (bA 17 2047) az fZ hHeld ?_ (hv := by intro w' hs_; have xi := y9.out _ hs_.below; go_simp; with_reducible rfl)
      refine aJ 11 115 (bA 17 4095) az ?_
      refine eQ 12 116 (bA 17 8191) az fZ hHeld ?_ (hv := by intro w' hs_; have dV := (hs_.at eF 3).trans rfl; go_simp; with_reducible rfl)
      refine aJ 13 117 (bA 17 16383) az ?_
      refine kW 14 (some 118) (bA 17 32767) az (fun K hK => ?_)
      refine WO (w1 := ?_) (v := ?_) (by rfl) rfl ?_ ?_
      rotate_left 2
      ·go_simp
       constructor
       ·rfl
       ·rfl
      refine hK.out _ _ (S.out.f_.call (aX (Below.refl _ _) _)) (fun hHeld => ?_)
      clear hK K
      refine fJ 118 ?_
      refine uZ 15 (some 119) (bA 17 65535) az (fun K hK => ?_)
      refine N8 k23 23 rfl 104 118 42 _ 32 Try.underlying42 info23 rfl (by decide) (by decide) (by decide) S iW ⟨wrap64 (X + o'), Y, n, H⟩ [.int .i64 (wrap64 (X + o')), .int .i64 Y, .int .i64 n, .int .i64 H] (fun _ _ _ => rO _ _ _ _) (by have := AL.out; omega) ?_
      clear S iW
      intro MR cp2 Pn gz S iW
      refine hK.out _ _ ?_
      clear hK K
      refine fJ 119 ?_
      refine aJ 16 11 (bA 17 131071) az ?_
      refine nz (jK az.out (by kernel_rfl)) ?_
      clear hHeld
      have xi := y9.out _ S.out.below
      go_wp2
      clear xi
      have hw1 := HW1.out
      go_wp2
      go_roundg ns.length
      case measure => exact Nat.lt_of_lt_of_le (Nat.lt_succ_self _) kY.out
      case rel => exact ⟨pre ++ [n], ns, o' + n, _, ls', _, _, _, _, _, _, (by rw [List.length_append]; rfl), rfl, (by rw [HWG.out]), (by rw [hw1]), ⟨by rw [List.append_assoc]; exact HE.out⟩, Nat.le_refl _, ⟨by have := HO.out; have := rW.out; have := HN.out; have := HD2.out; simp only [List.length_append, List.length_singleton]; omega⟩, ⟨by rw [show ((pre ++ [n]).length == 0) = false by simp]; exact HG2.out⟩, iW, oG, ⟨S.out.rY.rY.rY.rY⟩⟩
     case neg =>
      have HX := ae.mk (show ax = 2 by have := y7.out; omega)
      obtain ⟨hxa, hxb, hxd⟩ := eqF (a := ax) (b := 1) (by omega)
      clear hx
      have Ns := ae.mk (show oM ax (S0 + o') T0 E n = (⟨X, wrap64 (Y + o'), Wd, n⟩ : dK) by have hb := HB.out; have ho := rW.out; have hs := HS2.out HX.out; rw [HX.out, piece2, hs.1, hs.2.1, hs.2.2.2, show wrap64 (Y + o') = Y + o' by rw [hs.1] at hb; unfold wrap64; omega])
      have HG2 := ae.mk (show oK ax S0 T0 D E (o' + n) false (ps ++ [(⟨X, wrap64 (Y + o'), Wd, n⟩ : dK)]) ls' ns = R by rw [← Ns.out]; exact Uf.out)
      have xi := y9.out _ S.out.below
      go_wp2
      clear xi
      go_wp2
      refine kX (n := 17) (S := fun w' => St w _ _ _ _ _ w') (ds := [15]) (bA 17 0) (by kernel_rfl) rfl rfl (S.out.f_.call (bz (Below.refl _ _))) (fun hHeld => ?_); refine ik yL.agP yL.ac3 (fun az fZ => ?_)
      replace S := ae.mk (S.out.call (bz (Below.refl _ _)))
      generalize wy.drew = Zh at S hHeld ⊢
      refine aJ 0 120 (bA 17 1) az ?_
      refine aJ 1 121 (bA 17 3) az ?_
      refine eQ 2 122 (bA 17 7) az fZ hHeld ?_ (hv := by intro w' hs_; have dJ := (hs_.at eF 0).trans rfl; go_simp; with_reducible rfl)
      refine aJ 3 123 (bA 17 15) az ?_
      refine eQ 4 124 (bA 17 31) az fZ hHeld ?_ (hv := by intro w' hs_; have dR := (hs_.at eF 1).trans rfl; go_simp; with_reducible rfl)
      refine aJ 5 125 (bA 17 63) az ?_
      refine aJ 6 126 (bA 17 127) az ?_
      refine aJ 7 127 (bA 17 255) az ?_
      refine eQ 8 128 (bA 17 511) az fZ hHeld ?_ (hv := by intro w' hs_; have dU := (hs_.at eF 2).trans rfl; go_simp; with_reducible rfl)
      refine aJ 9 129 (bA 17 1023) az ?_
      refine aJ 10 130 (bA 17 2047) az ?_
      refine aJ 11 131 (bA 17 4095) az ?_
      refine eQ 12 132 (bA 17 8191) az fZ hHeld ?_ (hv := by intro w' hs_; have xi := y9.out _ hs_.below; go_simp; with_reducible rfl)
      refine aJ 13 133 (bA 17 16383) az ?_
      refine kW 14 (some 134) (bA 17 32767) az (fun K hK => ?_)
      refine WO (w1 := ?_) (v := ?_) (by rfl) rfl ?_ ?_
      rotate_left 2
      ·go_simp
       constructor
       ·rfl
       ·rfl
      refine hK.out _ _ (S.out.f_.call (aX (Below.refl _ _) _)) (fun hHeld => ?_)
      clear hK K
      refine fJ 134 ?_
      refine uZ 15 (some 135) (bA 17 65535) az (fun K hK => ?_)
      refine N8 k23 23 rfl 120 134 42 _ 32 Try.underlying42 info23 rfl (by decide) (by decide) (by decide) S iW ⟨X, wrap64 (Y + o'), Wd, n⟩ [.int .i64 X, .int .i64 (wrap64 (Y + o')), .int .i64 Wd, .int .i64 n] (fun _ _ _ => rO _ _ _ _) (by have := AL.out; omega) ?_
      clear S iW
      intro MR cp2 Pn gz S iW
      refine hK.out _ _ ?_
      clear hK K
      refine fJ 135 ?_
      refine aJ 16 11 (bA 17 131071) az ?_
      refine nz (jK az.out (by kernel_rfl)) ?_
      clear hHeld
      have xi := y9.out _ S.out.below
      go_wp2
      clear xi
      have hw1 := HW1.out
      go_wp2
      go_roundg ns.length
      case measure => exact Nat.lt_of_lt_of_le (Nat.lt_succ_self _) kY.out
      case rel => exact ⟨pre ++ [n], ns, o' + n, _, ls', _, _, _, _, _, _, (by rw [List.length_append]; rfl), rfl, (by rw [HWG.out]), (by rw [hw1]), ⟨by rw [List.append_assoc]; exact HE.out⟩, Nat.le_refl _, ⟨by have := HO.out; have := rW.out; have := HN.out; have := HD2.out; simp only [List.length_append, List.length_singleton]; omega⟩, ⟨by rw [show ((pre ++ [n]).length == 0) = false by simp]; exact HG2.out⟩, iW, oG, ⟨S.out.rY.rY.rY.rY⟩⟩
theorem Yo (c : ai) (hl : c.f3.length ≤ 1000000) (b : Nat) (P : Nat → Prop) (A : Option Addr) (cc : Nat) (w : World) (hv : Kd.V k26 26 w b P (.slice A c.f3.length cc) c.f3) :
  Calls Try.prog 194 #[.agg #[.int .u8 c.f0, .int .i64 c.f1.f0, .int .i64 c.f1.f1, .int .i64 c.f1.f2, .int .i64 c.f1.f3, .int .i64 c.f2, .slice A c.f3.length cc]] w fun e w' => ∃ A' c', e = .returned (.slice A' (jH c).length c') ∧ (Kd.int .i64).R 3 w' w.heap.size (fun _ => True) (.slice A' (jH c).length c') (jH c) ∧ Below w.heap.size w w' := by
 have S := ae.mk (St.start (ts := [(.slice A c.f3.length cc, c.f3)]) (b0 := w.heap.size) (w := w) (P := P) (fun t ht => by rw [List.mem_singleton.1 ht]; exact dX hv))
 have kF := ae.mk hl
 clear hl hv
 obtain ⟨ck, ⟨cx, cy, cw, ch⟩, aQ, l⟩ := c
 simp only [] at S kF ⊢
 rw [show jH ⟨ck, ⟨cx, cy, cw, ch⟩, aQ, l⟩ = l.map (qP ck) from rfl]
 simp only [List.length_map]
 go_enter Try.func194, Try.ntmps194
 go_wp2_with (first
  | (refine boxS 1 _ 26 S ?_; clear S; intro b1 eU S)
  | (refine fD 5 rfl ?_; refine oD (Kd.int .i64) 3 rfl 5 S ?_; clear S; intro Ap cp op fV S iW; have jB := (S.out.at bf 6).trans rfl)
  | fail)
 clear jB
 go_loopg [3, 9] l.length (fun gg v3 v9 wr => ∃ (pre rest : List ai) (Ap : Option Addr) (cp : Nat) (op : Obj), v3 = .slice Ap pre.length cp ∧ v9 = .int .i64 (pre.length : Int) ∧ ae (pre ++ rest = l) ∧ rest.length ≤ gg ∧ ae (KR (Kd.int .i64) 3 w.heap.size (.slice Ap pre.length cp) (pre.map (qP ck)) op) ∧ ae (St w P [((Value.slice Ap pre.length cp).ownBlock, op), (some b1, .cells #[.int .u8 ck, .int .i64 cx, .int .i64 cy, .int .i64 cw, .int .i64 ch, .int .i64 aQ, .slice A l.length cc] 26 (0, 0))] [] [(.slice A l.length cc, l)] [] wr))
 case atStart => exact ⟨[], l, _, _, _, rfl, rfl, ⟨rfl⟩, Nat.le_refl _, iW, S⟩
 case round =>
  clear S iW
  obtain ⟨pre, rest, Ap, cp, op, rfl, rfl, HE, hgg, iW, S⟩ := hrel
  cases rest with
  | nil =>
   have hE := HE.out
   rw [List.append_nil] at hE
   have hE2 := hE.symm
   subst hE2
   clear hE HE hgg
   have hlt : ¬ ((l.length : Int) < (l.length : Int)) := by omega
   go_wp2
   go_ret
   exact ⟨_, _, rfl, S.out.Tu iW.out (.head _), S.out.below⟩
  | cons k rest =>
   have hk : k ∈ l := by rw [← HE.out]; simp
   have hlt : (pre.length : Int) < (l.length : Int) := by rw [← HE.out, List.length_append, List.length_cons]; omega
   have hw1 : wrap64 ((pre.length : Int) + 1) = ((pre ++ [k]).length : Int) := by have := kF.out; rw [List.length_append, List.length_singleton]; unfold wrap64; omega
   have HW1 := ae.mk hw1
   have kY := ae.mk hgg
   have HK := ae.mk hk
   have DF := ae.mk (show pre.length ≤ 1048576 by have := kF.out; omega)
   obtain ⟨lu, ua, uc, ek, S1⟩ := S.out.elem (.head _) (pre.length : Int) (Int.natCast_nonneg _) hlt
   subst ek
   have hrd : aj l (pre.length : Int) = k := by rw [← HE.out]; exact lD pre k rest
   rw [hrd] at S1
   simp only [Int.toNat_natCast] at S1
   replace S := ae.mk S1
   clear S1 hrd hk hgg hw1
   by_cases hk2 : ck = 2
   case pos =>
    have hka : (ck == 2) = true := beq_iff_eq.mpr hk2
    have hkb : decide (ck = 2) = true := decide_eq_true hk2
    have Nv := ae.mk (show (pre ++ [k]).map (qP ck) = pre.map (qP ck) ++ [k.f1.f2] by rw [List.map_append]; exact congrArg (pre.map (qP ck) ++ [·]) (if_pos hk2))
    clear hk2
    have gX := (S.out.at bf 0).trans rfl
    have jB := (S.out.at bf 6).trans rfl
    have jE := (S.out.cell _ jM).1
    go_wp2_with (first
     | (refine fD 24 rfl ?_; at_builtin; refine vM (Kd.int .i64) 3 rfl 15 23 41 (.int .i64 0) 8 Try.underlying41 info3 rfl (by decide) (by decide) (by decide) S iW k.f1.f2 [.int .i64 k.f1.f2] (fun _ _ _ => rfl) (by have := DF.out; simp only [List.length_map]; omega) ?_; clear S iW; intro MR cp2 Pn gz S iW; clear gX jB jE)
     | fail)
    have e2 : ((pre.map (qP ck)) ++ [k.f1.f2]).length = (pre ++ [k]).length := by simp
    rw [e2, ← Nv.out] at iW
    rw [e2] at S
    have hw1 := HW1.out
    go_wp2
    go_roundg rest.length
    case measure => exact Nat.lt_of_lt_of_le (Nat.lt_succ_self _) kY.out
    case rel => exact ⟨pre ++ [k], rest, _, _, _, (by rw [List.length_append]; rfl), (by rw [hw1]), ⟨by rw [List.append_assoc]; exact HE.out⟩, Nat.le_refl _, iW, ⟨S.out.vO.vO.dC.aU.aU.aU.aU.aU.aU.aU⟩⟩
   case neg =>
    have hka : (ck == 2) = false := beq_eq_false_iff_ne.mpr hk2
    have hkb : decide (ck = 2) = false := decide_eq_false hk2
    have Nv := ae.mk (show (pre ++ [k]).map (qP ck) = pre.map (qP ck) ++ [k.f1.f3] by rw [List.map_append]; exact congrArg (pre.map (qP ck) ++ [·]) (if_neg hk2))
    clear hk2
    have gX := (S.out.at bf 0).trans rfl
    have jB := (S.out.at bf 6).trans rfl
    have jF := (S.out.cell _ qg).1
    go_wp2_with (first
     | (refine fD 34 rfl ?_; at_builtin; refine vM (Kd.int .i64) 3 rfl 25 33 41 (.int .i64 0) 8 Try.underlying41 info3 rfl (by decide) (by decide) (by decide) S iW k.f1.f3 [.int .i64 k.f1.f3] (fun _ _ _ => rfl) (by have := DF.out; simp only [List.length_map]; omega) ?_; clear S iW; intro MR cp2 Pn lI S iW; clear gX jB jF)
     | fail)
    have e2 : ((pre.map (qP ck)) ++ [k.f1.f3]).length = (pre ++ [k]).length := by simp
    rw [e2, ← Nv.out] at iW
    rw [e2] at S
    have hw1 := HW1.out
    go_wp2
    go_roundg rest.length
    case measure => exact Nat.lt_of_lt_of_le (Nat.lt_succ_self _) kY.out
    case rel => exact ⟨pre ++ [k], rest, _, _, _, (by rw [List.length_append]; rfl), (by rw [hw1]), ⟨by rw [List.append_assoc]; exact HE.out⟩, Nat.le_refl _, iW, ⟨S.out.vO.vO.dC.aU.aU.aU.aU.aU.aU.aU⟩⟩
def uS.T3 : Bool × List (List Nat × List Nat) := (true, [([], []), ([0], [0]), ([], []), ([2], [2]), ([3], [3]), ([], []), ([5], [5]), ([1, 4, 6, 6], [1, 4, 6]), ([7], [7]), ([8], [8]), ([8], [8]), ([8], [8]), ([9, 7, 0, 1, 2, 3, 4, 5, 6, 7, 8, 9], [9]), ([10, 12, 0, 1, 2, 3, 4, 5, 6, 7, 8, 9, 10, 12], [10]), ([11, 13, 0, 1, 2, 3, 4, 5, 6, 7, 8, 9, 10, 11, 12, 13], [11])])
def uS.B3 : List Nat := [0, 1, 0, 4, 12, 0, 32, 127, 255, 511, 511, 511, 1023, 6143, 16383]
theorem uS.Hr : iY .any (opsOf Try.f178 3) = uS.T3 := by kernel_rfl
theorem uS.Cj : jA uS.T3.2 uS.B3 = true := by kernel_rfl
def uT.T9 : Bool × List (List Nat × List Nat) := (true, [([], []), ([], []), ([0, 1], [0, 1]), ([2], [2]), ([], []), ([4], [4]), ([], []), ([5, 6], [5, 6]), ([7], [7]), ([8], [8]), ([3, 9], [3, 9])])
def uT.B9 : List Nat := [0, 0, 3, 7, 0, 16, 0, 112, 240, 496, 1023]
theorem uT.afq : iY .any (opsOf Try.f178 9) = uT.T9 := by kernel_rfl
theorem uT.YK : jA uT.T9.2 uT.B9 = true := by kernel_rfl
theorem V7 (c : ai) (hl : c.f3.length ≤ 1000000) (b : Nat) (P : Nat → Prop) (A : Option Addr) (cc : Nat) (w : World) (hv : Kd.V k26 26 w b P (.slice A c.f3.length cc) c.f3) :
  Calls Try.prog 178 #[.agg #[.int .u8 c.f0, .int .i64 c.f1.f0, .int .i64 c.f1.f1, .int .i64 c.f1.f2, .int .i64 c.f1.f3, .int .i64 c.f2, .slice A c.f3.length cc]] w (RX w c) := by
 have S := ae.mk (St.start (ts := [(.slice A c.f3.length cc, c.f3)]) (b0 := w.heap.size) (w := w) (P := P) (fun t ht => by rw [List.mem_singleton.1 ht]; exact dX hv))
 have kF := ae.mk hl
 have hsz := fun b P A cc w hv => Yo c hl b P A cc w hv
 obtain ⟨T, hT⟩ : ∃ T, T = yU c := ⟨_, rfl⟩
 have hlen : T.2.2 = true → T.1.length = c.f3.length := fun h => by rw [hT] at h ⊢; rw [(DY h).2.1, Ou]; simp [jH]
 have hl2 : T.2.1.length ≤ c.f3.length := by rw [hT]; exact (Ov c).2
 have hcut := fun B cb w hi => ae5 c.f1.f0 c.f1.f1 c.f1.f2 c.f1.f3 ((c.f0 - 1) % 256) (jH c) (by simpa [jH] using hl) B cb w hi
 rw [show qX c.f1.f0 c.f1.f1 c.f1.f2 c.f1.f3 ((c.f0 - 1) % 256) (jH c) = T by rw [hT, Zv]; rfl] at hcut
 have ho : nN c = C9 c T := by rw [hT]; rfl
 generalize jH c = SL at hsz hcut
 unfold RX
 generalize nN c = v at ho ⊢
 clear hT hl hv
 obtain ⟨ck, ⟨cx, cy, cw, ch⟩, aQ, l⟩ := c
 obtain ⟨t1, t2, t3⟩ := T
 simp only [C9] at S kF hsz hlen hl2 hcut ho ⊢
 have HZC := ae.mk hsz
 have HL2 := ae.mk hl2
 clear hsz hl2
 by_cases h1 : ck = 1
 case pos =>
  have hv : v = true := by rw [ho, h1]; rfl
  have ha : (ck == 1) = true := beq_iff_eq.mpr h1
  have hb : decide (ck = 1) = true := decide_eq_true h1
  have HL := ae.mk hv
  clear hv h1 ho hcut hlen
  go_enter Try.func178, Try.ntmps178
  go_wp2_with (first | (refine boxS 1 _ 26 S ?_; clear S; intro b1 eU S; have gX := (S.out.at (.head _) 0).trans rfl) | (refine fD 11 rfl ?_; refine oD k23 23 rfl 11 S ?_; clear S; intro alh alk alu fV S Np; clear gX))
  go_ret2
  rw [HL.out]
  exact ⟨_, _, _, rfl, fun _ => ⟨[], rfl, Nat.zero_le _, S.out.Tu Np.out (.head _)⟩, S.out.below⟩
 have ha : (ck == 1) = false := beq_eq_false_iff_ne.mpr h1
 have hd : decide (ck = 1) = false := decide_eq_false h1
 rw [ha, Bool.false_or] at ho
 clear h1
 cases t3 with
 | false =>
  rw [Bool.false_and] at ho
  have HL := ae.mk ho
  have H6 := ae.mk (fun B cb w hi => Ox (hcut B cb w hi))
  clear hcut ho hlen
  go_enter Try.func178, Try.ntmps178
  go_wp2_with ((refine boxS 1 _ 26 S ?_; clear S; intro b1 eU S; have gX := (S.out.at (.head _) 0).trans rfl))
  clear gX
  refine kX (n := 15) (S := fun w' => St w _ _ _ _ _ w') (ds := []) (bA 15 0) (by kernel_rfl) rfl rfl (S.out.call (bz (Below.refl _ _))) (fun hHeld => ?_); refine ik uS.Hr uS.Cj (fun az fZ => ?_)
  replace S := ae.mk (S.out.call (bz (Below.refl _ _)))
  generalize eU.drew = wd2 at S hHeld ⊢
  refine aJ 0 13 (bA 15 1) az ?_
  refine eQ 1 14 (bA 15 3) az fZ hHeld ?_ (hv := by intro w' hs_; have lN := (hs_.at (.head _) 1).trans rfl; have lQ := (hs_.at (.head _) 2).trans rfl; have lS := (hs_.at (.head _) 3).trans rfl; have lT := (hs_.at (.head _) 4).trans rfl; go_simp; with_reducible rfl)
  refine aJ 2 15 (bA 15 7) az ?_
  refine eQ 3 16 (bA 15 15) az fZ hHeld ?_ (hv := by intro w' hs_; have gX := (hs_.at (.head _) 0).trans rfl; go_simp; with_reducible rfl)
  refine aJ 4 17 (bA 15 31) az ?_
  refine eQ 5 18 (bA 15 63) az fZ hHeld ?_ (hv := by intro w' hs_; have gX := (hs_.at (.head _) 0).trans rfl; have lN := (hs_.at (.head _) 1).trans rfl; have lQ := (hs_.at (.head _) 2).trans rfl; have lS := (hs_.at (.head _) 3).trans rfl; have lT := (hs_.at (.head _) 4).trans rfl; have nT := (hs_.at (.head _) 5).trans rfl; have jB := (hs_.at (.head _) 6).trans rfl; go_simp; with_reducible rfl)
  refine kW 6 (some 19) (bA 15 127) az (fun K hK => ?_)
  refine zu Try.func194 (by kernel_rfl) rfl #[.agg #[.int .u8 ck, .int .i64 cx, .int .i64 cy, .int .i64 cw, .int .i64 ch, .int .i64 aQ, .slice A l.length cc]] (by rfl) rfl rfl (by (try simp only [List.map_toArray, List.map_cons, List.map_nil]); rfl) ?_
  refine (HZC.out _ _ _ _ _ (S.out.tree _ (.head _))).mono ?_
  rintro e gz ⟨As, cs, rfl, h1, hb⟩
  refine ⟨_, rfl, ?_⟩
  obtain ⟨os, S1, hI⟩ := S.out.TI (d := Kd.int .i64) (e := 3) rfl h1 hb
  replace S := ae.mk S1
  have HKs := ae.mk hI
  clear S1 hI h1 hb
  refine hK.out _ _ S.out.f_ (fun hHeld => ?_)
  clear hK K
  refine fJ 19 ?_
  refine kW 7 (some 20) (bA 15 255) az (fun K hK => ?_)
  refine zu Try.func46 (by kernel_rfl) rfl #[.agg #[.int .i64 cx, .int .i64 cy, .int .i64 cw, .int .i64 ch], .int .u8 ((ck - 1) % 256), .slice As SL.length cs] (by rfl) rfl rfl (by (try simp only [List.map_toArray, List.map_cons, List.map_nil]); rfl) ?_
  refine (H6.out _ _ _ (Kd.gy (Ny HKs.out S.out (.head _))).2.2).mono ?_
  rintro e lI ⟨Ap, np, cp, Aq, nq, cq, rfl, hb⟩
  refine ⟨_, rfl, ?_⟩
  replace S := ae.mk (S.out.call hb)
  clear hb
  refine hK.out _ _ S.out.f_ (fun hHeld => ?_)
  clear hK K
  refine fJ 20 ?_
  refine aJ 8 12 (bA 15 511) az ?_
  refine aJ 9 21 (bA 15 1023) az ?_
  refine aJ 10 22 (bA 15 2047) az ?_
  refine aJ 11 23 (bA 15 4095) az ?_
  refine aJ 12 4 (bA 15 8191) az ?_
  refine aJ 13 5 (bA 15 16383) az ?_
  refine aJ 14 6 (bA 15 32767) az ?_
  refine nz (jK az.out (by kernel_rfl)) ?_
  clear hHeld
  go_wp2
  go_ret2
  rw [HL.out]
  exact ⟨_, _, _, rfl, (fun h => by cases h), S.out.below⟩
 | true =>
  replace hlen := hlen rfl
  rw [Bool.true_and, show (l.length == t1.length) = true from beq_iff_eq.mpr hlen.symm, Bool.true_and] at ho
  have HL := ae.mk ho
  have AL := ae.mk hlen
  have H6 := ae.mk (fun B cb w hi => QB (hcut B cb w hi))
  clear hcut ho hlen
  go_enter Try.func178, Try.ntmps178
  go_wp2_with ((refine boxS 1 _ 26 S ?_; clear S; intro b1 eU S; have gX := (S.out.at (.head _) 0).trans rfl))
  clear gX
  refine kX (n := 15) (S := fun w' => St w _ _ _ _ _ w') (ds := []) (bA 15 0) (by kernel_rfl) rfl rfl (S.out.call (bz (Below.refl _ _))) (fun hHeld => ?_); refine ik uS.Hr uS.Cj (fun az fZ => ?_)
  replace S := ae.mk (S.out.call (bz (Below.refl _ _)))
  generalize eU.drew = wd2 at S hHeld ⊢
  refine aJ 0 13 (bA 15 1) az ?_
  refine eQ 1 14 (bA 15 3) az fZ hHeld ?_ (hv := by intro w' hs_; have lN := (hs_.at (.head _) 1).trans rfl; have lQ := (hs_.at (.head _) 2).trans rfl; have lS := (hs_.at (.head _) 3).trans rfl; have lT := (hs_.at (.head _) 4).trans rfl; go_simp; with_reducible rfl)
  refine aJ 2 15 (bA 15 7) az ?_
  refine eQ 3 16 (bA 15 15) az fZ hHeld ?_ (hv := by intro w' hs_; have gX := (hs_.at (.head _) 0).trans rfl; go_simp; with_reducible rfl)
  refine aJ 4 17 (bA 15 31) az ?_
  refine eQ 5 18 (bA 15 63) az fZ hHeld ?_ (hv := by intro w' hs_; have gX := (hs_.at (.head _) 0).trans rfl; have lN := (hs_.at (.head _) 1).trans rfl; have lQ := (hs_.at (.head _) 2).trans rfl; have lS := (hs_.at (.head _) 3).trans rfl; have lT := (hs_.at (.head _) 4).trans rfl; have nT := (hs_.at (.head _) 5).trans rfl; have jB := (hs_.at (.head _) 6).trans rfl; go_simp; with_reducible rfl)
  refine kW 6 (some 19) (bA 15 127) az (fun K hK => ?_)
  refine zu Try.func194 (by kernel_rfl) rfl #[.agg #[.int .u8 ck, .int .i64 cx, .int .i64 cy, .int .i64 cw, .int .i64 ch, .int .i64 aQ, .slice A l.length cc]] (by rfl) rfl rfl (by (try simp only [List.map_toArray, List.map_cons, List.map_nil]); rfl) ?_
  refine (HZC.out _ _ _ _ _ (S.out.tree _ (.head _))).mono ?_
  rintro e gz ⟨As, cs, rfl, h1, hb⟩
  refine ⟨_, rfl, ?_⟩
  obtain ⟨os, S1, hI⟩ := S.out.TI (d := Kd.int .i64) (e := 3) rfl h1 hb
  replace S := ae.mk S1
  have HKs := ae.mk hI
  clear S1 hI h1 hb
  refine hK.out _ _ S.out.f_ (fun hHeld => ?_)
  clear hK K
  refine fJ 19 ?_
  refine kW 7 (some 20) (bA 15 255) az (fun K hK => ?_)
  refine zu Try.func46 (by kernel_rfl) rfl #[.agg #[.int .i64 cx, .int .i64 cy, .int .i64 cw, .int .i64 ch], .int .u8 ((ck - 1) % 256), .slice As SL.length cs] (by rfl) rfl rfl (by (try simp only [List.map_toArray, List.map_cons, List.map_nil]); rfl) ?_
  refine (H6.out _ _ _ (Kd.gy (Ny HKs.out S.out (.head _))).2.2).mono ?_
  rintro e lI ⟨Ap, cp, Aq, cq, op, oq, rfl, h1, hb⟩
  refine ⟨_, rfl, ?_⟩
  obtain ⟨S1, hp, hq⟩ := S.out.two h1 hb
  replace S := ae.mk S1
  have iW := ae.mk hp
  have oG := ae.mk hq
  clear S1 hp hq h1 hb
  refine hK.out _ _ S.out.f_.f_.f_ (fun hHeld => ?_)
  clear hK K
  refine fJ 20 ?_
  refine aJ 8 12 (bA 15 511) az ?_
  refine aJ 9 21 (bA 15 1023) az ?_
  refine aJ 10 22 (bA 15 2047) az ?_
  refine aJ 11 23 (bA 15 4095) az ?_
  refine aJ 12 4 (bA 15 8191) az ?_
  refine aJ 13 5 (bA 15 16383) az ?_
  refine aJ 14 6 (bA 15 32767) az ?_
  refine nz (jK az.out (by kernel_rfl)) ?_
  clear hHeld
  go_wp2
  clear ha hd
  go_loopg [29] t1.length (fun gg v29 wr => ∃ (pre rest : List dK) (pb rb : List ai), v29 = .int .i64 (pre.length : Int) ∧ ae (pre ++ rest = t1) ∧ ae (pb ++ rb = l) ∧ ae (pb.length = pre.length) ∧ ae (sV (fun k r => nI k.f1 r) pb pre = true) ∧ rest.length ≤ gg ∧ ae (St w P [((Value.slice Ap t1.length cp).ownBlock, op), ((Value.slice Aq t2.length cq).ownBlock, oq), ((Value.slice As SL.length cs).ownBlock, os), (some b1, .cells #[.int .u8 ck, .int .i64 cx, .int .i64 cy, .int .i64 cw, .int .i64 ch, .int .i64 aQ, .slice A l.length cc] 26 (0, 0))] [] [(.slice A l.length cc, l)] [] wr))
  case atStart => exact ⟨[], t1, [], l, rfl, ⟨rfl⟩, ⟨rfl⟩, ⟨rfl⟩, ⟨Jt _ _⟩, Nat.le_refl _, S⟩
  case round =>
   clear S
   obtain ⟨pre, rest, pb, rb, rfl, HE, HE2, yg, Qm, hgg, S⟩ := hrel
   have hlr : rb.length = rest.length := by have h1 := congrArg List.length HE.out; have h2 := congrArg List.length HE2.out; rw [List.length_append] at h1 h2; have := yg.out; have := AL.out; omega
   cases rest with
   | nil =>
    have hrb := List.eq_nil_of_length_eq_zero hlr
    subst hrb
    have hE := HE.out
    rw [List.append_nil] at hE
    have QH := HE2.out
    rw [List.append_nil] at QH
    have HV := ae.mk (show v = true by rw [HL.out, ← hE, ← QH]; exact Qm.out)
    have hlt : ¬ ((pre.length : Int) < (t1.length : Int)) := by rw [hE]; omega
    have aeJ : ¬ (pre.length < t1.length) := by omega
    clear HE HE2 hgg hlr hE QH
    go_wp2
    go_ret2
    rw [HV.out]
    exact ⟨_, _, _, rfl, fun _ => ⟨t2, rfl, HL2.out, S.out.Tu oG.out bf⟩, S.out.below⟩
   | cons r rest =>
    cases rb with
    | nil => simp at hlr
    | cons k rb =>
     have hlt : (pre.length : Int) < (t1.length : Int) := by rw [← HE.out, List.length_append, List.length_cons]; omega
     have hlt2 : (pb.length : Int) < (l.length : Int) := by rw [← HE2.out, List.length_append, List.length_cons]; omega
     have hlt3 : pre.length < l.length := by have := yg.out; omega
     have aeJ : pre.length < t1.length := by omega
     have hlt4 : (pre.length : Int) < (l.length : Int) := by omega
     have hw1 : wrap64 ((pre.length : Int) + 1) = ((pre ++ [r]).length : Int) := by have := kF.out; have := AL.out; rw [List.length_append, List.length_singleton]; unfold wrap64; omega
     have HW1 := ae.mk hw1
     have kY := ae.mk hgg
     obtain ⟨lu, ua, uc, ek, S1⟩ := S.out.elem (.head _) (pb.length : Int) (Int.natCast_nonneg _) hlt2
     subst ek
     have hrd : aj l (pb.length : Int) = k := by rw [← HE2.out]; exact lD pb k rb
     rw [hrd] at S1
     simp only [Int.toNat_natCast] at S1
     rw [yg.out] at S1
     replace S := ae.mk S1
     obtain ⟨adp, ep, hel⟩ := acM iW.out (S.out.blk _ (.head _)) pre rest r HE.out
     subst ep
     have H7 := ae.mk hel
     clear S1 hrd hgg hw1 hlr hel hlt2
     cases hq : nI k.f1 r with
     | false =>
      have HQ := ae.mk hq
      have HV := ae.mk (show v = false by rw [HL.out, ← HE.out, ← HE2.out, QE yg.out, Qm.out]; simp [sV, hq])
      clear hq
      go_wp2
      refine kX (n := 11) (S := fun w' => St w _ _ _ _ _ w') (ds := []) (bA 11 0) (by kernel_rfl) rfl rfl (S.out.call (bz (Below.refl _ _))) (fun hHeld => ?_); refine ik uT.afq uT.YK (fun az fZ => ?_)
      replace S := ae.mk (S.out.call (bz (Below.refl _ _)))
      generalize wr.drew = Zh at S hHeld ⊢
      refine aJ 0 32 (bA 11 1) az ?_
      refine aJ 1 33 (bA 11 3) az ?_
      refine aJ 2 34 (bA 11 7) az ?_
      refine eQ 3 35 (bA 11 15) az fZ hHeld ?_ (hv := by intro w' hs_; have xp0 := (H7.out _ (hs_.blk _ (.head _))).1; have xp1 := (H7.out _ (hs_.blk _ (.head _))).2.1; have xp2 := (H7.out _ (hs_.blk _ (.head _))).2.2.1; have xp3 := (H7.out _ (hs_.blk _ (.head _))).2.2.2; go_simp; with_reducible rfl)
      refine aJ 4 36 (bA 11 31) az ?_
      refine eQ 5 37 (bA 11 63) az fZ hHeld ?_ (hv := by intro w' hs_; have jB := (hs_.at jM 6).trans rfl; go_simp; with_reducible rfl)
      refine aJ 6 38 (bA 11 127) az ?_
      refine aJ 7 39 (bA 11 255) az ?_
      refine aJ 8 40 (bA 11 511) az ?_
      refine eQ 9 41 (bA 11 1023) az fZ hHeld ?_ (hv := by intro w' hs_; have ku := (hs_.cell _ bf).1; have kz := (hs_.cell _ eF).1; have jE := (hs_.cell _ jM).1; have jF := (hs_.cell _ qg).1; go_simp; with_reducible rfl)
      refine eQ 10 42 (bA 11 2047) az fZ hHeld ?_ (hv := by intro w' hs_; go_simp; exact aeZ HQ.out _ _)
      refine nz (jK az.out (by kernel_rfl)) ?_
      clear hHeld
      go_wp2_with ((refine fD 43 rfl ?_; refine oD k23 23 rfl 43 S ?_; clear S; intro ali alm alv fV S Np))
      go_ret2
      rw [HV.out]
      exact ⟨_, _, _, rfl, (fun h => by cases h), S.out.below⟩
     | true =>
      have H8 := ae.mk (show sV (fun k r => nI k.f1 r) (pb ++ [k]) (pre ++ [r]) = true by rw [QE yg.out, Qm.out]; simp [sV, hq])
      obtain ⟨q0, q1, q2, q3⟩ := r
      unfold nI at hq
      simp only [Bool.and_eq_true, beq_iff_eq] at hq
      obtain ⟨e0, e1, e2, e3⟩ := hq
      subst e0 e1 e2 e3
      simp only [] at H7
      go_wp2
      refine kX (n := 11) (S := fun w' => St w _ _ _ _ _ w') (ds := []) (bA 11 0) (by kernel_rfl) rfl rfl (S.out.call (bz (Below.refl _ _))) (fun hHeld => ?_); refine ik uT.afq uT.YK (fun az fZ => ?_)
      replace S := ae.mk (S.out.call (bz (Below.refl _ _)))
      generalize wr.drew = Zh at S hHeld ⊢
      refine aJ 0 32 (bA 11 1) az ?_
      refine aJ 1 33 (bA 11 3) az ?_
      refine aJ 2 34 (bA 11 7) az ?_
      refine eQ 3 35 (bA 11 15) az fZ hHeld ?_ (hv := by intro w' hs_; have xp0 := (H7.out _ (hs_.blk _ (.head _))).1; have xp1 := (H7.out _ (hs_.blk _ (.head _))).2.1; have xp2 := (H7.out _ (hs_.blk _ (.head _))).2.2.1; have xp3 := (H7.out _ (hs_.blk _ (.head _))).2.2.2; go_simp; with_reducible rfl)
      refine aJ 4 36 (bA 11 31) az ?_
      refine eQ 5 37 (bA 11 63) az fZ hHeld ?_ (hv := by intro w' hs_; have jB := (hs_.at jM 6).trans rfl; go_simp; with_reducible rfl)
      refine aJ 6 38 (bA 11 127) az ?_
      refine aJ 7 39 (bA 11 255) az ?_
      refine aJ 8 40 (bA 11 511) az ?_
      refine eQ 9 41 (bA 11 1023) az fZ hHeld ?_ (hv := by intro w' hs_; have ku := (hs_.cell _ bf).1; have kz := (hs_.cell _ eF).1; have jE := (hs_.cell _ jM).1; have jF := (hs_.cell _ qg).1; go_simp; with_reducible rfl)
      refine aJ 10 42 (bA 11 2047) az ?_
      refine nz (jK az.out (by kernel_rfl)) ?_
      clear hHeld
      go_wp2
      have hw1 := HW1.out
      go_wp2
      go_roundg rest.length
      case measure => exact Nat.lt_of_lt_of_le (Nat.lt_succ_self _) kY.out
      case rel => exact ⟨pre ++ [_], rest, pb ++ [k], rb, (by rw [hw1]), ⟨by rw [List.append_assoc]; exact HE.out⟩, ⟨by rw [List.append_assoc]; exact HE2.out⟩, ⟨by rw [List.length_append, List.length_append, yg.out]; rfl⟩, H8, Nat.le_refl _, ⟨S.out.dC.aU.aU.aU.aU.aU.aU.aU⟩⟩
def mP (c : ai) : Bool := lq c.f1 && decide (1 ≤ c.f0 ∧ c.f0 ≤ 3) && decide (c.f0 = 1 → c.f3.length = 0 ∧ 0 ≤ c.f2 ∧ c.f2 ≤ 2147483647) && decide (c.f0 > 1 → 2 ≤ c.f3.length ∧ c.f2 = 0)
def dL : List ai → Bool
 | [] => true
 | x :: xs => (xs.all fun y => decide (y.f2 ≠ x.f2)) && dL xs
def o8 (pre : List ai) (x : ai) : Bool := pre.all fun y => decide (x.f2 ≠ y.f2)
theorem rG (pre : List ai) (x : ai) : dL (pre ++ [x]) = (dL pre && o8 pre x) := by
 induction pre with
 | nil => simp [dL, o8]
 | cons y ys ih =>
  have : (decide (x.f2 ≠ y.f2)) = decide (¬ x.f2 = y.f2) := rfl
  simp only [List.cons_append, dL, ih, o8, List.all_append, List.all_cons, List.all_nil, Bool.and_true]
  cases (ys.all fun z => decide (z.f2 ≠ y.f2)) <;> cases (decide (x.f2 ≠ y.f2)) <;> cases dL ys <;> cases (ys.all fun z => decide (x.f2 ≠ z.f2)) <;> rfl
theorem yV : ∀ (pre rest : List ai), dL pre = false → dL (pre ++ rest) = false := by
 intro pre rest h
 induction rest generalizing pre with
 | nil => rw [List.append_nil]; exact h
 | cons x xs ih =>
  have := ih (pre ++ [x]) (by rw [rG, h, Bool.false_and])
  rwa [List.append_assoc] at this
def lH (c : ai) : Bool := decide (sz c ≤ 20000) && ((fK c).all mP && dL (jy c))
end Go.Proofs.Ytfdmfgaiblfbhaa.P
