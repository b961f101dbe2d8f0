/- SpreadAll: part 3 of 6 of this claim's texts, one behind the other, made small by a program: the words of the kit's printer cut down to those that are used, the claim's own names made short. -/
import Derived.Test.YtfdmfgaiblfbhaaProg
import Derived.Below
import Derived.Deep.Draws
import Derived.Deep.AppendLies
import Derived.Maps.AppendAt
import Derived.OwnWalk
import Derived.Laws.BytesArg
import Derived.Laws.MakeOwn
import Derived.Laws.OwnMore
import Derived.Deep.OwnRows
import Derived.Tactics
import Derived.Lib.ConvBytes
import Derived.Laws.Slices
import Derived.WalkKit
import Derived.KernelRfl
import Derived.RowKit3
import Derived.Deep.LoopGhost
import Derived.Deep.QuietTactic
import Derived.BigQuiet
import Derived.WideLaws
import Derived.Deep.DeepCutAuto
import Derived.Deep.CutBlock
import Derived.Deep.RegionHeld3
import Derived.Laws.Rows
import Derived.Lib.AppendStr
import Derived.ArgAppend
import Derived.Laws.IdiomCopy
import Derived.OrdersHeld
import Derived.Laws.BitsLemmas
import Derived.RowKit
import Derived.Test.YtfdmfgaiblfbhaaMSpreadAlla
import Derived.Test.YtfdmfgaiblfbhaaMSpreadAllb
import Derived.Lib.Hide
set_option maxHeartbeats 8000000
set_option maxRecDepth 100000
set_option linter.unusedVariables false
set_option linter.unusedSimpArgs false
namespace Go.Proofs.Ytfdmfgaiblfbhaa.P
open Go.RowKit Go.Proofs.ag.aV Go.Proofs.ag.bM Go.Proofs.ag.di
attribute [local go_sem] kC kP lh lU jR jS kN kQ
def ajg : Option Int → Value
 | none => .nilIface
 | some c => .iface 0 (.int .i64 c)
theorem info3 : (Try.prog.info? 3).map (fun i => (i.zero, i.size, i.bytes)) = some (some (.int .i64 0), 1, 8) := by kernel_rfl
theorem info23 : (Try.prog.info? 23).map (fun i => (i.zero, i.size, i.bytes)) = some (some (.agg #[(.int .i64 0), (.int .i64 0), (.int .i64 0), (.int .i64 0)]), 4, 32) := by kernel_rfl
theorem info26 : (Try.prog.info? 26).map (fun i => (i.zero, i.size, i.bytes)) = some (some (.agg #[(.int .u8 0), (.int .i64 0), (.int .i64 0), (.int .i64 0), (.int .i64 0), (.int .i64 0), (.slice none 0 0)]), 7, 72) := by kernel_rfl
structure dE where
 f0 : Int
 f1 : Int
 f2 : Int
 f3 : Int
def z23 : dE := ⟨(0 : Int), (0 : Int), (0 : Int), (0 : Int)⟩
def k23 : Kd dE := Kd.MK (Kd.pair (Kd.int .i64) (Kd.pair (Kd.int .i64) (Kd.pair (Kd.int .i64) (Kd.int .i64)))) (fun x : dE => (x.f0, x.f1, x.f2, x.f3))
theorem Ug : Kd.Heap k23 := Kd.JI _ (Kd.sQ (Kd.uU .i64) (Kd.sQ (Kd.uU .i64) (Kd.sQ (Kd.uU .i64) (Kd.uU .i64))))
theorem DW {w : World} {x : dE} {cs : List Value} (h : k23.K w x cs) : cs = [.int .i64 x.f0, .int .i64 x.f1, .int .i64 x.f2, .int .i64 x.f3] := by
 obtain ⟨_, _, rfl, rfl, ⟨_, _, rfl, rfl, ⟨_, _, rfl, rfl, rfl⟩⟩⟩ := h
 exact rfl
theorem JV (w : World) (x : dE)  : k23.K w x [.int .i64 x.f0, .int .i64 x.f1, .int .i64 x.f2, .int .i64 x.f3] := ⟨[.int .i64 x.f0], [.int .i64 x.f1, .int .i64 x.f2, .int .i64 x.f3], rfl, rfl, ⟨[.int .i64 x.f1], [.int .i64 x.f2, .int .i64 x.f3], rfl, rfl, ⟨[.int .i64 x.f2], [.int .i64 x.f3], rfl, rfl, rfl⟩⟩⟩
theorem pX (w : World) (base : Nat) (ok : Nat → Prop) (x : dE)  : k23.M w base ok x [.int .i64 x.f0, .int .i64 x.f1, .int .i64 x.f2, .int .i64 x.f3] := ⟨[.int .i64 x.f0], [.int .i64 x.f1, .int .i64 x.f2, .int .i64 x.f3], rfl, rfl, ⟨[.int .i64 x.f1], [.int .i64 x.f2, .int .i64 x.f3], rfl, rfl, ⟨[.int .i64 x.f2], [.int .i64 x.f3], rfl, rfl, rfl⟩⟩⟩
def oO (xs : List dE) (i : Int) : dE := xs.getD i.toNat z23
theorem Jj {w : World} {A : Option Addr} {n : Nat} {xs : List dE} (h : Kd.C k23 w A n xs) (i : Int) (h0 : 0 ≤ i) (h1 : i < n) : ∃ ad , A = some ad ∧ w.cell? (ad.add (i.toNat * 4)) = some (.int .i64 (oO xs i).f0) ∧ w.cell? ⟨(ad.add (i.toNat * 4)).block, (ad.add (i.toNat * 4)).off + 1, none⟩ = some (.int .i64 (oO xs i).f1) ∧ w.cell? ⟨(ad.add (i.toNat * 4)).block, (ad.add (i.toNat * 4)).off + 2, none⟩ = some (.int .i64 (oO xs i).f2) ∧ w.cell? ⟨(ad.add (i.toNat * 4)).block, (ad.add (i.toNat * 4)).off + 3, none⟩ = some (.int .i64 (oO xs i).f3) := by
 obtain ⟨ad, c, e, _, hK, hc0⟩ := Kd.Ef h z23 i h0 h1
 have hc : ∀ j u, c[j]? = some u → w.cell? (ad.add (i.toNat * 4 + j)) = some u := hc0
 obtain rfl := DW hK
 exact ⟨ad, e, hc 0 _ rfl, by rw [← jP _ _ 1 (by omega)]; exact hc 1 _ rfl, by rw [← jP _ _ 2 (by omega)]; exact hc 2 _ rfl, by rw [← jP _ _ 3 (by omega)]; exact hc 3 _ rfl⟩
structure ai where
 f0 : Int
 f1 : dE
 f2 : Int
 f3 : (List ai)
def z26 : ai := ⟨(0 : Int), z23, (0 : Int), ([] : List ai)⟩
def Lc (d : Kd ai) : Kd ai := Kd.MK (Kd.pair (Kd.int .u8) (Kd.pair k23 (Kd.pair (Kd.int .i64) (Kd.slice 26 d)))) (fun x : ai => (x.f0, x.f1, x.f2, x.f3))
theorem JZ : Kd.tV Lc := Kd.Us _ (Kd.BI (Kd.zW _) (Kd.BI (Kd.zW _) (Kd.BI (Kd.zW _) (Kd.OE 26 Kd.Yz))))
theorem ad5 : Kd.Sub Lc [26] := Kd.YM _ (Kd.Eb (Kd.sub_const _ (by decide)) (Kd.Eb (Kd.sub_const _ (by decide)) (Kd.Eb (Kd.sub_const _ (by decide)) (Kd.RS 26 (by decide) Kd.acg))))
theorem OY : ∀ n, (Kd.upto Lc 7 [26] n).sz = 7 := Kd.YT (fun _ => rfl)
def k26 : Kd ai := Kd.fix Lc 7 [26] OY (Kd.Sj ad5)
theorem nZ : Kd.Heap k26 := Kd.Ud (fun _ h_ => Kd.JI _ (Kd.sQ (Kd.uU .u8) (Kd.sQ Ug (Kd.sQ (Kd.uU .i64) (Kd.Ol 26 h_)))))
theorem zU {w : World} {x : ai} {cs : List Value} (h : k26.K w x cs) : ∃ A6 c6, cs = [.int .u8 x.f0, .int .i64 x.f1.f0, .int .i64 x.f1.f1, .int .i64 x.f1.f2, .int .i64 x.f1.f3, .int .i64 x.f2, .slice A6 x.f3.length c6] ∧ x.f3.length ≤ c6 ∧ k26.C w A6 x.f3.length x.f3 := by
 obtain ⟨n, h⟩ := h
 cases n with
 | zero => exact h.elim
 | succ n =>
  obtain ⟨_, _, rfl, rfl, ⟨_, _, rfl, s1, ⟨_, _, rfl, rfl, ⟨A6, c6, rfl, l6, g6⟩⟩⟩⟩ := h
  obtain rfl := DW s1
  exact ⟨A6, c6, rfl, l6, Kd.adK g6⟩
theorem abL (w : World) (x : ai) {A6 : Option Addr} {c6 : Nat} (l6 : x.f3.length ≤ c6) (g6 : k26.C w A6 x.f3.length x.f3) : k26.K w x [.int .u8 x.f0, .int .i64 x.f1.f0, .int .i64 x.f1.f1, .int .i64 x.f1.f2, .int .i64 x.f1.f3, .int .i64 x.f2, .slice A6 x.f3.length c6] := by
 obtain ⟨n6, q6⟩ := Kd.Oa JZ g6
 have r6 := Kd.Si JZ OY (show n6 ≤ n6 by omega) q6
 exact ⟨n6 + 1, ⟨[.int .u8 x.f0], [.int .i64 x.f1.f0, .int .i64 x.f1.f1, .int .i64 x.f1.f2, .int .i64 x.f1.f3, .int .i64 x.f2, .slice A6 x.f3.length c6], rfl, rfl, ⟨[.int .i64 x.f1.f0, .int .i64 x.f1.f1, .int .i64 x.f1.f2, .int .i64 x.f1.f3], [.int .i64 x.f2, .slice A6 x.f3.length c6], rfl, (JV w x.f1 ), ⟨[.int .i64 x.f2], [.slice A6 x.f3.length c6], rfl, rfl, ⟨A6, c6, rfl, l6, r6⟩⟩⟩⟩⟩
theorem oV {W : World} {ok : Nat → Prop} {x : ai} {cs : List Value} (h : Kd.FK k26 W ok x cs) : ∃ A6 c6, cs = [.int .u8 x.f0, .int .i64 x.f1.f0, .int .i64 x.f1.f1, .int .i64 x.f1.f2, .int .i64 x.f1.f3, .int .i64 x.f2, .slice A6 x.f3.length c6] ∧ x.f3.length ≤ c6 ∧ Kd.F k26 W ok A6 x.f3.length x.f3 := by
 obtain ⟨A6, c6, rfl, l6, _⟩ := zU (Kd.rF h)
 exact ⟨A6, c6, rfl, l6, (fun W' hW => by obtain ⟨A6_, c6_, he, l6_, g6_⟩ := zU (h W' hW); injection (Option.some.inj (show some (Value.slice A6 x.f3.length c6) = some (Value.slice A6_ x.f3.length c6_) from congrArg (fun l => l[6]?) he)) with ha_ _ _; rw [ha_]; exact g6_)⟩
theorem pY (W : World) (ok : Nat → Prop) (x : ai) {A6 : Option Addr} {c6 : Nat} (l6 : x.f3.length ≤ c6) (g6 : Kd.F k26 W ok A6 x.f3.length x.f3) : Kd.FK k26 W ok x [.int .u8 x.f0, .int .i64 x.f1.f0, .int .i64 x.f1.f1, .int .i64 x.f1.f2, .int .i64 x.f1.f3, .int .i64 x.f2, .slice A6 x.f3.length c6] := fun W2 hW => abL W2 x l6 (g6 W2 hW)
def aI (xs : List ai) (i : Int) : ai := xs.getD i.toNat z26
theorem t_ {w : World} {A : Option Addr} {n : Nat} {xs : List ai} (h : Kd.C k26 w A n xs) (i : Int) (h0 : 0 ≤ i) (h1 : i < n) : ∃ ad A6 c6, A = some ad ∧ w.cell? (ad.add (i.toNat * 7)) = some (.int .u8 (aI xs i).f0) ∧ w.cell? ⟨(ad.add (i.toNat * 7)).block, (ad.add (i.toNat * 7)).off + 1, none⟩ = some (.int .i64 (aI xs i).f1.f0) ∧ w.cell? ⟨(ad.add (i.toNat * 7)).block, (ad.add (i.toNat * 7)).off + 2, none⟩ = some (.int .i64 (aI xs i).f1.f1) ∧ w.cell? ⟨(ad.add (i.toNat * 7)).block, (ad.add (i.toNat * 7)).off + 3, none⟩ = some (.int .i64 (aI xs i).f1.f2) ∧ w.cell? ⟨(ad.add (i.toNat * 7)).block, (ad.add (i.toNat * 7)).off + 4, none⟩ = some (.int .i64 (aI xs i).f1.f3) ∧ w.cell? ⟨(ad.add (i.toNat * 7)).block, (ad.add (i.toNat * 7)).off + 5, none⟩ = some (.int .i64 (aI xs i).f2) ∧ w.cell? ⟨(ad.add (i.toNat * 7)).block, (ad.add (i.toNat * 7)).off + 6, none⟩ = some (.slice A6 (aI xs i).f3.length c6) ∧ (aI xs i).f3.length ≤ c6 ∧ k26.C w A6 (aI xs i).f3.length (aI xs i).f3 := by
 obtain ⟨ad, c, e, _, hK, hc0⟩ := Kd.Ef h z26 i h0 h1
 have hc : ∀ j u, c[j]? = some u → w.cell? (ad.add (i.toNat * 7 + j)) = some u := hc0
 obtain ⟨A6, c6, rfl, l6, g6⟩ := zU hK
 exact ⟨ad, A6, c6, e, hc 0 _ rfl, by rw [← jP _ _ 1 (by omega)]; exact hc 1 _ rfl, by rw [← jP _ _ 2 (by omega)]; exact hc 2 _ rfl, by rw [← jP _ _ 3 (by omega)]; exact hc 3 _ rfl, by rw [← jP _ _ 4 (by omega)]; exact hc 4 _ rfl, by rw [← jP _ _ 5 (by omega)]; exact hc 5 _ rfl, by rw [← jP _ _ 6 (by omega)]; exact hc 6 _ rfl, l6, g6⟩
structure Ey where
 f0 : Int
 f1 : dE
def z35 : Ey := ⟨(0 : Int), z23⟩
def k35 : Kd Ey := Kd.MK (Kd.pair (Kd.int .i64) k23) (fun x : Ey => (x.f0, x.f1))
def ah6 (xs : List Ey) (i : Int) : Ey := xs.getD i.toNat z35
def aiI (xs : List (List Ey)) (i : Int) : (List Ey) := xs.getD i.toNat ([] : List Ey)
def aiJ (xs : List (List Int)) (i : Int) : (List Int) := xs.getD i.toNat ([] : List Int)
def aiK (xs : List (List dE)) (i : Int) : (List dE) := xs.getD i.toNat ([] : List dE)
def aiL (xs : List (List ai)) (i : Int) : (List ai) := xs.getD i.toNat ([] : List ai)
def ah5 (xs : List (List Int)) (i : Int) : (List Int) := xs.getD i.toNat ([] : List Int)
end Go.Proofs.Ytfdmfgaiblfbhaa.P
namespace Go.Proofs.Ytfdmfgaiblfbhaa.P
open Go.RowKit Go.Proofs.ag.aV Go.Proofs.ag.bM Go.Proofs.ag.di
section
variable {P : Program} {ops : Array Oper} {rest : List Oper} {o : Oper} {a : Act} {Q : Exit → Act → World → Prop}
theorem grown_below {w0 W w1 : World} {g base : Nat} (HB : Below base w0 W) (hg : W.grownBy w1 (some g)) (hbg : base ≤ g) (hs : base ≤ W.heap.size) : Below base w0 w1 := HB.trans ⟨hg.os, hg.tape, hg.output, hg.size, fun k hk => hg.block k (by omega) (fun he => by injection he with he; omega)⟩
theorem A8 {W : World} {g j : Nat} {cs cs' : Array Value} {t0 : TypeId} {bI : List Value} (hb : W.heap[g]? = some (.cells cs t0 (0, 0))) (hj : j + bI.length ≤ cs.size) (he : cs.toList.take j ++ bI ++ cs.toList.drop (j + bI.length) = cs'.toList) :
  (W.setCells g j bI).heap[g]? = some (.cells cs' t0 (0, 0)) ∧ W.grownBy (W.setCells g j bI) (some g) := by
 obtain ⟨cur', h3, h4, h5⟩ := uC bI j W cs hb hj
 obtain ⟨s1, s2, s3, s4⟩ := su g bI j W
 have hc : cur' = cs' := Array.toList_inj.1 (h5.trans he)
 subst hc
 exact ⟨h3, ⟨s1, s2, s3, by rw [s4]; exact Nat.le_refl _, fun k _ hk => uB bI _ k (fun e => hk (by rw [e]))⟩⟩
theorem jg {W w0 : World} (hN : o.dst = none) (hgd : o.guard = none) (t : TypeId) (p x : Operand) (ho : o.op = .store t p x) {g j base : Nat} {cs : Array Value} (cs' : Array Value) {t0 : TypeId} {u : Value} {bI : List Value}
  (kM : a.eval p = .pointer (some ⟨g, j, none⟩)) (hx : a.eval x = u) (hu : u.cells.toList = bI) (ht : (P.info? t).map (·.size) = some bI.length) (h1 : ∀ q ∈ bI, q.oneCell' = true)
  (hb : W.heap[g]? = some (.cells cs t0 (0, 0))) (hj : j + bI.length ≤ cs.size) (he : cs.toList.take j ++ bI ++ cs.toList.drop (j + bI.length) = cs'.toList) (HB : Below base w0 W) (hbs : base ≤ W.heap.size) (hbg : base ≤ g)
  (h : ∀ w1, w1.heap[g]? = some (.cells cs' t0 (0, 0)) → Below base w0 w1 → W.grownBy w1 (some g) → wpList P ops Q rest a w1) : wpList P ops Q (o :: rest) a W := by
 obtain ⟨h2, h3⟩ := A8 hb hj he
 refine wpList_plain hgd fun K hK => ?_
 have hrun := Az (P := P) t u bI hb hu ht hj h1
 unfold Oper.wp execOp
 simp only [ho, kM, hx, Sem.run_bind, Sem.run_pure, Result.andThen_ok, hrun]
 show K (a.put o.dst undef) _
 rw [hN]
 exact hK a _ (h _ h2 (grown_below HB h3 hbg hbs) h3)
theorem Af {W : World} (t : TypeId) (p x : Operand) (ho : o.op = .store t p x) {g j : Nat} {cs : Array Value} {t0 : TypeId} {u : Value} {bI : List Value}
  (kM : a.eval p = .pointer (some ⟨g, j, none⟩)) (hx : a.eval x = u) (hu : u.cells.toList = bI) (ht : (P.info? t).map (·.size) = some bI.length) (h1 : ∀ q ∈ bI, q.oneCell' = true)
  (hb : W.heap[g]? = some (.cells cs t0 (0, 0))) (hj : j + bI.length ≤ cs.size) : (execOp a.eval o).run P W = .ok .skip (W.setCells g j bI) := by
 have hrun := Az (P := P) t u bI hb hu ht hj h1
 unfold execOp
 simp only [ho, kM, hx, Sem.run_bind, Sem.run_pure, Result.andThen_ok, hrun]
end
theorem SS {α : Type} {d : Kd α} {e base b c : Nat} {P : Nat → Prop} {W w1 : World} {v : Value} {xs : List α} (h : Kd.N d e w1 W.heap.size (fun k => ((P k ∧ k ≠ b) ∧ k ≠ c) ∨ W.heap.size ≤ k) v xs) (hb : b < W.heap.size) (hc : c < W.heap.size) (hs : base ≤ W.heap.size) :
  Kd.N d e w1 base (fun k => ((P k ∨ base ≤ k) ∧ k ≠ b) ∧ k ≠ c) v xs :=
 Kd.uH (Kd.iT h (fun k hk => hk.elim (fun q => ⟨⟨.inl q.1.1, q.1.2⟩, q.2⟩) (fun q => ⟨⟨.inr (by omega), by omega⟩, by omega⟩))) hs
def keys (bs : List (Option Nat × Obj)) (ow : List (Value × List ai)) : List Nat := bs.filterMap (·.1) ++ ow.flatMap (fun r => r.1.ownBlock.toList)
def Ok (w : World) (P : Nat → Prop) (ks : List Nat) (k : Nat) : Prop := (P k ∨ w.heap.size ≤ k) ∧ k ∉ ks
structure St (w : World) (P : Nat → Prop) (bs : List (Option Nat × Obj)) (ow : List (Value × List ai)) (ts : List (Value × List ai)) (ro : List (Addr × Value)) (W : World) : Prop where
 below : Below w.heap.size w W
 blk : ∀ p, p ∈ bs → ∀ g, p.1 = some g → W.heap[g]? = some p.2
 new : ∀ k, k ∈ keys bs ow → w.heap.size ≤ k ∧ k < W.heap.size
 nd : (keys bs ow).Nodup
 tree : ∀ t, t ∈ ts → Kd.V k26 26 W 0 (Ok w P (keys bs ow)) t.1 t.2
 own : ∀ r, r ∈ ow → Kd.N k26 26 W w.heap.size (fun k => Ok w P (keys bs ow) k ∨ r.1.ownBlock = some k) r.1 r.2
 cell : ∀ c, c ∈ ro → W.cell? c.1 = some c.2 ∧ c.1.block ∉ keys bs ow
section
variable {w : World} {P : Nat → Prop} {bs : List (Option Nat × Obj)} {ow : List (Value × List ai)} {ts : List (Value × List ai)} {ro : List (Addr × Value)} {W W1 : World} {g b0 cap : Nat} {o o' : Obj} {v : Value} {l : List ai}
theorem fK {α : Type} {d : Kd α} {e base base' : Nat} {ok : Nat → Prop} {W : World} {v : Value} {xs : List α} (h : Kd.V d e W base ok v xs) : Kd.V d e W base' ok v xs := Kd.wS h (fun _ hf => hf)
theorem St.start (h : ∀ t, t ∈ ts → Kd.V k26 26 w b0 P t.1 t.2) : St w P [] [] ts [] w where
 below := Below.refl _ _
 blk := fun _ h => by cases h
 new := fun _ h => by cases h
 nd := List.nodup_nil
 tree := fun t ht => fK (Kd.gG (h t ht) (fun k hk => ⟨.inl hk, by simp [keys]⟩))
 own := fun _ h => by cases h
 cell := fun _ h => by cases h
theorem St.lt (S : St w P bs ow ts ro W) {k : Nat} (h : k ∈ keys bs ow) : k < W.heap.size := (S.new k h).2
theorem St.box (S : St w P bs ow ts ro W) (hg : g = W.heap.size) (hbox : W1.heap[g]? = some o) (hb : Below W.heap.size W W1) : St w P ((some g, o) :: bs) ow ts ro W1 where
 below := ak S.below hb
 blk := fun p hp q hq => by
  rcases List.mem_cons.1 hp with rfl | hp
  ·rw [← Option.some.inj hq]; exact hbox
  ·exact aY (S.blk p hp q hq) hb
 new := fun k hk => by
  rcases List.mem_cons.1 (show k ∈ g :: keys bs ow from hk) with rfl | hk
  ·exact ⟨by rw [hg]; exact S.below.size, iy hbox⟩
  ·exact ⟨(S.new k hk).1, Nat.lt_of_lt_of_le (S.new k hk).2 hb.size⟩
 nd := show (g :: keys bs ow).Nodup from List.nodup_cons.2 ⟨fun h => by have := (S.new g h).2; omega, S.nd⟩
 tree := fun t ht => Kd.gG (Kd.kE (Kd.qC (S.tree t ht) g (Nat.le_of_eq hg.symm)) hb) (fun k hk => ⟨hk.1.1, fun h => (List.mem_cons.1 (show k ∈ g :: keys bs ow from h)).elim hk.2 hk.1.2⟩)
 own := fun r hr => Kd.iT (Kd.qQ (Kd.DI (S.own r hr) g (Nat.le_of_eq hg.symm)) hb) (fun k hk => hk.1.elim (fun h1 => .inl ⟨h1.1, fun h => (List.mem_cons.1 (show k ∈ g :: keys bs ow from h)).elim hk.2 h1.2⟩) .inr)
 cell := fun c hc => ⟨(hb.cell (World.block_lt_of_cell? W _ (S.cell c hc).1)).trans (S.cell c hc).1, fun h => (List.mem_cons.1 (show c.1.block ∈ g :: keys bs ow from h)).elim (fun he => by have := World.block_lt_of_cell? W _ (S.cell c hc).1; omega) (S.cell c hc).2⟩
theorem St.call (S : St w P bs ow ts ro W) (hb : Below W.heap.size W W1) : St w P bs ow ts ro W1 where
 below := ak S.below hb
 blk := fun p hp q hq => aY (S.blk p hp q hq) hb
 new := fun k hk => ⟨(S.new k hk).1, Nat.lt_of_lt_of_le (S.new k hk).2 hb.size⟩
 nd := S.nd
 tree := fun t ht => Kd.kE (S.tree t ht) hb
 own := fun r hr => Kd.qQ (S.own r hr) hb
 cell := fun c hc => ⟨(hb.cell (World.block_lt_of_cell? W _ (S.cell c hc).1)).trans (S.cell c hc).1, (S.cell c hc).2⟩
theorem St.add (S : St w P bs ow ts ro W) (h : Kd.V k26 26 W b0 (Ok w P (keys bs ow)) v l) : St w P bs ow ((v, l) :: ts) ro W :=
 ⟨S.below, S.blk, S.new, S.nd, fun t ht => by
  rcases List.mem_cons.1 ht with rfl | ht
  ·exact fK h
  ·exact S.tree t ht, S.own, S.cell⟩
theorem St.res (S : St w P bs ow ts ro W) (h : Kd.V k26 26 W1 b0 (fun k => Ok w P (keys bs ow) k ∨ W.heap.size ≤ k) v l) (hb : Below W.heap.size W W1) : St w P bs ow ((v, l) :: ts) ro W1 :=
 (S.call hb).add (Kd.gG h (fun k hk => hk.elim id (fun h1 => ⟨.inr (Nat.le_trans S.below.size h1), fun h2 => by have := S.lt h2; omega⟩)))
theorem iC {k : Nat} : k ∈ keys bs [(v, l)] ↔ k ∈ keys bs [] ∨ v.ownBlock = some k := by
 simp only [keys, List.flatMap_cons, List.flatMap_nil, List.append_nil, List.mem_append, Option.mem_toList]
theorem St.Gq (S : St w P bs [] ts ro W) (h : Kd.N k26 26 W1 W.heap.size (fun k => Ok w P (keys bs []) k ∨ W.heap.size ≤ k) v l) (hb : Below W.heap.size W W1) : St w P bs [(v, l)] ts ro W1 := by
 have hgb : ∀ g, v.ownBlock = some g → W.heap.size ≤ g := Kd.rH h
 have hgl : ∀ g, v.ownBlock = some g → g < W1.heap.size := Kd.DJ h
 have hlt : ∀ k, k < W.heap.size → v.ownBlock ≠ some k := fun k hk e => by have := hgb k e; omega
 refine ⟨ak S.below hb, fun p hp q hq => aY (S.blk p hp q hq) hb, fun k hk => ?_, ?_, fun t ht => ?_, fun r hr => ?_, fun c hc => ?_⟩
 ·rcases iC.1 hk with h1 | h1
  ·exact ⟨(S.new k h1).1, Nat.lt_of_lt_of_le (S.new k h1).2 hb.size⟩
  ·exact ⟨Nat.le_trans S.below.size (hgb k h1), hgl k h1⟩
 ·have h1 := S.nd
  simp only [keys, List.flatMap_nil, List.append_nil] at h1
  simp only [keys, List.flatMap_cons, List.flatMap_nil, List.append_nil]
  refine List.nodup_append.2 ⟨h1, by cases v.ownBlock <;> simp, fun a ha b hb2 => ?_⟩
  rintro rfl
  exact hlt a (S.lt (by simpa [keys] using ha)) (by simpa using hb2)
 ·exact Kd.gG (Kd.kE (Kd.CE (S.tree t ht)) hb) (fun k hk => ⟨hk.1.1, fun h2 => (iC.1 h2).elim hk.1.2 (hlt k hk.2)⟩)
 ·rw [List.mem_singleton] at hr
  subst hr
  refine Kd.uH (Kd.iT h (fun k hk => ?_)) S.below.size
  by_cases hkg : v.ownBlock = some k
  ·exact .inr hkg
  ·refine .inl ?_
   rcases hk with h1 | h1
   ·exact ⟨h1.1, fun h2 => (iC.1 h2).elim h1.2 hkg⟩
   ·exact ⟨.inr (Nat.le_trans S.below.size h1), fun h2 => (iC.1 h2).elim (fun h3 => by have := S.lt h3; omega) hkg⟩
 ·exact ⟨(hb.cell (World.block_lt_of_cell? W _ (S.cell c hc).1)).trans (S.cell c hc).1, fun h2 => (iC.1 h2).elim (S.cell c hc).2 (hlt _ (World.block_lt_of_cell? W _ (S.cell c hc).1))⟩
theorem Jq {W W1 : World} {g : Nat} (hg : W.grownBy W1 (some g)) {a : Addr} {u : Value} (h : W.cell? a = some u) (hn : a.block ≠ g) : W1.cell? a = some u := cell_grown hg h (fun e => hn (Option.some.inj e))
theorem Uh {i : Nat} : ∀ {bs : List (Option Nat × Obj)} (ow : List (Value × List ai)) (_ : bs[i]? = some (some g, o)), keys (bs.set i (some g, o')) ow = keys bs ow := by
 induction i with
 | zero => intro bs ow h; cases bs with
  | nil => simp at h
  | cons b bs => simp at h; subst h; rfl
 | succ i ih => intro bs ow h; cases bs with
  | nil => simp at h
  | cons b bs =>
   have := ih (bs := bs) ow (by simpa using h)
   unfold keys at this ⊢
   have h2 := List.append_cancel_right this
   rw [List.set_cons_succ, List.filterMap_cons, List.filterMap_cons, h2]
theorem mem_keys {bs : List (Option Nat × Obj)} {ow : List (Value × List ai)} {p : Option Nat × Obj} {g : Nat} (hp : p ∈ bs) (hg : p.1 = some g) : g ∈ keys bs ow := List.mem_append.2 (.inl (List.mem_filterMap.2 ⟨p, hp, hg⟩))
theorem adV {p q : Option Nat × Obj} {g : Nat} : ∀ {bs : List (Option Nat × Obj)} {i j : Nat}, (bs.filterMap (·.1)).Nodup → bs[i]? = some p → bs[j]? = some q → i ≠ j → p.1 = some g → q.1 = some g → False := by
 intro bs
 induction bs with
 | nil => intro i j _ hi; simp at hi
 | cons b bs ih =>
  intro i j hn hi hj hij hp hq
  have hn' : (bs.filterMap (·.1)).Nodup := by
   rw [List.filterMap_cons] at hn
   split at hn
   ·exact hn
   ·exact (List.nodup_cons.1 hn).2
  cases i with
  | zero =>
   cases j with
   | zero => exact hij rfl
   | succ j =>
    simp at hi hj
    subst hi
    rw [List.filterMap_cons, hp] at hn
    exact (List.nodup_cons.1 hn).1 (List.mem_filterMap.2 ⟨q, List.mem_of_getElem? hj, hq⟩)
  | succ i =>
   cases j with
   | zero =>
    simp at hi hj
    subst hj
    rw [List.filterMap_cons, hq] at hn
    exact (List.nodup_cons.1 hn).1 (List.mem_filterMap.2 ⟨p, List.mem_of_getElem? hi, hp⟩)
   | succ j => exact ih hn' (by simpa using hi) (by simpa using hj) (by omega) hp hq
theorem St.put (S : St w P bs ow ts ro W) (i : Nat) (hi : bs[i]? = some (some g, o)) (hbk : W1.heap[g]? = some o') (hb : Below w.heap.size w W1) (hg : W.grownBy W1 (some g)) : St w P (bs.set i (some g, o')) ow ts ro W1 := by
 have hk := Uh (o' := o') ow hi
 have hm : g ∈ keys bs ow := mem_keys (List.mem_of_getElem? hi) rfl
 refine ⟨hb, fun p hp q hq => ?_, by rw [hk]; exact fun k h => ⟨(S.new k h).1, Nat.lt_of_lt_of_le (S.new k h).2 hg.size⟩, by rw [hk]; exact S.nd, fun t ht => ?_, fun r hr => ?_, fun c hc => ?_⟩
 ·obtain ⟨j, hj⟩ := List.mem_iff_getElem?.1 hp
  rw [List.getElem?_set] at hj
  by_cases hij : i = j
  ·subst hij
   rw [if_pos rfl] at hj
   split at hj
   ·injection hj with e; subst e; rw [← Option.some.inj hq]; exact hbk
   ·cases hj
  ·rw [if_neg hij] at hj
   exact dM (S.blk p (List.mem_of_getElem? hj) q hq) hg (fun e => adV (List.nodup_append.1 S.nd).1 hi hj hij rfl (by rw [hq]; exact e))
 ·rw [hk]; exact Kd.uM (S.tree t ht) hg (fun k h e => h.2 (by rw [Option.some.inj e]; exact hm))
 ·rw [hk]
  have hrg : r.1.ownBlock ≠ some g := fun e => (List.nodup_append.1 S.nd).2.2 g (List.mem_filterMap.2 ⟨_, List.mem_of_getElem? hi, rfl⟩) g (List.mem_flatMap.2 ⟨r, hr, by simp [e]⟩) rfl
  exact Kd.zf (S.own r hr) hg (fun k h e => h.elim (fun h1 => h1.2 (by rw [Option.some.inj e]; exact hm)) (fun h1 => hrg (by rw [h1]; exact e)))
 ·rw [hk]; exact ⟨Jq hg (S.cell c hc).1 (fun e => (S.cell c hc).2 (by rw [e]; exact hm)), (S.cell c hc).2⟩
def l7 (x : ai) (A : Option Addr) (c : Nat) : List Value := [.int .u8 x.f0, .int .i64 x.f1.f0, .int .i64 x.f1.f1, .int .i64 x.f1.f2, .int .i64 x.f1.f3, .int .i64 x.f2, .slice A x.f3.length c]
theorem St.bI {n : Nat} (S : St w P bs [(.slice (some ⟨g, 0, none⟩) n cap, l)] ts ro W) (i : Int) (h0 : 0 ≤ i) (h1 : i < l.length) (x : ai) {A : Option Addr} {c : Nat} (hm : (.slice A x.f3.length c, x.f3) ∈ ts) (hW : W1 = W.setCells g (i.toNat * 7 + 0) (l7 x A c)) :
  St w P bs [(.slice (some ⟨g, 0, none⟩) n cap, l.set i.toNat x)] ts ro W1 ∧ W.grownBy W1 (some g) := by
 have hN := S.own _ (List.mem_singleton.2 rfl)
 have hob : (Value.slice (some ⟨g, 0, none⟩) n cap).ownBlock = some g := by simp [Value.ownBlock]
 have hmem : g ∈ keys bs [(.slice (some ⟨g, 0, none⟩) n cap, l)] := iC.2 (.inr hob)
 have hn : n = l.length := (Kd.jk hN).1
 obtain ⟨c0, hcl, hM, hcc, hfr⟩ := Kd.y9 hN z26 i h0 (by rw [hn]; exact h1)
 obtain ⟨hl1, hl2, hF⟩ := Kd.AX (S.tree _ hm)
 have Qh := pY W _ x hl2 hF
 have hseg := Kd.Vw hN i h0 (by rw [hn]; exact h1) (bI := l7 x A c) (j := 0) hcl hcc (show 0 + 7 ≤ 7 from by decide) (x' := x) (fH := Ok w P (keys bs [(.slice (some ⟨g, 0, none⟩) n cap, l)])) (by
  have e : c0.take 0 ++ l7 x A c ++ c0.drop (0 + (l7 x A c).length) = l7 x A c := by
   rw [show (0 + (l7 x A c).length) = c0.length by rw [hcl]; rfl, List.drop_length, List.take_zero, List.nil_append, List.append_nil]
  rw [e]; exact Qh) (fun k hk => ⟨.inl hk, fun e => hk.2 (by rw [e]; exact hmem)⟩)
 have zT : Kd.N k26 26 W1 w.heap.size (fun k => Ok w P (keys bs [(.slice (some ⟨g, 0, none⟩) n cap, l)]) k ∨ (Value.slice (some ⟨g, 0, none⟩) n cap).ownBlock = some k) (.slice (some ⟨g, 0, none⟩) n cap) (l.set i.toNat x) ∧ W.grownBy W1 (some g) := by rw [hW]; exact hseg
 have hne : ∀ p, p ∈ bs → p.1 ≠ some g := fun p hp e => (List.nodup_append.1 S.nd).2.2 g (List.mem_filterMap.2 ⟨p, hp, e⟩) g (by simp [hob]) rfl
 refine ⟨⟨grown_below S.below zT.2 (S.new g hmem).1 S.below.size, fun p hp q hq => dM (S.blk p hp q hq) zT.2 (fun e => hne p hp (by rw [hq]; exact e)), fun k h => ⟨(S.new k h).1, Nat.lt_of_lt_of_le (S.new k h).2 zT.2.size⟩, S.nd, fun t ht => ?_, fun r hr => ?_, fun c hc => ?_⟩, zT.2⟩
 ·exact Kd.uM (S.tree t ht) zT.2 (fun k h e => h.2 (by rw [Option.some.inj e]; exact hmem))
 ·rw [List.mem_singleton] at hr
  subst hr
  exact zT.1
 ·exact ⟨Jq zT.2 (S.cell c hc).1 (fun e => (S.cell c hc).2 (by rw [e]; exact hmem)), (S.cell c hc).2⟩
theorem St.free (S : St w P bs [(v, l)] ts ro W) : St w P bs [] ((v, l) :: ts) ro W := by
 have hk : ∀ k, k ∈ keys bs [] → k ∈ keys bs [(v, l)] := fun k h => iC.2 (.inl h)
 have hne : ∀ k, k ∈ keys bs [] → v.ownBlock ≠ some k := fun k h e => (List.nodup_append.1 S.nd).2.2 k (by simpa [keys] using h) k (by simp [e]) rfl
 refine ⟨S.below, S.blk, fun k h => S.new k (hk k h), ?_, fun t ht => ?_, fun _ h => (by cases h), fun c hc => ⟨(S.cell c hc).1, fun h => (S.cell c hc).2 (hk _ h)⟩⟩
 ·simp only [keys, List.flatMap_nil, List.append_nil]; exact (List.nodup_append.1 S.nd).1
 ·rcases List.mem_cons.1 ht with rfl | ht
  ·exact Kd.gG (Kd.rG (S.own _ (List.mem_singleton.2 rfl))) (fun k h => h.elim (fun h1 => ⟨h1.1, fun h2 => h1.2 (hk k h2)⟩) (fun h1 => ⟨.inr (S.new k (iC.2 (.inr h1))).1, fun h2 => hne k h2 h1⟩))
  ·exact Kd.gG (S.tree t ht) (fun k h => ⟨h.1, fun h2 => h.2 (hk k h2)⟩)
theorem St.uY (S : St w P bs [(v, l)] ts ro W) : Kd.N k26 26 W w.heap.size (fun k => P k ∨ w.heap.size ≤ k) v l :=
 Kd.iT (S.own _ (List.mem_singleton.2 rfl)) (fun k h => h.elim (fun h1 => h1.1) (fun h1 => .inr (S.new k (iC.2 (.inr h1))).1))
theorem St.J5 (S : St w P bs ow ts ro W) (hm : (v, l) ∈ ts) : Kd.V k26 26 W b0 (fun k => P k ∨ w.heap.size ≤ k) v l := fK (Kd.gG (S.tree _ hm) (fun _ h => h.1))
theorem St.at (S : St w P bs ow ts ro W) {cs : Array Value} {t : TypeId} (hm : (some g, .cells cs t (0, 0)) ∈ bs) (j : Nat) : W.cell? ⟨g, j, none⟩ = cs[j]? := af (S.blk _ hm g rfl) j
theorem St.elem (S : St w P bs ow ts ro W) {A : Option Addr} {n c : Nat} (hm : (.slice A n c, l) ∈ ts) (i : Int) (h0 : 0 ≤ i) (h1 : i < l.length) :
  ∃ ad ua uc, A = some ad ∧ St w P bs ow ((.slice ua (aI l i).f3.length uc, (aI l i).f3) :: ts) ((ad.add (i.toNat * 7), .int .u8 (aI l i).f0) :: (⟨(ad.add (i.toNat * 7)).block, (ad.add (i.toNat * 7)).off + 1, none⟩, .int .i64 (aI l i).f1.f0) :: (⟨(ad.add (i.toNat * 7)).block, (ad.add (i.toNat * 7)).off + 2, none⟩, .int .i64 (aI l i).f1.f1) :: (⟨(ad.add (i.toNat * 7)).block, (ad.add (i.toNat * 7)).off + 3, none⟩, .int .i64 (aI l i).f1.f2) :: (⟨(ad.add (i.toNat * 7)).block, (ad.add (i.toNat * 7)).off + 4, none⟩, .int .i64 (aI l i).f1.f3) :: (⟨(ad.add (i.toNat * 7)).block, (ad.add (i.toNat * 7)).off + 5, none⟩, .int .i64 (aI l i).f2) :: (⟨(ad.add (i.toNat * 7)).block, (ad.add (i.toNat * 7)).off + 6, none⟩, .slice ua (aI l i).f3.length uc) :: ro) W := by
 have hV := S.tree _ hm
 obtain ⟨hn, hl, hF⟩ := Kd.AX hV
 obtain ⟨ad, ua, uc, ek, y0, y1, y2, y3, y4, y5, y6, hlu, hgu⟩ := t_ (Kd.Eg hF) i h0 h1
 subst ek
 obtain ⟨ad2, ce, e2, hcl, hFK, hcc, hok⟩ := Kd.Nv hF z26 i h0 h1
 injection e2 with e2
 subst e2
 obtain ⟨ub, ud, rfl, lub, fub⟩ := oV hFK
 have e6 := hcc 6 _ rfl
 rw [show k26.sz = 7 from rfl, jP _ _ 6 (by omega)] at e6
 have e7 := Option.some.inj (e6.symm.trans y6)
 injection e7 with ea en ec
 subst ea
 subst ec
 have hO := (hok (by decide)).2
 have JB : (ad.add (i.toNat * 7)).block ∉ keys bs ow := by rw [add_block]; exact hO
 refine ⟨ad, ub, ud, rfl, (S.add (Kd.uN (base := 0) lub fub)).below, S.blk, S.new, S.nd, (S.add (Kd.uN (base := 0) lub fub)).tree, S.own, ?_⟩
 intro c hc
 rcases List.mem_cons.1 hc with rfl | hc
 ·exact ⟨y0, JB⟩
 rcases List.mem_cons.1 hc with rfl | hc
 ·exact ⟨y1, JB⟩
 rcases List.mem_cons.1 hc with rfl | hc
 ·exact ⟨y2, JB⟩
 rcases List.mem_cons.1 hc with rfl | hc
 ·exact ⟨y3, JB⟩
 rcases List.mem_cons.1 hc with rfl | hc
 ·exact ⟨y4, JB⟩
 rcases List.mem_cons.1 hc with rfl | hc
 ·exact ⟨y5, JB⟩
 rcases List.mem_cons.1 hc with rfl | hc
 ·exact ⟨y6, JB⟩
 exact S.cell c hc
end
section
variable {Pr : Program} {ops : Array Oper} {rest : List Oper} {op : Oper} {a : Act} {Q : Exit → Act → World → Prop} {w W : World} {P : Nat → Prop} {bs : List (Option Nat × Obj)} {ow : List (Value × List ai)} {ts : List (Value × List ai)} {ro : List (Addr × Value)}
theorem Z8 {N : Tmp} (hd : op.dst = some N) (hgd : op.guard = none) (cs : Array Value) (t : TypeId) (S : St w P bs ow ts ro W)
  (hr : (execOp a.eval op).run Pr W = .ok (.value (.pointer (some ⟨W.heap.size, 0, none⟩))) (W.alloc (.cells cs t (0, 0))))
  (h : ∀ g w1, St w P ((some g, .cells cs t (0, 0)) :: bs) ow ts ro w1 → wpList Pr ops Q rest (a.put op.dst (.pointer (some ⟨g, 0, none⟩))) w1) : wpList Pr ops Q (op :: rest) a W :=
 aW hgd hd hr (fun g hg w1 hbox hb => h g w1 (S.box hg hbox hb))
theorem abZ (i : Nat) {g : Nat} {cs : Array Value} {t0 : TypeId} (hi : bs[i]? = some (some g, .cells cs t0 (0, 0))) (t : TypeId) (p x : Operand) (ho : op.op = .store t p x) {j : Nat} (cs' : Array Value) {u : Value} {bI : List Value} (S : St w P bs ow ts ro W)
  (kM : a.eval p = .pointer (some ⟨g, j, none⟩)) (hx : a.eval x = u) (hu : u.cells.toList = bI) (ht : (Pr.info? t).map (·.size) = some bI.length) (h1 : ∀ q ∈ bI, q.oneCell' = true) (hj : j + bI.length ≤ cs.size)
  (he : cs.toList.take j ++ bI ++ cs.toList.drop (j + bI.length) = cs'.toList) (hN : op.dst = none) (hgd : op.guard = none)
  (h : ∀ w1, St w P (bs.set i (some g, .cells cs' t0 (0, 0))) ow ts ro w1 → wpList Pr ops Q rest a w1) : wpList Pr ops Q (op :: rest) a W := by
 have hm : g ∈ keys bs ow := mem_keys (List.mem_of_getElem? hi) rfl
 exact jg hN hgd t p x ho cs' kM hx hu ht h1 (S.blk _ (List.mem_of_getElem? hi) g rfl) hj he S.below S.below.size (S.new g hm).1 (fun w1 h2 h3 h4 => h w1 (S.put i hi h2 h3 h4))
theorem YC (i : Nat) {g : Nat} {cs : Array Value} {t0 : TypeId} (hi : bs[i]? = some (some g, .cells cs t0 (0, 0))) (t : TypeId) (p x : Operand) (ho : op.op = .store t p x) {j : Nat} (cs' : Array Value) {u : Value} {bI : List Value} (S : St w P bs ow ts ro W)
  (kM : a.eval p = .pointer (some ⟨g, j, none⟩)) (hx : a.eval x = u) (hu : u.cells.toList = bI) (ht : (Pr.info? t).map (·.size) = some bI.length) (h1 : ∀ q ∈ bI, q.oneCell' = true) (hj : j + bI.length ≤ cs.size)
  (he : cs.toList.take j ++ bI ++ cs.toList.drop (j + bI.length) = cs'.toList) :
  (execOp a.eval op).run Pr W = .ok .skip (W.setCells g j bI) ∧ St w P (bs.set i (some g, .cells cs' t0 (0, 0))) ow ts ro (W.setCells g j bI) := by
 have hm : g ∈ keys bs ow := mem_keys (List.mem_of_getElem? hi) rfl
 have hb := S.blk _ (List.mem_of_getElem? hi) g rfl
 have hc := A8 hb hj he
 exact ⟨Af t p x ho kM hx hu ht h1 hb hj, S.put i hi hc.1 (grown_below S.below hc.2 (S.new g hm).1 S.below.size) hc.2⟩
theorem MZ {g n cap : Nat} {l : List ai} (i : Int) (x : ai) {A : Option Addr} {c : Nat} (p y : Operand) (ho : op.op = .store 26 p y) (S : St w P bs [(.slice (some ⟨g, 0, none⟩) n cap, l)] ts ro W) (h0 : 0 ≤ i) (h1 : i < l.length)
  (kM : a.eval p = .pointer (some ⟨g, i.toNat * 7, none⟩)) (hx : a.eval y = .agg (l7 x A c).toArray) (hsz : (Pr.info? 26).map (·.size) = some 7) (hm : (.slice A x.f3.length c, x.f3) ∈ ts) :
  ∃ w1, (execOp a.eval op).run Pr W = .ok .skip w1 ∧ St w P bs [(.slice (some ⟨g, 0, none⟩) n cap, l.set i.toNat x)] ts ro w1 := by
 obtain ⟨h2, h3⟩ := S.bI i h0 h1 x hm rfl
 obtain ⟨cells, hcells⟩ := Kd.Wp (S.own _ (List.mem_singleton.2 rfl)) g (by simp [Value.ownBlock])
 have hN := S.own _ (List.mem_singleton.2 rfl)
 obtain ⟨c0, hcl, hM, hcc, hfr⟩ := Kd.y9 hN z26 i h0 (by rw [(Kd.jk hN).1]; exact h1)
 have hcl : c0.length = 7 := hcl
 have hlt : i.toNat * 7 + 7 ≤ cells.size := by
  have h4 := hcc 6 _ (List.getElem?_eq_getElem (by omega))
  have h5 := af hcells (i.toNat * 7 + 6)
  have h6 : W.cell? ⟨g, i.toNat * k26.sz + 6, none⟩ = W.cell? ⟨g, i.toNat * 7 + 6, none⟩ := rfl
  rw [h6, h5] at h4
  by_cases h7 : i.toNat * 7 + 6 < cells.size
  ·omega
  ·rw [Array.getElem?_eq_none (by omega)] at h4; cases h4
 refine ⟨_, ?_, h2⟩
 rw [show i.toNat * 7 + 0 = i.toNat * 7 from rfl]
 exact Af 26 p y ho kM hx (by rfl) hsz (by simp [l7, Value.oneCell']) hcells (by simpa [l7] using hlt)
theorem xk {K : Act → World → Prop} (i : Nat) {g : Nat} {cs : Array Value} {t0 : TypeId} (hi : bs[i]? = some (some g, .cells cs t0 (0, 0))) (t : TypeId) (p x : Operand) (ho : op.op = .store t p x) {j : Nat} (cs' : Array Value) {u : Value} {bI : List Value} (S : St w P bs ow ts ro W)
  (hw : Region.wanted op (yielded ops a.tmps) = true) (hN : op.dst = none)
  (kM : a.eval p = .pointer (some ⟨g, j, none⟩)) (hx : a.eval x = u) (hu : u.cells.toList = bI) (ht : (Pr.info? t).map (·.size) = some bI.length) (h1 : ∀ q ∈ bI, q.oneCell' = true) (hj : j + bI.length ≤ cs.size)
  (he : cs.toList.take j ++ bI ++ cs.toList.drop (j + bI.length) = cs'.toList) (h : ∀ w1, St w P (bs.set i (some g, .cells cs' t0 (0, 0))) ow ts ro w1 → K a w1) :
  if Region.wanted op (yielded ops a.tmps) = true then Oper.wp Pr op a W K Q else K (a.put none undef) W := by
 obtain ⟨h2, h3⟩ := YC (a := a) (Pr := Pr) i hi t p x ho cs' S kM hx hu ht h1 hj he
 exact Iz hw hN h2 (h _ h3)
theorem MX {K : Act → World → Prop} {g n cap : Nat} {l : List ai} (i : Int) (x : ai) {A : Option Addr} {c : Nat} (p y : Operand) (ho : op.op = .store 26 p y) (S : St w P bs [(.slice (some ⟨g, 0, none⟩) n cap, l)] ts ro W)
  (hw : Region.wanted op (yielded ops a.tmps) = true) (hN : op.dst = none) (h0 : 0 ≤ i) (h1 : i < l.length)
  (kM : a.eval p = .pointer (some ⟨g, i.toNat * 7, none⟩)) (hx : a.eval y = .agg (l7 x A c).toArray) (hsz : (Pr.info? 26).map (·.size) = some 7) (hm : (.slice A x.f3.length c, x.f3) ∈ ts) (h : ∀ w1, St w P bs [(.slice (some ⟨g, 0, none⟩) n cap, l.set i.toNat x)] ts ro w1 → K a w1) :
  if Region.wanted op (yielded ops a.tmps) = true then Oper.wp Pr op a W K Q else K (a.put none undef) W := by
 obtain ⟨w1, hr, S1⟩ := MZ (a := a) (Pr := Pr) i x p y ho S h0 h1 kM hx hsz hm
 exact Iz hw hN hr (h _ S1)
theorem St.eH {k : Option Nat} {o : Obj} (S : St w P ((k, o) :: bs) ow ts ro W) : St w P bs ow ts ro W := by
 have hin : ∀ x, x ∈ keys bs ow → x ∈ keys ((k, o) :: bs) ow := fun x h => by
  unfold keys at h ⊢
  rw [List.filterMap_cons]
  cases k with
  | none => exact h
  | some g => exact List.mem_cons_of_mem _ h
 refine ⟨S.below, fun p hp => S.blk p (List.mem_cons_of_mem _ hp), fun x hx => S.new x (hin x hx), ?_, fun t ht => Kd.gG (S.tree t ht) (fun x h => ⟨h.1, fun h2 => h.2 (hin x h2)⟩), fun r hr => Kd.iT (S.own r hr) (fun x h => h.elim (fun h1 => .inl ⟨h1.1, fun h2 => h1.2 (hin x h2)⟩) .inr), fun c hc => ⟨(S.cell c hc).1, fun h2 => (S.cell c hc).2 (hin _ h2)⟩⟩
 have h := S.nd
 unfold keys at h ⊢
 rw [List.filterMap_cons] at h
 cases k with
 | none => exact h
 | some g => exact (List.nodup_cons.1 h).2
theorem St.bH {t : Value × List ai} (S : St w P bs ow (t :: ts) ro W) : St w P bs ow ts ro W :=
 ⟨S.below, S.blk, S.new, S.nd, fun t ht => S.tree t (List.mem_cons_of_mem _ ht), S.own, S.cell⟩
theorem St.Iw {t : Value × List ai} (S : St w P bs ow ts ro W) (hm : t ∈ ts) : St w P bs ow [t] ro W :=
 ⟨S.below, S.blk, S.new, S.nd, fun x hx => by rw [List.mem_singleton.1 hx]; exact S.tree t hm, S.own, S.cell⟩
theorem St.aU {c : Addr × Value} (S : St w P bs ow ts (c :: ro) W) : St w P bs ow ts ro W :=
 ⟨S.below, S.blk, S.new, S.nd, S.tree, S.own, fun c hc => S.cell c (List.mem_cons_of_mem _ hc)⟩
theorem ace {g n cap : Nat} {l : List ai} (i : Int) (x : ai) {A : Option Addr} {c : Nat} (p y : Operand) (ho : op.op = .store 26 p y) (S : St w P bs [(.slice (some ⟨g, 0, none⟩) n cap, l)] ts ro W) (h0 : 0 ≤ i) (h1 : i < l.length)
  (kM : a.eval p = .pointer (some ⟨g, i.toNat * 7, none⟩)) (hx : a.eval y = .agg (l7 x A c).toArray) (hsz : (Pr.info? 26).map (·.size) = some 7) (hm : (.slice A x.f3.length c, x.f3) ∈ ts) (hN : op.dst = none) (hgd : op.guard = none)
  (h : ∀ w1, St w P bs [(.slice (some ⟨g, 0, none⟩) n cap, l.set i.toNat x)] ts ro w1 → wpList Pr ops Q rest a w1) : wpList Pr ops Q (op :: rest) a W := by
 obtain ⟨w1, hr, S1⟩ := MZ (a := a) (Pr := Pr) i x p y ho S h0 h1 kM hx hsz hm
 refine wpList_plain hgd fun K hK => ?_
 unfold Oper.wp
 rw [hr]
 show K (a.put op.dst undef) _
 rw [hN]
 exact hK a _ (h _ S1)
end
section
variable {Pr : Program} {ops : Array Oper} {rest : List Oper} {op : Oper} {a : Act} {Q : Exit → Act → World → Prop} {w W W1 : World} {P : Nat → Prop} {bs : List (Option Nat × Obj)} {ts : List (Value × List ai)} {ro : List (Addr × Value)} {v v1 : Value} {xs ys : List ai}
theorem St.ab8 (S : St w P bs [(v, xs)] ts ro W) (hb : Below w.heap.size w W1) (hg : W.grownBy W1 v.ownBlock) (hat : v1.ownBlock = v.ownBlock ∨ ∃ b, v1.ownBlock = some b ∧ W.heap.size ≤ b) (hN : Kd.N k26 26 W1 w.heap.size (Ok w P (keys bs [])) v1 ys) :
  St w P bs [(v1, ys)] ts ro W1 := by
 have hkeep : ∀ k, k ∉ keys bs [(v, xs)] → k < W.heap.size → k ∉ keys bs [(v1, ys)] := fun k h1 h2 h3 => by
  rcases iC.1 h3 with h4 | h4
  ·exact h1 (iC.2 (.inl h4))
  ·rcases hat with e | ⟨b, e, hle⟩
   ·exact h1 (iC.2 (.inr (by rw [← e]; exact h4)))
   ·rw [e] at h4; injection h4 with h4; omega
 have hin : ∀ k, k ∈ keys bs [] → k ∈ keys bs [(v, xs)] := fun k h => iC.2 (.inl h)
 have hnb : ∀ k, k ∈ keys bs [] → v1.ownBlock ≠ some k := fun k h e => (hN.1 k e).2 h
 refine ⟨hb, fun p hp q hq => dM (S.blk p hp q hq) hg (fun e => (List.nodup_append.1 S.nd).2.2 q (List.mem_filterMap.2 ⟨p, hp, hq⟩) q (by simp [← e]) rfl), fun k hk => ?_, ?_, fun t ht => ?_, fun r hr => ?_, fun c hc => ?_⟩
 ·rcases iC.1 hk with h1 | h1
  ·exact ⟨(S.new k (hin k h1)).1, Nat.lt_of_lt_of_le (S.new k (hin k h1)).2 hg.size⟩
  ·exact ⟨Kd.rH hN k h1, Kd.DJ hN k h1⟩
 ·simp only [keys, List.flatMap_cons, List.flatMap_nil, List.append_nil]
  refine List.nodup_append.2 ⟨(List.nodup_append.1 S.nd).1, by cases v1.ownBlock <;> simp, fun q hq b hb2 => ?_⟩
  rintro rfl
  exact hnb q (by simpa [keys] using hq) (by simpa using hb2)
 ·exact Kd.gG (Kd.uM (Kd.CE (S.tree t ht)) hg (fun k h e => h.1.2 (iC.2 (.inr e.symm)))) (fun k h => ⟨h.1.1, hkeep k h.1.2 h.2⟩)
 ·rw [List.mem_singleton] at hr
  subst hr
  refine Kd.iT hN (fun k h => ?_)
  by_cases hk : v1.ownBlock = some k
  ·exact .inr hk
  ·exact .inl ⟨h.1, fun h2 => (iC.1 h2).elim h.2 hk⟩
 ·exact ⟨cell_grown hg (S.cell c hc).1 (fun e => (S.cell c hc).2 (iC.2 (.inr e.symm))), hkeep _ (S.cell c hc).2 (World.block_lt_of_cell? W _ (S.cell c hc).1)⟩
theorem St.adX (S : St w P bs [(v, xs)] ts ro W) : Kd.N k26 26 W w.heap.size (Ok w P (keys bs [])) v xs :=
 Kd.iT (S.own _ (List.mem_singleton.2 rfl)) (fun k h => h.elim (fun h1 => ⟨h1.1, fun h2 => h1.2 (iC.2 (.inl h2))⟩) (fun h1 => ⟨.inr (S.new k (iC.2 (.inr h1))).1, fun h2 => (List.nodup_append.1 S.nd).2.2 k (by simpa [keys] using h2) k (by simp [h1]) rfl⟩))
theorem um {W W1 : World} (hg : W.grownBy W1 none) : Below W.heap.size W W1 := ⟨hg.os, hg.tape, hg.output, hg.size, fun k hk => hg.block k hk (by simp)⟩
theorem xJ {N : Tmp} (hd : op.dst = some N) (hgd : op.guard = none) (S : St w P bs [] ts ro W) (hrun : (execOp a.eval op).run Pr W = .ok (.value (.slice (some ⟨W.heap.size, 0, none⟩) 0 0)) (W.alloc (.cells #[] 26)))
  (h : ∀ A c w1, St w P bs [(.slice A 0 c, [])] ts ro w1 → wpList Pr ops Q rest (a.put op.dst (.slice A 0 c)) w1) : wpList Pr ops Q (op :: rest) a W :=
 Kd.wR k26 (w0 := W) W.heap.size 26 hgd hd (xs := []) (inner := []) (ok := fun k => Ok w P (keys bs []) k ∨ W.heap.size ≤ k) (fH := fun _ => False) hrun (bD.none _ _) (fun _ h => h.elim) (.inr (Nat.le_refl _)) (Below.refl _ _) (Nat.le_refl _) (by simp) (fun v1 w1 hN _ hg _ => by
  obtain ⟨A, c, rfl⟩ := Kd.jU hN
  exact h A c w1 (S.Gq hN (um hg)))
end
section
variable {w : World} {P : Nat → Prop} {bs bs' : List (Option Nat × Obj)} {ow : List (Value × List ai)} {ts : List (Value × List ai)} {ro : List (Addr × Value)} {W W1 : World} {b0 : Nat} {o o1 : Obj} {v v1 : Value} {xs : List Int} {ok : Nat → Prop}
def IR (base : Nat) (v : Value) (xs : List Int) (o : Obj) : Prop := ∀ W : World, (∀ g, v.ownBlock = some g → W.heap[g]? = some o) → (Kd.int .i64).R 3 W base (fun k => some k = v.ownBlock) v xs
theorem NF {b' : Nat} (h : (Kd.int .i64).R 3 W1 b0 ok v xs) (hb : b' ≤ b0) : ∃ o, (∀ g, v.ownBlock = some g → W1.heap[g]? = some o) ∧ IR b' v xs o := by
 have ht := Kd.iV (Kd.CB rfl h) hb
 cases hv : v.ownBlock with
 | none => exact ⟨.cells #[] 0 (0, 0), fun g hg => (by cases hg), fun W hW => Kd.xy ht (fun k hk => (by rw [hv] at hk; cases hk))⟩
 | some g =>
  obtain ⟨cells, hc⟩ := Kd.Fp h g hv
  refine ⟨_, fun g' hg => (by injection hg with hg; rw [← hg]; exact hc), fun W hW => Kd.xy ht (fun k hk _ => ?_)⟩
  rw [hv] at hk
  injection hk with hk
  rw [hk, hc]
  exact hW g hv
theorem Wj {base n c : Nat} {ad : Addr} (h : IR base (.slice (some ad) n c) xs o) (hW : ∀ g, (Value.slice (some ad) n c).ownBlock = some g → W.heap[g]? = some o) (i : Int) (h0 : 0 ≤ i) (h1 : i < xs.length) : W.cell? (ad.add i.toNat) = some (.int .i64 (rd xs i)) := by
 have hC := (Kd.bQ (h W hW)).2.2
 obtain ⟨ad', he, hc⟩ := Kd.iE hC i h0 h1
 injection he with he
 rw [he]
 exact hc
theorem zC {base n c : Nat} {ad : Addr} (h : IR base (.slice (some ad) n c) xs o) (hW : ∀ g, (Value.slice (some ad) n c).ownBlock = some g → W.heap[g]? = some o) (i : Nat) (h1 : (i : Int) < xs.length) : W.cell? (ad.add i) = some (.int .i64 (rd xs (i : Int))) := Wj h hW (i : Int) (Int.natCast_nonneg _) h1
theorem St.Tq (S : St w P bs ow ts ro W) (k : Option Nat) (hk : ∀ g, k = some g → W.heap.size ≤ g ∧ W1.heap[g]? = some o) (hb : Below W.heap.size W W1) : St w P ((k, o) :: bs) ow ts ro W1 := by
 cases k with
 | none =>
  have S1 := S.call hb
  exact ⟨S1.below, fun p hp q hq => by
   rcases List.mem_cons.1 hp with rfl | hp
   ·cases hq
   ·exact S1.blk p hp q hq, S1.new, S1.nd, S1.tree, S1.own, S1.cell⟩
 | some g =>
  obtain ⟨hg, hbox⟩ := hk g rfl
  refine ⟨ak S.below hb, fun p hp q hq => ?_, fun k hk => ?_, List.nodup_cons.2 ⟨fun h => by have := (S.new g h).2; omega, S.nd⟩, fun t ht => ?_, fun r hr => ?_, fun c hc => ?_⟩
  ·rcases List.mem_cons.1 hp with rfl | hp
   ·rw [← Option.some.inj hq]; exact hbox
   ·exact aY (S.blk p hp q hq) hb
  ·rcases List.mem_cons.1 (show k ∈ g :: keys bs ow from hk) with rfl | hk
   ·exact ⟨Nat.le_trans S.below.size hg, iy hbox⟩
   ·exact ⟨(S.new k hk).1, Nat.lt_of_lt_of_le (S.new k hk).2 hb.size⟩
  ·exact Kd.gG (Kd.kE (Kd.qC (S.tree t ht) g hg) hb) (fun k hk => ⟨hk.1.1, fun h => (List.mem_cons.1 (show k ∈ g :: keys bs ow from h)).elim hk.2 hk.1.2⟩)
  ·exact Kd.iT (Kd.qQ (Kd.DI (S.own r hr) g hg) hb) (fun k hk => hk.1.elim (fun h1 => .inl ⟨h1.1, fun h => (List.mem_cons.1 (show k ∈ g :: keys bs ow from h)).elim hk.2 h1.2⟩) .inr)
  ·exact ⟨(hb.cell (World.block_lt_of_cell? W _ (S.cell c hc).1)).trans (S.cell c hc).1, fun h => (List.mem_cons.1 (show c.1.block ∈ g :: keys bs ow from h)).elim (fun he => by have := World.block_lt_of_cell? W _ (S.cell c hc).1; omega) (S.cell c hc).2⟩
theorem St.BO (S : St w P bs ow ts ro W) (h : (Kd.int .i64).R 3 W1 W.heap.size ok v xs) (hb : Below W.heap.size W W1) : ∃ o, St w P ((v.ownBlock, o) :: bs) ow ts ro W1 ∧ IR w.heap.size v xs o := by
 obtain ⟨o, h1, h2⟩ := NF h S.below.size
 exact ⟨o, S.Tq v.ownBlock (fun g hg => ⟨Kd.mJ h g hg, h1 g hg⟩) hb, h2⟩
theorem St.noI (S : St w P bs ow ts ro W) : ∃ o, St w P (((Value.slice none 0 0).ownBlock, o) :: bs) ow ts ro W ∧ IR w.heap.size (.slice none 0 0) [] o :=
 S.BO (ok := fun _ => True) (Kd.qR _ _ _ _ _) (Below.refl _ _)
theorem St.E5 {p q : Option Nat × Obj} (S : St w P (p :: q :: bs) ow ts ro W) : St w P (q :: p :: bs) ow ts ro W := by
 have hp : (keys (q :: p :: bs) ow).Perm (keys (p :: q :: bs) ow) := by
  unfold keys
  refine List.Perm.append_right _ ?_
  rw [List.filterMap_cons, List.filterMap_cons, List.filterMap_cons, List.filterMap_cons]
  cases p.1 <;> cases q.1 <;> simp
  exact List.Perm.swap _ _ _
 have hm : ∀ k, k ∈ keys (q :: p :: bs) ow ↔ k ∈ keys (p :: q :: bs) ow := fun k => hp.mem_iff
 have hO : ∀ k, Ok w P (keys (p :: q :: bs) ow) k → Ok w P (keys (q :: p :: bs) ow) k := fun k h => ⟨h.1, fun h2 => h.2 ((hm k).1 h2)⟩
 exact ⟨S.below, fun x hx => S.blk x (by simp only [List.mem_cons] at hx ⊢; rcases hx with h | h | h <;> simp [h]), fun k hk => S.new k ((hm k).1 hk), hp.nodup_iff.2 S.nd, fun t ht => Kd.gG (S.tree t ht) hO, fun r hr => Kd.iT (S.own r hr) (fun k h => h.imp (hO k) id), fun c hc => ⟨(S.cell c hc).1, fun h => (S.cell c hc).2 ((hm _).1 h)⟩⟩
theorem St.zx (S : St w P ((v.ownBlock, o) :: bs) ow ts ro W) (hb : Below w.heap.size w W1) (hg : W.grownBy W1 v.ownBlock) (hat : v1.ownBlock = v.ownBlock ∨ ∃ b, v1.ownBlock = some b ∧ W.heap.size ≤ b) (ho : ∀ g, v1.ownBlock = some g → W1.heap[g]? = some o1) :
  St w P ((v1.ownBlock, o1) :: bs) ow ts ro W1 := by
 have kc : ∀ (x : Value) (o : Obj) k, k ∈ keys ((x.ownBlock, o) :: bs) ow ↔ x.ownBlock = some k ∨ k ∈ keys bs ow := fun x o k => by
  unfold keys
  rw [List.filterMap_cons]
  cases x.ownBlock with
  | none => simp
  | some g => simp [eq_comm]
 have hnv : ∀ k, k ∈ keys bs ow → v.ownBlock ≠ some k := fun k hk e => by
  have h := S.nd
  unfold keys at h hk
  rw [List.filterMap_cons, e] at h
  exact (List.nodup_cons.1 h).1 hk
 have hnb : (keys bs ow).Nodup := by
  have h := S.nd
  unfold keys at h ⊢
  rw [List.filterMap_cons] at h
  split at h
  ·exact h
  ·exact (List.nodup_cons.1 h).2
 have hin : ∀ k, k ∈ keys bs ow → k ∈ keys ((v.ownBlock, o) :: bs) ow := fun k h => (kc v o k).2 (.inr h)
 have hnew : ∀ k, k ∈ keys bs ow → v1.ownBlock ≠ some k := fun k hk e => by
  rcases hat with h | ⟨b, h, hle⟩
  ·exact hnv k hk (by rw [← h]; exact e)
  ·rw [h] at e; injection e with e; have := S.lt (hin k hk); omega
 have hkeep : ∀ k, k ∉ keys ((v.ownBlock, o) :: bs) ow → k < W.heap.size → k ∉ keys ((v1.ownBlock, o1) :: bs) ow := fun k h1 h2 h3 => by
  rcases (kc v1 o1 k).1 h3 with h4 | h4
  ·rcases hat with h | ⟨b, h, hle⟩
   ·exact h1 ((kc v o k).2 (.inl (by rw [← h]; exact h4)))
   ·rw [h] at h4; injection h4 with h4; omega
  ·exact h1 (hin k h4)
 refine ⟨hb, fun p hp q hq => ?_, fun k hk => ?_, ?_, fun t ht => ?_, fun r hr => ?_, fun c hc => ?_⟩
 ·rcases List.mem_cons.1 hp with rfl | hp
  ·exact ho q hq
  ·exact dM (S.blk p (List.mem_cons_of_mem _ hp) q hq) hg (fun e => hnv q (mem_keys hp hq) e.symm)
 ·rcases (kc v1 o1 k).1 hk with h1 | h1
  ·rcases hat with h | ⟨b, h, hle⟩
   ·have := S.new k ((kc v o k).2 (.inl (by rw [← h]; exact h1)))
    exact ⟨this.1, Nat.lt_of_lt_of_le this.2 hg.size⟩
   ·rw [h] at h1
    injection h1 with h1
    subst h1
    exact ⟨Nat.le_trans S.below.size hle, iy (ho b h)⟩
  ·exact ⟨(S.new k (hin k h1)).1, Nat.lt_of_lt_of_le (S.new k (hin k h1)).2 hg.size⟩
 ·unfold keys
  rw [List.filterMap_cons]
  cases hv1 : v1.ownBlock with
  | none => exact hnb
  | some g => exact List.nodup_cons.2 ⟨fun h => hnew g h hv1, hnb⟩
 ·exact Kd.gG (Kd.uM (Kd.CE (S.tree t ht)) hg (fun k h e => h.1.2 ((kc v o k).2 (.inl e.symm)))) (fun k h => ⟨h.1.1, hkeep k h.1.2 h.2⟩)
 ·have hrv : ∀ k, r.1.ownBlock = some k → some k ≠ v.ownBlock := fun k h1 e => hnv k (List.mem_append.2 (.inr (List.mem_flatMap.2 ⟨r, hr, by simp [h1]⟩))) e.symm
  exact Kd.iT (Kd.zf (Kd.y8 (S.own r hr)) hg (fun k h e => h.1.elim (fun h1 => h1.2 ((kc v o k).2 (.inl e.symm))) (fun h1 => hrv k h1 e))) (fun k h => h.1.imp (fun h1 => ⟨h1.1, hkeep k h1.2 h.2⟩) id)
 ·exact ⟨cell_grown hg (S.cell c hc).1 (fun e => (S.cell c hc).2 ((kc v o _).2 (.inl e.symm))), hkeep _ (S.cell c hc).2 (World.block_lt_of_cell? W _ (S.cell c hc).1)⟩
end
section
variable {Pr : Program} {ops : Array Oper} {rest : List Oper} {op : Oper} {a : Act} {Q : Exit → Act → World → Prop} {w W : World} {P : Nat → Prop} {bs : List (Option Nat × Obj)} {ow : List (Value × List ai)} {ts : List (Value × List ai)} {ro : List (Addr × Value)} {v : Value} {xs : List Int} {o : Obj}
theorem WA (s x : Operand) (hgd : op.guard = none) (ho : op.op = .call { callee := .builtin .append, args := #[s, x], argTypes := #[41, 41] }) (ht : Pr.underlying 41 = some (.slice 3)) (hinfo : (Pr.info? 3).map (fun i => (i.zero, i.size, i.bytes)) = some (some (.int .i64 0), 1, 8))
  (S : St w P ((v.ownBlock, o) :: bs) ow ts ro W) (hI : IR w.heap.size v xs o) (y : Int) (hs : a.eval s = v) (hx : a.eval x = .slice (some ⟨W.heap.size, 0, none⟩) 1 1) (hl : xs.length ≤ 1000000000)
  (h : ∀ A1 c1 o1 w1, St w P (((Value.slice A1 (xs ++ [y]).length c1).ownBlock, o1) :: bs) ow ts ro w1 → IR w.heap.size (.slice A1 (xs ++ [y]).length c1) (xs ++ [y]) o1 → wpList Pr ops Q rest (a.put op.dst (.slice A1 (xs ++ [y]).length c1)) w1) :
  wpList Pr ops Q (op :: rest) a (W.alloc (.cells #[.int .i64 y] 3)) := by
 have hR := hI W (S.blk _ List.mem_cons_self)
 refine Kd.xx (Kd.int .i64) (w0 := w) w.heap.size hgd s x 41 3 (.int .i64 0) 8 ho ht hinfo rfl (by decide) (by omega) v xs y [.int .i64 y] (fun _ => True) (fun _ => False) hs hx rfl (fun _ hk => hk.elim) (fun _ _ => trivial) (Kd.oG hR (fun _ _ => trivial)) S.below S.below.size (by omega) ?_
 intro v1 w1 hr hb hg hat
 obtain ⟨A1, c1, rfl⟩ := Kd.fG hr
 obtain ⟨o1, h1, h2⟩ := NF hr (Nat.le_refl _)
 exact h A1 c1 o1 w1 (S.zx hb hg hat h1) h2
end
section
variable {w : World} {P : Nat → Prop} {bs : List (Option Nat × Obj)} {ts : List (Value × List ai)} {ro : List (Addr × Value)} {W : World} {l : List ai} {g n cap : Nat}
theorem St.CQ (S : St w P bs [(.slice (some ⟨g, 0, none⟩) n cap, l)] ts ro W) (i : Int) (h0 : 0 ≤ i) (h1 : i < l.length) :
  ∃ ua uc, St w P bs [(.slice (some ⟨g, 0, none⟩) n cap, l)] ((.slice ua (aI l i).f3.length uc, (aI l i).f3) :: ts) ro W ∧ ∀ (j : Nat) (u : Value), (l7 (aI l i) ua uc)[j]? = some u → W.cell? ⟨g, i.toNat * 7 + j, none⟩ = some u := by
 have hN := S.own _ (List.mem_singleton.2 rfl)
 have hob : (Value.slice (some ⟨g, 0, none⟩) n cap).ownBlock = some g := by simp [Value.ownBlock]
 obtain ⟨c0, hcl, hM, hcc, hfr⟩ := Kd.y9 hN z26 i h0 (by rw [(Kd.jk hN).1]; exact h1)
 obtain ⟨A6, c6, rfl, l6, g6⟩ := oV hM
 have l6 : (aI l i).f3.length ≤ c6 := l6
 have g6 : Kd.F k26 W _ A6 (aI l i).f3.length (aI l i).f3 := g6
 exact ⟨A6, c6, S.add (b0 := 0) (Kd.uN l6 (Kd.pM g6 (fun k hk => hk.1.elim id (fun e => absurd (by rw [hob] at e; exact (Option.some.inj e).symm) hk.2)))), fun j u h => hcc j u h⟩
end
section
variable {Pr : Program} {ops : Array Oper} {rest : List Oper} {op : Oper} {a : Act} {Q : Exit → Act → World → Prop} {Kc : Act → World → Prop} {w W : World} {P : Nat → Prop} {bs : List (Option Nat × Obj)} {ts : List (Value × List ai)} {ro : List (Addr × Value)}
theorem Tf {ow : List (Value × List ai)} {v : Value} {xs : List Int} {o : Obj} (s x : Operand) (hw : Region.wanted op (yielded ops a.tmps) = true) (ho : op.op = .call { callee := .builtin .append, args := #[s, x], argTypes := #[41, 41] }) (ht : Pr.underlying 41 = some (.slice 3)) (hinfo : (Pr.info? 3).map (fun i => (i.zero, i.size, i.bytes)) = some (some (.int .i64 0), 1, 8))
  (S : St w P ((v.ownBlock, o) :: bs) ow ts ro W) (hI : IR w.heap.size v xs o) (y : Int) (hs : a.eval s = v) (hx : a.eval x = .slice (some ⟨W.heap.size, 0, none⟩) 1 1) (hl : xs.length ≤ 1000000000)
  (h : ∀ A1 c1 o1 w1, St w P (((Value.slice A1 (xs ++ [y]).length c1).ownBlock, o1) :: bs) ow ts ro w1 → IR w.heap.size (.slice A1 (xs ++ [y]).length c1) (xs ++ [y]) o1 → Kc (a.put op.dst (.slice A1 (xs ++ [y]).length c1)) w1) :
  if Region.wanted op (yielded ops a.tmps) = true then Oper.wp Pr op a (W.alloc (.cells #[.int .i64 y] 3)) Kc Q else Kc (a.put op.dst undef) (W.alloc (.cells #[.int .i64 y] 3)) := by
 have hR := hI W (S.blk _ List.mem_cons_self)
 refine Kd.Aw (Kd.int .i64) (w0 := w) w.heap.size hw s x 41 3 (.int .i64 0) 8 ho ht hinfo rfl (by decide) (by omega) v xs y [.int .i64 y] (fun _ => True) (fun _ => False) hs hx rfl (fun _ hk => hk.elim) (fun _ _ => trivial) (Kd.oG hR (fun _ _ => trivial)) S.below S.below.size (by omega) ?_
 intro v1 w1 hr hb hg hat
 obtain ⟨A1, c1, rfl⟩ := Kd.fG hr
 obtain ⟨o1, h1, h2⟩ := NF hr (Nat.le_refl _)
 exact h A1 c1 o1 w1 (S.zx hb hg hat h1) h2
theorem xe {v : Value} {xs : List ai} (s x : Operand) (hgd : op.guard = none) (ho : op.op = .call { callee := .builtin .append, args := #[s, x], argTypes := #[24, 24] }) (ht : Pr.underlying 24 = some (.slice 26)) (hinfo : (Pr.info? 26).map (fun i => (i.zero, i.size, i.bytes)) = some (some (.agg #[(.int .u8 0), (.int .i64 0), (.int .i64 0), (.int .i64 0), (.int .i64 0), (.int .i64 0), (.slice none 0 0)]), 7, 72))
  (S : St w P bs [(v, xs)] ts ro W) (y : ai) {A : Option Addr} {c : Nat} (hm : (.slice A y.f3.length c, y.f3) ∈ ts) (hs : a.eval s = v) (hx : a.eval x = .slice (some ⟨W.heap.size, 0, none⟩) 1 1) (hl : xs.length ≤ 1000000000)
  (h : ∀ A1 c1 w1, St w P bs [(.slice A1 (xs ++ [y]).length c1, xs ++ [y])] ts ro w1 → wpList Pr ops Q rest (a.put op.dst (.slice A1 (xs ++ [y]).length c1)) w1) :
  wpList Pr ops Q (op :: rest) a (W.alloc (.cells (l7 y A c).toArray 26)) := by
 obtain ⟨_, hl2, hF⟩ := Kd.AX (S.tree _ hm)
 exact Kd.I5 k26 (w0 := w) w.heap.size hgd s x 24 26 _ 72 ho ht hinfo rfl (by decide) (by omega) v xs y (l7 y A c) (Ok w P (keys bs [])) (Ok w P (keys bs [(v, xs)])) hs hx (pY W _ y hl2 hF)
  (fun k h => ⟨⟨h.1, fun h2 => h.2 (iC.2 (.inl h2))⟩, fun e => h.2 (iC.2 (.inr e.symm))⟩) (fun k h => ⟨.inr (Nat.le_trans S.below.size h), fun h2 => by have := S.lt ((iC (v := v) (l := xs)).2 (.inl h2)); omega⟩) S.adX S.below S.below.size (by omega)
  (fun v1 w1 hN hb hg hat => by
   obtain ⟨A1, c1, rfl⟩ := Kd.jU hN
   exact h A1 c1 w1 (S.ab8 hb hg hat hN))
end
section
variable {Pr : Program} {ops : Array Oper} {md : Region.Mode} {Q : Exit → Act → World → Prop} {S : World → Prop} {ds : List Nat} {T : Bool × List (List Nat × List Nat)} {B : List Nat} {fuel : Nat} {l : Array Bool} {a a' : Act} {w : World} {v : Value} {oi : Oper}
def bA (n m : Nat) : Array Bool := ((List.range n).map fun i => m.testBit i).toArray
theorem aG (i : Nat) (N : Tmp) (l' : Array Bool) (HT : ae (iP md ops = T)) (h : bY Pr md ops Q S ds fuel l' a' w) (hi : ops[i]? = some oi := by rfl) (hN : oi.dst = some N := by rfl) (hc : Td T l.toList l'.toList i = true := by kernel_rfl)
  (hQ : ∀ c a w, Q (.panic c) (a.put oi.dst v) w → Q (.panic c) a w := by exact fun _ _ _ h => h) (hw : Region.wanted oi (yielded ops a.tmps) = true := by rfl) (hv : ∀ w, (execOp a.eval oi).run Pr w = .ok (.value v) w := by intro w'; go_simp; with_reducible rfl)
  (ha : a.put (some N) v = a' := by simp only [Act.put, List.setIfInBounds_toArray, List.set_cons_zero, List.set_cons_succ, lT, lS]; rfl) : bY Pr md ops Q S ds (fuel + 1) l a w :=
 uu l' hi hN (qE HT.out hc) hQ (.inl ⟨hw, hv⟩) ha h
theorem dJ (i : Nat) (N : Tmp) (l' : Array Bool) (HT : ae (iP md ops = T)) (HW : ae (iL T.2 B = true)) (hS : S w) (h : bY Pr md ops Q S ds fuel l' a' w) (hi : ops[i]? = some oi := by rfl) (hN : oi.dst = some N := by rfl)
  (hc : O5 T B ds l.toList l'.toList i = true := by kernel_rfl) (hQ : ∀ c a w, Q (.panic c) (a.put oi.dst v) w → Q (.panic c) a w := by exact fun _ _ _ h => h) (hw : Region.wanted oi (yielded ops a.tmps) = true := by rfl) (hv : ∀ w, S w → (execOp a.eval oi).run Pr w = .ok (.value v) w)
  (ha : a.put (some N) v = a' := by simp only [Act.put, List.setIfInBounds_toArray, List.set_cons_zero, List.set_cons_succ, lT, lS]; rfl) : bY Pr md ops Q S ds (fuel + 1) l a w :=
 Ah l' hi hN (yf HT.out HW.out hc) hQ (.inl ⟨hw, hv⟩) hS ha h
end
end Go.Proofs.Ytfdmfgaiblfbhaa.P
namespace Go.Proofs.Ytfdmfgaiblfbhaa.P
open Go.RowKit Go.Proofs.ag.aV Go.Proofs.ag.bM Go.Proofs.ag.di
attribute [local go_sem] kC kP lh lU jR jS kN kQ
mutual
def aT.l0 : Nat → Int → List Int → List Int → Option (List Int)
 | 0, _, _, _ => none
 | k + 1, x0, x1, x5 => if x0 > 0 then (aT.l1 k x0 x1 x5 0 x0 x1 (x1.length : Int) 0) else (some x5)
def aT.l1 : Nat → Int → List Int → List Int → Int → Int → List Int → Int → Int → Option (List Int)
 | 0, _, _, _, _, _, _, _, _ => none
 | k + 1, x0, x1, x5, x6, x7, x20, x21, Dz => if Dz < x21 then (if 0 ≤ Dz then (if Dz < (x20.length : Int) then (if Dz < (x5.length : Int) then (if (wrap64 ((rd x20 Dz) + (rd x5 Dz))) > 0 then (aT.l1 k x0 x1 x5 (wrap64 (x6 + 1)) (mn x7 (wrap64 ((rd x20 Dz) + (rd x5 Dz)))) x20 x21 (wrap64 (Dz + 1))) else (aT.l1 k x0 x1 x5 x6 x7 x20 x21 (wrap64 (Dz + 1)))) else (none)) else (none)) else (none)) else (if x6 = 0 then (none) else (aT.l2 k x0 x1 x5 (mx 1 (mn x7 (wrap64 (Int.tdiv x0 x6)))) x1 (x1.length : Int) 0))
def aT.l2 : Nat → Int → List Int → List Int → Int → List Int → Int → Int → Option (List Int)
 | 0, _, _, _, _, _, _, _ => none
 | k + 1, x0, x1, x5, x10, Sv, V7, Ce => if Ce < V7 then (if 0 ≤ Ce then (if Ce < (Sv.length : Int) then (if Ce < (x5.length : Int) then (if (wrap64 ((rd Sv Ce) + (rd x5 Ce))) > 0 then (if x0 > 0 then (aT.l2 k (wrap64 (x0 - (mn x10 x0))) x1 (x5.set (Ce : Int).toNat (wrap64 ((rd x5 Ce) - (mn x10 x0)))) x10 Sv V7 (wrap64 (Ce + 1))) else (aT.l2 k x0 x1 x5 x10 Sv V7 (wrap64 (Ce + 1)))) else (aT.l2 k x0 x1 x5 x10 Sv V7 (wrap64 (Ce + 1)))) else (none)) else (none)) else (none)) else (aT.l0 k x0 x1 x5)
end
def aT.f (k : Nat) (a0 : Int) (l1 : List Int) : Option (List Int) := if 0 ≤ (l1.length : Int) then (if ((l1.length : Int) : Int).toNat ≤ 35184372088832 then (aT.l0 k a0 l1 (List.replicate ((l1.length : Int) : Int).toNat 0)) else (none)) else (none)
theorem aT.vP : ∀ k, (∀ y0 y1 y2, iI (aT.l0 k y0 y1 y2) (aT.l0 (k + 1) y0 y1 y2)) ∧ (∀ y0 y1 y2 y3 y4 y5 y6 y7, iI (aT.l1 k y0 y1 y2 y3 y4 y5 y6 y7) (aT.l1 (k + 1) y0 y1 y2 y3 y4 y5 y6 y7)) ∧ (∀ y0 y1 y2 y3 y4 y5 y6, iI (aT.l2 k y0 y1 y2 y3 y4 y5 y6) (aT.l2 (k + 1) y0 y1 y2 y3 y4 y5 y6))
 | 0 => ⟨fun _ _ _ r h => by simp [aT.l0] at h, fun _ _ _ _ _ _ _ _ r h => by simp [aT.l1] at h, fun _ _ _ _ _ _ _ r h => by simp [aT.l2] at h⟩
 | k + 1 => by
  obtain ⟨BF, ih1, ih2⟩ := aT.vP k
  refine ⟨?_, ?_, ?_⟩
  ·intro y0 y1 y2
   unfold aT.l0
   repeat' first | (with_reducible exact ih1 _ _ _ _ _ _ _ _) | (with_reducible exact iI.refl _) | (with_reducible refine iI.ite ?_ ?_)
  ·intro y0 y1 y2 y3 y4 y5 y6 y7
   unfold aT.l1
   repeat' first | (with_reducible exact ih1 _ _ _ _ _ _ _ _) | (with_reducible exact ih2 _ _ _ _ _ _ _) | (with_reducible exact iI.refl _) | (with_reducible refine iI.ite ?_ ?_)
  ·intro y0 y1 y2 y3 y4 y5 y6
   unfold aT.l2
   repeat' first | (with_reducible exact BF _ _ _) | (with_reducible exact ih2 _ _ _ _ _ _ _) | (with_reducible exact iI.refl _) | (with_reducible refine iI.ite ?_ ?_)
theorem aT.mono : ∀ a0 a1 k, iI (aT.f k a0 a1) (aT.f (k + 1) a0 a1) := by
 intro a0 a1 k
 obtain ⟨BF, ih1, ih2⟩ := aT.vP k
 unfold aT.f
 repeat' first | (with_reducible exact BF _ _ _) | (with_reducible exact iI.refl _) | (with_reducible refine iI.ite ?_ ?_)
theorem aT.calls (k : Nat) (a0 : Int) (A1 : Option Addr) (c1 : Nat) (l1 : List Int) (r : List Int) (w : World) (hr1 : Kd.C (Kd.int .i64) w A1 l1.length l1) (hc1 : l1.length ≤ c1) (h : aT.f k a0 l1 = some r) :
  Calls Try.prog 130 #[.int .i64 a0, .slice A1 l1.length c1] w fun e w' => ∃ nU : Value, e = .returned (nU) ∧ Kd.R (Kd.int .i64) 3 w' w.heap.size (fun _ => True) nU r ∧ Below w.heap.size w w' := by
 have HR1 := ae.mk hr1
 clear hr1 hc1
 have HB := ae.mk (Below.refl w.heap.size w)
 have H : (if 0 ≤ (l1.length : Int) then (if ((l1.length : Int) : Int).toNat ≤ 35184372088832 then (aT.l0 k a0 l1 (List.replicate ((l1.length : Int) : Int).toNat 0)) else (none)) else (none)) = some r := h
 clear h
 by_cases c3 : 0 ≤ (l1.length : Int)
 ·rw [if_pos c3] at H
  have nY := eq_true c3
  have ug : decide (0 ≤ (l1.length : Int)) = true := decide_eq_true c3
  clear c3
  by_cases c4 : ((l1.length : Int) : Int).toNat ≤ 35184372088832
  ·rw [if_pos c4] at H
   have wK := eq_true c4
   have Jo : decide (((l1.length : Int) : Int).toNat ≤ 35184372088832) = true := decide_eq_true c4
   clear c4
   obtain ⟨acu, Ot⟩ : ∃ y_ : List Int, y_ = (List.replicate ((l1.length : Int) : Int).toNat 0) := ⟨_, rfl⟩
   replace H : (aT.l0 k a0 l1 acu) = some r := by (rw [Ot]; with_reducible exact H)
   have acR := ae.mk Ot
   clear Ot
   have H' := ae.mk H
   clear H
   go_enter Try.func130, Try.ntmps130
   go_wp2_with (((with_reducible refine aC (N := 16) rfl ?_); refine Kd.PL (Kd.int .i64) _ 3 rfl (N := 16) rfl 41 _ _ rfl (l1.length : Int) rfl rfl Try.underlying41 (.int .i64 0) 8 info3 rfl (by decide) (by omega) 0 (ok := fun _ => True) (fH := fun _ => True) rfl (fun _ hk => hk) trivial (of_decide_eq_true (by (with_reducible assumption))) (Nat.le_trans (Nat.mul_le_mul_right _ (of_decide_eq_true (by (with_reducible assumption)) : (l1.length : Int).toNat ≤ 35184372088832)) (by omega)) (Below.refl _ _) (Nat.le_refl _) ?_; intro U5 w5 ho6 hb kF gQ; clear kF gQ; (rw [← acR.out] at ho6); have acF := ae.mk (Kd.iV ho6 (bP (by repeat ((with_reducible exact HB.out))))); replace HB := ae.mk (ak (by repeat ((with_reducible exact HB.out))) hb); clear hb ho6))
   go_loopg [0] k (fun kq v0 w' => ∃ (sG : Int) (kT : List Int), v0 = .int .i64 sG ∧ ae (aT.l0 kq sG l1 kT = some r) ∧ ae (kq ≤ k) ∧ ae (Kd.R (Kd.int .i64) 3 w' w.heap.size (fun _ => True) U5 kT) ∧ ae (Below w.heap.size w w'))
   case atStart => exact ⟨(a0), (acu), (by rfl), H', ⟨Nat.le_refl _⟩, ⟨by exact acF.out⟩, ⟨by repeat ((with_reducible exact HB.out))⟩⟩
   case round =>
    clear H'
    clear nY ug wK Jo
    obtain ⟨sG, kT, rfl, HA, lD, kX, HB⟩ := hrel
    cases gk with
    | zero => exact absurd HA.out (by simp [aT.l0])
    | succ k1 =>
     have H := HA.out
     clear HA
     simp only [aT.l0] at H
     by_cases c7 : sG > 0
     ·rw [if_pos c7] at H
      have qH : decide (0 < sG) = true := decide_eq_true c7
      clear c7
      have H' := ae.mk H
      clear H
      go_wp2
      go_loopg [6, 7, 22] k1 (fun kq v6 v7 v22 w' => ∃ (m_ : Int) (yR : Int) (gu : Int), v6 = .int .i64 m_ ∧ v7 = .int .i64 yR ∧ v22 = .int .i64 gu ∧ ae (aT.l1 kq sG l1 kT m_ yR l1 (l1.length : Int) gu = some r) ∧ ae (kq ≤ k1) ∧ ae (Kd.R (Kd.int .i64) 3 w' w.heap.size (fun _ => True) U5 kT) ∧ ae (Below w.heap.size w w'))
      case atStart => exact ⟨(0), (sG), (0), (by rfl), (by rfl), (by rfl), H', ⟨Nat.le_refl _⟩, ⟨by exact kX.out⟩, ⟨by repeat ((with_reducible exact HB.out))⟩⟩
      case round =>
       clear H'
       clear qH
       obtain ⟨m_, yR, gu, rfl, rfl, rfl, HA, tJ, kX, HB⟩ := hrel
       cases gk with
       | zero => exact absurd HA.out (by simp [aT.l1])
       | succ k2 =>
        have H := HA.out
        clear HA
        simp only [aT.l1] at H
        by_cases c8 : gu < (l1.length : Int)
        ·rw [if_pos c8] at H
         have uQ : decide (gu < (l1.length : Int)) = true := decide_eq_true c8
         clear c8
         by_cases c9 : 0 ≤ gu
         ·rw [if_pos c9] at H
          have Jp : decide (0 ≤ gu) = true := decide_eq_true c9
          clear c9
          by_cases c10 : gu < (l1.length : Int)
          ·rw [if_pos c10] at H
           have ED : decide (gu < (l1.length : Int)) = true := decide_eq_true c10
           clear c10
           by_cases c11 : gu < (kT.length : Int)
           ·rw [if_pos c11] at H
            have zM : decide (gu < (kT.length : Int)) = true := decide_eq_true c11
            clear c11
            by_cases c12 : (wrap64 ((rd l1 gu) + (rd kT gu))) > 0
            ·rw [if_pos c12] at H
             have wU : decide (0 < (wrap64 ((rd l1 gu) + (rd kT gu)))) = true := decide_eq_true c12
             clear c12
             obtain ⟨Uf, VL⟩ : ∃ j_ : Int, (mn yR (wrap64 ((rd l1 gu) + (rd kT gu)))) = j_ := ⟨_, rfl⟩
             replace H : (aT.l1 k2 sG l1 kT (wrap64 (m_ + 1)) Uf l1 (l1.length : Int) (wrap64 (gu + 1))) = some r := by (rw [VL] at H; exact H)
             have ahO : (if (wrap64 ((rd l1 gu) + (rd kT gu))) < yR then (wrap64 ((rd l1 gu) + (rd kT gu))) else yR) = Uf := VL
             have H' := ae.mk H
             clear H
             have DY : 0 ≤ (gu : Int) := of_decide_eq_true (by (with_reducible assumption))
             have D7 : gu < (l1.length : Int) := of_decide_eq_true (by (with_reducible assumption))
             obtain ⟨ac6, TL, uV⟩ := Kd.iE HR1.out gu DY D7
             cases TL
             replace uV := (HB.out.cell (World.block_lt_of_cell? w _ uV)).trans uV
             replace DY := eq_true DY
             replace D7 := eq_true D7
             obtain ⟨aiS, ai9, ae2⟩ := Kd.fG kX.out
             subst ae2
             have DZ : 0 ≤ (gu : Int) := of_decide_eq_true (by (with_reducible assumption))
             have D8 : gu < (kT.length : Int) := of_decide_eq_true (by (with_reducible assumption))
             obtain ⟨Vz, TM, Yj⟩ := Kd.iE (Kd.bQ kX.out).2.2 gu DZ D8
             cases TM
             replace DZ := eq_true DZ
             replace D8 := eq_true D8
             have UE : 0 ≤ (gu : Int) := of_decide_eq_true (by (with_reducible assumption))
             have UI : gu < (kT.length : Int) := of_decide_eq_true (by (with_reducible assumption))
             obtain ⟨ac7, aeZ, agp⟩ := Kd.iE (Kd.bQ kX.out).2.2 gu UE UI
             obtain rfl : Vz = ac7 := (by injection aeZ)
             replace UE := eq_true UE
             replace UI := eq_true UI
             go_wp2
             go_roundg k2
             case measure => have := lD.out; have := tJ.out; omega
             case rel => exact ⟨(wrap64 (m_ + 1)), (Uf), (wrap64 (gu + 1)), (by rfl), (by rfl), (by rfl), H', ⟨by have := lD.out; have := tJ.out; omega⟩, ⟨by exact kX.out⟩, ⟨by repeat ((with_reducible exact HB.out))⟩⟩
            ·rw [if_neg c12] at H
             have wU : decide (0 < (wrap64 ((rd l1 gu) + (rd kT gu)))) = false := decide_eq_false c12
             clear c12
             have H' := ae.mk H
             clear H
             have DY : 0 ≤ (gu : Int) := of_decide_eq_true (by (with_reducible assumption))
             have D7 : gu < (l1.length : Int) := of_decide_eq_true (by (with_reducible assumption))
             obtain ⟨ac6, TL, uV⟩ := Kd.iE HR1.out gu DY D7
             cases TL
             replace uV := (HB.out.cell (World.block_lt_of_cell? w _ uV)).trans uV
             replace DY := eq_true DY
             replace D7 := eq_true D7
             obtain ⟨Ns, N8, TS⟩ := Kd.fG kX.out
             subst TS
             have DZ : 0 ≤ (gu : Int) := of_decide_eq_true (by (with_reducible assumption))
             have D8 : gu < (kT.length : Int) := of_decide_eq_true (by (with_reducible assumption))
             obtain ⟨Vz, TM, Yj⟩ := Kd.iE (Kd.bQ kX.out).2.2 gu DZ D8
             cases TM
             replace DZ := eq_true DZ
             replace D8 := eq_true D8
             go_wp2
             go_roundg k2
             case measure => have := lD.out; have := tJ.out; omega
             case rel => exact ⟨(m_), (yR), (wrap64 (gu + 1)), (by rfl), (by rfl), (by rfl), H', ⟨by have := lD.out; have := tJ.out; omega⟩, ⟨by exact kX.out⟩, ⟨by repeat ((with_reducible exact HB.out))⟩⟩
           ·rw [if_neg c11] at H
            exact absurd H (by simp)
          ·rw [if_neg c10] at H
           exact absurd H (by simp)
         ·rw [if_neg c9] at H
          exact absurd H (by simp)
        ·rw [if_neg c8] at H
         have uQ : decide (gu < (l1.length : Int)) = false := decide_eq_false c8
         clear c8
         by_cases c16 : m_ = 0
         ·rw [if_pos c16] at H
          exact absurd H (by simp)
         ·rw [if_neg c16] at H
          have NT : (m_ == 0) = false := beq_eq_false_iff_ne.mpr c16
          have adf : (m_ != 0) = true := bne_iff_ne.mpr c16
          obtain ⟨JU, VM⟩ : ∃ j_ : Int, (mn yR (wrap64 (Int.tdiv sG m_))) = j_ := ⟨_, rfl⟩
          replace H : (aT.l2 k2 sG l1 kT (mx 1 (JU)) l1 (l1.length : Int) 0) = some r := by (rw [VM] at H; exact H)
          have ahP : (if (wrap64 (Int.tdiv sG m_)) < yR then (wrap64 (Int.tdiv sG m_)) else yR) = JU := VM
          obtain ⟨BG, VN⟩ : ∃ j_ : Int, (mx 1 (JU)) = j_ := ⟨_, rfl⟩
          replace H : (aT.l2 k2 sG l1 kT BG l1 (l1.length : Int) 0) = some r := by (rw [VN] at H; exact H)
          have ahQ : (if 1 < (JU) then (JU) else 1) = BG := VN
          have H' := ae.mk H
          clear H
          go_wp2
          go_loopg [0, 53] k2 (fun kq v0 v53 w' => ∃ (sH : Int) (mQ : List Int) (eP : Int), v0 = .int .i64 sH ∧ v53 = .int .i64 eP ∧ ae (aT.l2 kq sH l1 mQ BG l1 (l1.length : Int) eP = some r) ∧ ae (kq ≤ k2) ∧ ae (Kd.R (Kd.int .i64) 3 w' w.heap.size (fun _ => True) U5 mQ) ∧ ae (Below w.heap.size w w'))
          case atStart => exact ⟨(sG), (kT), (0), (by rfl), (by rfl), H', ⟨Nat.le_refl _⟩, ⟨by exact kX.out⟩, ⟨by repeat ((with_reducible exact HB.out))⟩⟩
          case round =>
           clear H'
           clear uQ c16 NT adf
           obtain ⟨sH, mQ, eP, rfl, rfl, HA, Ha, kX, HB⟩ := hrel
           cases gk with
           | zero => exact absurd HA.out (by simp [aT.l2])
           | succ k3 =>
            have H := HA.out
            clear HA
            simp only [aT.l2] at H
            by_cases c19 : eP < (l1.length : Int)
            ·rw [if_pos c19] at H
             have adi : decide (eP < (l1.length : Int)) = true := decide_eq_true c19
             clear c19
             by_cases c20 : 0 ≤ eP
             ·rw [if_pos c20] at H
              have air : decide (0 ≤ eP) = true := decide_eq_true c20
              clear c20
              by_cases c21 : eP < (l1.length : Int)
              ·rw [if_pos c21] at H
               have ais : decide (eP < (l1.length : Int)) = true := decide_eq_true c21
               clear c21
               by_cases VF : eP < (mQ.length : Int)
               ·rw [if_pos VF] at H
                have ait : decide (eP < (mQ.length : Int)) = true := decide_eq_true VF
                clear VF
                by_cases c23 : (wrap64 ((rd l1 eP) + (rd mQ eP))) > 0
                ·rw [if_pos c23] at H
                 have adl : decide (0 < (wrap64 ((rd l1 eP) + (rd mQ eP)))) = true := decide_eq_true c23
                 clear c23
                 by_cases c24 : sH > 0
                 ·rw [if_pos c24] at H
                  have adm : decide (0 < sH) = true := decide_eq_true c24
                  clear c24
                  obtain ⟨BH, VO⟩ : ∃ j_ : Int, (mn BG sH) = j_ := ⟨_, rfl⟩
                  replace H : (aT.l2 k3 (wrap64 (sH - (BH))) l1 (mQ.set (eP : Int).toNat (wrap64 ((rd mQ eP) - (BH)))) BG l1 (l1.length : Int) (wrap64 (eP + 1))) = some r := by (rw [VO] at H; exact H)
                  have ahR : (if sH < BG then sH else BG) = BH := VO
                  obtain ⟨Ve, Ou⟩ : ∃ y_ : List Int, y_ = (mQ.set (eP : Int).toNat (wrap64 ((rd mQ eP) - (BH)))) := ⟨_, rfl⟩
                  replace H : (aT.l2 k3 (wrap64 (sH - (BH))) l1 Ve BG l1 (l1.length : Int) (wrap64 (eP + 1))) = some r := by (rw [Ou]; with_reducible exact H)
                  have acS := ae.mk Ou
                  clear Ou
                  have H' := ae.mk H
                  clear H
                  have xM : 0 ≤ (eP : Int) := of_decide_eq_true (by (with_reducible assumption))
                  have xP : eP < (l1.length : Int) := of_decide_eq_true (by (with_reducible assumption))
                  obtain ⟨VA, Jv, oJ⟩ := Kd.iE HR1.out eP xM xP
                  cases Jv
                  replace oJ := (HB.out.cell (World.block_lt_of_cell? w _ oJ)).trans oJ
                  replace xM := eq_true xM
                  replace xP := eq_true xP
                  obtain ⟨aiW, aeV, ae8⟩ := Kd.fG kX.out
                  subst ae8
                  have xN : 0 ≤ (eP : Int) := of_decide_eq_true (by (with_reducible assumption))
                  have xQ : eP < (mQ.length : Int) := of_decide_eq_true (by (with_reducible assumption))
                  obtain ⟨NK, Jw, Gj⟩ := Kd.iE (Kd.bQ kX.out).2.2 eP xN xQ
                  cases Jw
                  replace xN := eq_true xN
                  replace xQ := eq_true xQ
                  have UF : 0 ≤ (eP : Int) := of_decide_eq_true (by (with_reducible assumption))
                  have UJ : eP < (mQ.length : Int) := of_decide_eq_true (by (with_reducible assumption))
                  obtain ⟨ac8, ae0, Yk⟩ := Kd.iE (Kd.bQ kX.out).2.2 eP UF UJ
                  obtain rfl : NK = ac8 := (by injection ae0)
                  replace UF := eq_true UF
                  replace UJ := eq_true UJ
                  have p26 : 0 ≤ (eP : Int) := of_decide_eq_true (by (with_reducible assumption))
                  have q26 : (eP : Int) < ((mQ.length : Int) : Int) := of_decide_eq_true (by (with_reducible assumption))
                  obtain ⟨TW, ajb, ae7, aaK, afa, ai5, aeI⟩ := Kd.PK kX.out (by omega)
                  (cases ae7)
                  have aeH := ae.mk aaK
                  clear aaK afa aeI
                  (simp only [add_plain] at Gj)
                  (simp only [add_plain] at Yk)
                  obtain ⟨ahU, ahN⟩ := Kd.Wq 0 kX.out (eP : Int) p26 q26
                  replace p26 := eq_true p26
                  replace q26 := eq_true q26
                  have SI := Kd.ZP kX.out (eP : Int) (wrap64 ((rd mQ eP) - (BH)))
                  go_wp2_with (((with_reducible refine Ob (t := 3) (p := 78) rfl ?_); refine KY (t := 3) (p := 78) (v := ?ah8) (w1 := (wr.setCell ⟨TW, (eP : Int).toNat, none⟩ (.int .i64 (wrap64 ((rd mQ eP) - (BH)))))) ?hg ?ho ?hn ?hr ?_; (case ho => rfl); (case hg => rfl); (case hn => rfl); (case hr => (go_simp; done)); intro H8 hw; have hg : wr.grownBy H8 (some TW) := (by rw [hw]; exact SI.2); have hp_ : Kd.R (Kd.int .i64) 3 H8 w.heap.size (fun _ => True) (.slice (some ⟨TW, 0, none⟩) mQ.length aeV) Ve := (by rw [hw, acS.out]; exact SI.1); clear SI; replace kX := ae.mk (hp_); replace HB := ae.mk ((by rw [hw]; exact lL (HB.out) aeH.out : Below w.heap.size w H8)); clear hg hw hp_))
                  go_roundg k3
                  case measure => have := lD.out; have := tJ.out; have := Ha.out; omega
                  case rel => exact ⟨(wrap64 (sH - (BH))), (Ve), (wrap64 (eP + 1)), (by rfl), (by rfl), H', ⟨by have := lD.out; have := tJ.out; have := Ha.out; omega⟩, ⟨by exact kX.out⟩, ⟨by repeat ((with_reducible exact HB.out))⟩⟩
                 ·rw [if_neg c24] at H
                  have adm : decide (0 < sH) = false := decide_eq_false c24
                  clear c24
                  have H' := ae.mk H
                  clear H
                  have xM : 0 ≤ (eP : Int) := of_decide_eq_true (by (with_reducible assumption))
                  have xP : eP < (l1.length : Int) := of_decide_eq_true (by (with_reducible assumption))
                  obtain ⟨VA, Jv, oJ⟩ := Kd.iE HR1.out eP xM xP
                  cases Jv
                  replace oJ := (HB.out.cell (World.block_lt_of_cell? w _ oJ)).trans oJ
                  replace xM := eq_true xM
                  replace xP := eq_true xP
                  obtain ⟨aiX, ajc, ae9⟩ := Kd.fG kX.out
                  subst ae9
                  have xN : 0 ≤ (eP : Int) := of_decide_eq_true (by (with_reducible assumption))
                  have xQ : eP < (mQ.length : Int) := of_decide_eq_true (by (with_reducible assumption))
                  obtain ⟨NK, Jw, Gj⟩ := Kd.iE (Kd.bQ kX.out).2.2 eP xN xQ
                  cases Jw
                  replace xN := eq_true xN
                  replace xQ := eq_true xQ
                  go_wp2
                  go_roundg k3
                  case measure => have := lD.out; have := tJ.out; have := Ha.out; omega
                  case rel => exact ⟨(sH), (mQ), (wrap64 (eP + 1)), (by rfl), (by rfl), H', ⟨by have := lD.out; have := tJ.out; have := Ha.out; omega⟩, ⟨by exact kX.out⟩, ⟨by repeat ((with_reducible exact HB.out))⟩⟩
                ·rw [if_neg c23] at H
                 have adl : decide (0 < (wrap64 ((rd l1 eP) + (rd mQ eP)))) = false := decide_eq_false c23
                 clear c23
                 have H' := ae.mk H
                 clear H
                 have xM : 0 ≤ (eP : Int) := of_decide_eq_true (by (with_reducible assumption))
                 have xP : eP < (l1.length : Int) := of_decide_eq_true (by (with_reducible assumption))
                 obtain ⟨VA, Jv, oJ⟩ := Kd.iE HR1.out eP xM xP
                 cases Jv
                 replace oJ := (HB.out.cell (World.block_lt_of_cell? w _ oJ)).trans oJ
                 replace xM := eq_true xM
                 replace xP := eq_true xP
                 obtain ⟨aiY, ajd, ae_⟩ := Kd.fG kX.out
                 subst ae_
                 have xN : 0 ≤ (eP : Int) := of_decide_eq_true (by (with_reducible assumption))
                 have xQ : eP < (mQ.length : Int) := of_decide_eq_true (by (with_reducible assumption))
                 obtain ⟨NK, Jw, Gj⟩ := Kd.iE (Kd.bQ kX.out).2.2 eP xN xQ
                 cases Jw
                 replace xN := eq_true xN
                 replace xQ := eq_true xQ
                 go_wp2
                 go_roundg k3
                 case measure => have := lD.out; have := tJ.out; have := Ha.out; omega
                 case rel => exact ⟨(sH), (mQ), (wrap64 (eP + 1)), (by rfl), (by rfl), H', ⟨by have := lD.out; have := tJ.out; have := Ha.out; omega⟩, ⟨by exact kX.out⟩, ⟨by repeat ((with_reducible exact HB.out))⟩⟩
               ·rw [if_neg VF] at H
                exact absurd H (by simp)
              ·rw [if_neg c21] at H
               exact absurd H (by simp)
             ·rw [if_neg c20] at H
              exact absurd H (by simp)
            ·rw [if_neg c19] at H
             have adi : decide (eP < (l1.length : Int)) = false := decide_eq_false c19
             clear c19
             have H' := ae.mk H
             clear H
             go_wp2
             go_roundg k3
             case measure => have := lD.out; have := tJ.out; have := Ha.out; omega
             case rel => exact ⟨(sH), (mQ), (by rfl), H', ⟨by have := lD.out; have := tJ.out; have := Ha.out; omega⟩, ⟨by exact kX.out⟩, ⟨by repeat ((with_reducible exact HB.out))⟩⟩
     ·rw [if_neg c7] at H
      have qH : decide (0 < sG) = false := decide_eq_false c7
      clear c7
      obtain rfl := Option.some.inj H
      go_wp2
      go_ret
      exact ⟨_, by rfl, by exact kX.out, by repeat ((with_reducible exact HB.out))⟩
  ·rw [if_neg c4] at H
   exact absurd H (by simp)
 ·rw [if_neg c3] at H
  exact absurd H (by simp)
end Go.Proofs.Ytfdmfgaiblfbhaa.P
namespace Go.Proofs.Ytfdmfgaiblfbhaa.P
open Go.RowKit Go.Proofs.ag.aV Go.Proofs.ag.bM Go.Proofs.ag.di
def jX (a n : Int) (i : Int) : Int := a / n + if i < a % n then 1 else 0
def moreL (a : Int) (n : Nat) : List Int := (List.range n).map fun i => jX a n (i : Nat)
theorem lN (a : Int) (n : Nat) : (moreL a n).length = n := by simp [moreL]
theorem Q7 (a : Int) (n k : Nat) (h : k < n) : (moreL a n)[k]? = some (jX a n k) := by simp [moreL, h]
theorem UX {α : Type} (L : List α) (x z : α) (k : Nat) (hx : L[k]? = some x) : (L.take k ++ List.replicate (L.length - k) z).set k x = L.take (k + 1) ++ List.replicate (L.length - (k + 1)) z := by
 obtain ⟨h, rfl⟩ := List.getElem?_eq_some_iff.1 hx
 obtain ⟨m, hm⟩ : ∃ m, L.length - k = m + 1 := ⟨L.length - k - 1, by omega⟩
 rw [List.set_append_right _ _ (by simp; omega), List.length_take, show k - min k L.length = 0 by omega, hm, List.replicate_succ, List.set_cons_zero, List.take_succ_eq_append_getElem h, List.append_assoc, show L.length - (k + 1) = m by omega]
 rfl
theorem EN (a : Int) (n k : Nat) (h : k < n) : ((moreL a n).take k ++ List.replicate (n - k) 0).set k (jX a n k) = (moreL a n).take (k + 1) ++ List.replicate (n - (k + 1)) 0 := by
 have := UX (moreL a n) (jX a n k) 0 k (Q7 a n k h)
 rwa [lN] at this
theorem Ut (a : Int) (n : Nat) (w : World) (h0 : 0 ≤ a) (h1 : a ≤ 9000000000000000000) (h2 : 1 ≤ n) (h3 : n ≤ 100000) :
  Calls Try.prog 129 #[.int .i64 a, .int .i64 n] w fun e w' => ∃ nU : Value, e = .returned nU ∧ Kd.R (Kd.int .i64) 3 w' w.heap.size (fun _ => True) nU (moreL a n) ∧ Below w.heap.size w w' := by
 have hmk := ER (P := Try.prog) 41 3 .i64 8 Try.underlying41 info3 (by decide) n (by omega)
 have hs := J6 w w.heap.size 3 .i64 n (Nat.le_refl _) (by omega)
 have hq0 : 0 ≤ a / (n : Int) := Int.ediv_nonneg h0 (by omega)
 have hq1 : a / (n : Int) ≤ a := Int.ediv_le_self _ h0
 have HS := ae.mk hs
 clear hs
 go_enter Try.func129, Try.ntmps129
 go_wp2
 go_loopw [11] (fun v11 wr => ∃ k : Nat, k ≤ n ∧ v11 = .int .i64 k ∧ ae (wr.ownsRow w.heap.size 3 1 (.slice (some ⟨w.heap.size, 0, none⟩) n n) n (nums .i64 ((moreL a n).take k ++ List.replicate (n - k) 0))) ∧ ae (Below w.heap.size w wr)) (fun v11 _ => n - (intOf v11).toNat)
 case atStart => exact ⟨0, by omega, rfl, ⟨by simpa using HS.out⟩, ⟨gq (Below.refl _ _) _⟩⟩
 case round =>
  obtain ⟨k, hk, rfl, HO, HB⟩ := hrel
  clear hmk HS
  by_cases hlt : k < n
  ·have hlt' : (k : Int) < (n : Int) := by omega
   obtain ⟨hc, hf⟩ := Rk HO.out (k : Int) (by omega) (by omega)
   simp only [Int.toNat_natCast] at hc hf
   by_cases hr : (k : Int) < a % (n : Int)
   ·have HK := ae.mk (EN a n k hlt)
    have HR := ae.mk hr
    go_wp2
    go_roundw
    case rel =>
     obtain ⟨s1, _⟩ := yF HO.out (k : Int) (a / n)
     obtain ⟨s2, _⟩ := yF s1 (k : Int) (a / n + 1)
     simp only [Int.toNat_natCast, List.set_set] at s1 s2
     have e : jX a n k = a / n + 1 := by unfold jX; rw [if_pos HR.out]
     rw [← e, HK.out] at s2
     exact ⟨k + 1, by omega, by go_num, ⟨by rw [← e]; exact s2⟩, ⟨lL (lL HB.out (Nat.le_refl _)) (Nat.le_refl _)⟩⟩
    case measure => simp [intOf]; omega
   ·have HK := ae.mk (EN a n k hlt)
    have HR := ae.mk hr
    go_wp2
    go_roundw
    case rel =>
     obtain ⟨s1, _⟩ := yF HO.out (k : Int) (a / n)
     simp only [Int.toNat_natCast] at s1
     have e : jX a n k = a / n := by unfold jX; rw [if_neg HR.out]; omega
     rw [← e, HK.out] at s1
     exact ⟨k + 1, by omega, by go_num, ⟨by rw [← e]; exact s1⟩, ⟨lL HB.out (Nat.le_refl _)⟩⟩
    case measure => simp [intOf]; omega
  ·obtain rfl : k = n := by omega
   go_wp2
   go_ret
   refine ⟨_, rfl, ?_, HB.out⟩
   have h := HO.out
   rw [List.take_of_length_le (by rw [lN]; omega), Nat.sub_self] at h
   simp only [List.replicate_zero, List.append_nil] at h
   exact Kd.uJ (enc := Value.int .i64) (h1 := fun _ => rfl) (by rw [lN]; exact h) (fun _ _ => trivial)
def nV.f (a0 a1 : Int) : Option (List Int) := if 0 ≤ a0 ∧ a0 ≤ 9000000000000000000 ∧ 1 ≤ a1 ∧ a1 ≤ 100000 then some (moreL a0 a1.toNat) else none
theorem nV.calls (a0 a1 : Int) (r : List Int) (w : World) (h : nV.f a0 a1 = some r) : Calls Try.prog 129 #[.int .i64 a0, .int .i64 a1] w fun e w' => ∃ nU : Value, e = .returned (nU) ∧ Kd.R (Kd.int .i64) 3 w' w.heap.size (fun _ => True) nU r ∧ Below w.heap.size w w' := by
 unfold nV.f at h
 split at h
 ·rename_i hc
  obtain ⟨n, rfl⟩ := Int.eq_ofNat_of_zero_le (show 0 ≤ a1 by omega)
  obtain rfl := Option.some.inj h
  exact Ut a0 n w hc.1 hc.2.1 (by omega) (by omega)
 ·exact absurd h (by simp)
end Go.Proofs.Ytfdmfgaiblfbhaa.P
namespace Go.Proofs.Ytfdmfgaiblfbhaa.P
open Go.RowKit Go.Proofs.ag.aV Go.Proofs.ag.bM Go.Proofs.ag.di
attribute [local go_sem] kC kP lh lU jR jS kN kQ
mutual
def aX.l0 : Nat → Int → List Int → Int → List Int → Int → Int → Option (List Int × Bool)
 | 0, _, _, _, _, _, _ => none
 | k + 1, x0, x1, x6, x9, x10, x11 => if x11 < x10 then (if 0 ≤ x11 then (if x11 < (x9.length : Int) then (if (rd x9 x11) < 0 then (some (([] : List Int), false)) else (if (rd x9 x11) > 2147483647 then (some (([] : List Int), false)) else (aX.l0 k x0 x1 (mn 2147483647 (wrap64 (x6 + (rd x9 x11)))) x9 x10 (wrap64 (x11 + 1))))) else (none)) else (none)) else (if (x1.length : Int) = 0 then (aX.j1 k x0 x1 true) else (if x0 < (wrap64 (-x6)) then (aX.j1 k x0 x1 true) else (aX.j1 k x0 x1 (decide (x0 > 2147483647)))))
def aX.j1 : Nat → Int → List Int → Bool → Option (List Int × Bool)
 | 0, _, _, _ => none
 | k + 1, x0, x1, x26 => if x26 = true then (some (([] : List Int), false)) else (if x0 ≥ 0 then ((nV.f x0 (x1.length : Int)).bind fun Gs => (some (Gs, true))) else ((aT.f k (wrap64 (-x0)) x1).bind fun Gt => (some (Gt, true))))
end
def aX.f (k : Nat) (a0 : Int) (l1 : List Int) : Option (List Int × Bool) := aX.l0 k a0 l1 0 l1 (l1.length : Int) 0
theorem aX.vP : ∀ k, (∀ y0 y1 y2 y3 y4 y5, iI (aX.l0 k y0 y1 y2 y3 y4 y5) (aX.l0 (k + 1) y0 y1 y2 y3 y4 y5)) ∧ (∀ y0 y1 y2, iI (aX.j1 k y0 y1 y2) (aX.j1 (k + 1) y0 y1 y2))
 | 0 => ⟨fun _ _ _ _ _ _ r h => by simp [aX.l0] at h, fun _ _ _ r h => by simp [aX.j1] at h⟩
 | k + 1 => by
  obtain ⟨BF, ih1⟩ := aX.vP k
  refine ⟨?_, ?_⟩
  ·intro y0 y1 y2 y3 y4 y5
   unfold aX.l0
   repeat' first | (with_reducible exact BF _ _ _ _ _ _) | (with_reducible exact ih1 _ _ _) | (with_reducible exact iI.refl _) | (with_reducible refine iI.ite ?_ ?_)
  ·intro y0 y1 y2
   unfold aX.j1
   repeat' first | (with_reducible exact aT.mono _ _ _) | (with_reducible exact iI.refl _) | (with_reducible refine iI.ite ?_ ?_) | (with_reducible refine iI.bind ?_ (fun _ => ?_))
theorem aX.mono : ∀ a0 a1 k, iI (aX.f k a0 a1) (aX.f (k + 1) a0 a1) := by
 intro a0 a1 k
 obtain ⟨BF, ih1⟩ := aX.vP k
 unfold aX.f
 repeat' (with_reducible exact BF _ _ _ _ _ _)
theorem aX.calls (k : Nat) (a0 : Int) (A1 : Option Addr) (c1 : Nat) (l1 : List Int) (r1 : List Int) (r2 : Bool) (w : World) (hr1 : Kd.C (Kd.int .i64) w A1 l1.length l1) (hc1 : l1.length ≤ c1) (h : aX.f k a0 l1 = some (r1, r2)) :
  Calls Try.prog 49 #[.int .i64 a0, .slice A1 l1.length c1] w fun e w' => ∃ nU : Value, e = .returned (.tuple #[nU, .bool r2]) ∧ Kd.R (Kd.int .i64) 3 w' w.heap.size (fun _ => True) nU r1 ∧ Below w.heap.size w w' := by
 have HR1 := ae.mk hr1
 have yU := ae.mk hc1
 clear hr1 hc1
 have HB := ae.mk (Below.refl w.heap.size w)
 have H : (aX.l0 k a0 l1 0 l1 (l1.length : Int) 0) = some (r1, r2) := h
 clear h
 have H' := ae.mk H
 clear H
 go_enter Try.func49, Try.ntmps49
 go_wp2
 go_loopg [6, 11] k (fun kq v6 v11 w' => ∃ (Ai : Int) (bJ : Int), v6 = .int .i64 Ai ∧ v11 = .int .i64 bJ ∧ ae (aX.l0 kq a0 l1 Ai l1 (l1.length : Int) bJ = some (r1, r2)) ∧ ae (kq ≤ k) ∧ ae (Below w.heap.size w w'))
 case atStart => exact ⟨(0), (0), (by rfl), (by rfl), H', ⟨Nat.le_refl _⟩, ⟨by repeat ((with_reducible exact HB.out))⟩⟩
 case round =>
  clear H'
  obtain ⟨Ai, bJ, rfl, rfl, HA, lD, HB⟩ := hrel
  cases gk with
  | zero => exact absurd HA.out (by simp [aX.l0])
  | succ k1 =>
   have H := HA.out
   clear HA
   simp only [aX.l0] at H
   by_cases c3 : bJ < (l1.length : Int)
   ·rw [if_pos c3] at H
    have nY : decide (bJ < (l1.length : Int)) = true := decide_eq_true c3
    clear c3
    by_cases c4 : 0 ≤ bJ
    ·rw [if_pos c4] at H
     have wK : decide (0 ≤ bJ) = true := decide_eq_true c4
     clear c4
     by_cases c5 : bJ < (l1.length : Int)
     ·rw [if_pos c5] at H
      have zN : decide (bJ < (l1.length : Int)) = true := decide_eq_true c5
      clear c5
      by_cases c6 : (rd l1 bJ) < 0
      ·rw [if_pos c6] at H
       have uh : decide ((rd l1 bJ) < 0) = true := decide_eq_true c6
       clear c6
       simp only [Option.some.injEq, Prod.mk.injEq] at H
       obtain ⟨rfl, rfl⟩ := H
       have xO : 0 ≤ (bJ : Int) := of_decide_eq_true (by (with_reducible assumption))
       have xR : bJ < (l1.length : Int) := of_decide_eq_true (by (with_reducible assumption))
       obtain ⟨VB, Jy, oK⟩ := Kd.iE HR1.out bJ xO xR
       cases Jy
       replace oK := (HB.out.cell (World.block_lt_of_cell? w _ oK)).trans oK
       replace xO := eq_true xO
       replace xR := eq_true xR
       go_wp2
       go_ret2
       exact ⟨_, by rfl, by exact Kd.qR _ _ _ _ _, by repeat ((with_reducible exact HB.out))⟩
      ·rw [if_neg c6] at H
       have uh : decide ((rd l1 bJ) < 0) = false := decide_eq_false c6
       clear c6
       by_cases c7 : (rd l1 bJ) > 2147483647
       ·rw [if_pos c7] at H
        have qH : decide (2147483647 < (rd l1 bJ)) = true := decide_eq_true c7
        clear c7
        simp only [Option.some.injEq, Prod.mk.injEq] at H
        obtain ⟨rfl, rfl⟩ := H
        have xO : 0 ≤ (bJ : Int) := of_decide_eq_true (by (with_reducible assumption))
        have xR : bJ < (l1.length : Int) := of_decide_eq_true (by (with_reducible assumption))
        obtain ⟨VB, Jy, oK⟩ := Kd.iE HR1.out bJ xO xR
        cases Jy
        replace oK := (HB.out.cell (World.block_lt_of_cell? w _ oK)).trans oK
        replace xO := eq_true xO
        replace xR := eq_true xR
        go_wp2
        go_ret2
        exact ⟨_, by rfl, by exact Kd.qR _ _ _ _ _, by repeat ((with_reducible exact HB.out))⟩
       ·rw [if_neg c7] at H
        have qH : decide (2147483647 < (rd l1 bJ)) = false := decide_eq_false c7
        clear c7
        obtain ⟨ji8, abw⟩ : ∃ j_ : Int, (mn 2147483647 (wrap64 (Ai + (rd l1 bJ)))) = j_ := ⟨_, rfl⟩
        replace H : (aX.l0 k1 a0 l1 ji8 l1 (l1.length : Int) (wrap64 (bJ + 1))) = some (r1, r2) := by (rw [abw] at H; exact H)
        have aiD : (if (wrap64 (Ai + (rd l1 bJ))) < 2147483647 then (wrap64 (Ai + (rd l1 bJ))) else 2147483647) = ji8 := abw
        have H' := ae.mk H
        clear H
        have xO : 0 ≤ (bJ : Int) := of_decide_eq_true (by (with_reducible assumption))
        have xR : bJ < (l1.length : Int) := of_decide_eq_true (by (with_reducible assumption))
        obtain ⟨VB, Jy, oK⟩ := Kd.iE HR1.out bJ xO xR
        cases Jy
        replace oK := (HB.out.cell (World.block_lt_of_cell? w _ oK)).trans oK
        replace xO := eq_true xO
        replace xR := eq_true xR
        go_wp2
        go_roundg k1
        case measure => have := lD.out; omega
        case rel => exact ⟨(ji8), (wrap64 (bJ + 1)), (by rfl), (by rfl), H', ⟨by have := lD.out; omega⟩, ⟨by repeat ((with_reducible exact HB.out))⟩⟩
     ·rw [if_neg c5] at H
      exact absurd H (by simp)
    ·rw [if_neg c4] at H
     exact absurd H (by simp)
   ·rw [if_neg c3] at H
    have nY : decide (bJ < (l1.length : Int)) = false := decide_eq_false c3
    clear c3
    have Zp := ae.mk H
    clear H
    go_upto_region 9 with (fail)
    go_cut [26] (fun v26 wc => ∃ (kq : Nat) (IB : Bool), v26 = .bool IB ∧ ae (aX.j1 kq a0 l1 IB = some (r1, r2)) ∧ ae (kq ≤ k1) ∧ ae (Below w.heap.size w wc))
    case first =>
     have H := Zp.out
     clear Zp
     by_cases c10 : (l1.length : Int) = 0
     ·rw [if_pos c10] at H
      have ED : ((l1.length : Int) == 0) = true := beq_iff_eq.mpr c10
      have NR : ((l1.length : Int) != 0) = false := bne_eq_false_iff_eq.mpr c10
      clear c10
      (skip)
      have H' := ae.mk H
      clear H
      go_wp2
      go_meet
      case rel => exact ⟨_, (true), (by rfl), H', ⟨by have := lD.out; omega⟩, ⟨by repeat ((with_reducible exact HB.out))⟩⟩
     ·rw [if_neg c10] at H
      have ED : ((l1.length : Int) == 0) = false := beq_eq_false_iff_ne.mpr c10
      have NR : ((l1.length : Int) != 0) = true := bne_iff_ne.mpr c10
      have aiq : ¬ (l1 = []) := fun h_ => c10 (by rw [h_]; rfl)
      (skip)
      by_cases c11 : a0 < (wrap64 (-Ai))
      ·rw [if_pos c11] at H
       have zM : decide (a0 < (wrap64 (-Ai))) = true := decide_eq_true c11
       clear c11
       have H' := ae.mk H
       clear H
       go_wp2
       go_meet
       case rel => exact ⟨_, (true), (by rfl), H', ⟨by have := lD.out; omega⟩, ⟨by repeat ((with_reducible exact HB.out))⟩⟩
      ·rw [if_neg c11] at H
       have zM : decide (a0 < (wrap64 (-Ai))) = false := decide_eq_false c11
       clear c11
       have H' := ae.mk H
       clear H
       go_wp2
       go_meet
       case rel => exact ⟨_, (decide (a0 > 2147483647)), (by rfl), H', ⟨by have := lD.out; omega⟩, ⟨by repeat ((with_reducible exact HB.out))⟩⟩
    case rest =>
     clear Zp
     clear nY
     obtain ⟨kq, IB, rfl, HA, HJ8, HB⟩ := hcut
     cases kq with
     | zero => exact absurd HA.out (by simp [aX.j1])
     | succ kj8 =>
      have H := HA.out
      clear HA
      simp only [aX.j1] at H
      by_cases c12 : IB = true
      ·subst c12
       have H1 : (some (([] : List Int), false)) = some (r1, r2) := by rw [if_pos rfl] at H; exact H
       clear H
       have H := H1
       clear H1
       simp only [Option.some.injEq, Prod.mk.injEq] at H
       obtain ⟨rfl, rfl⟩ := H
       go_wp2
       go_ret2
       exact ⟨_, by rfl, by exact Kd.qR _ _ _ _ _, by repeat ((with_reducible exact HB.out))⟩
      ·replace c12 := Bool.eq_false_iff.mpr c12
       subst c12
       have H1 : (if a0 ≥ 0 then ((nV.f a0 (l1.length : Int)).bind fun Gs => (some (Gs, true))) else ((aT.f kj8 (wrap64 (-a0)) l1).bind fun Gt => (some (Gt, true)))) = some (r1, r2) := by rw [if_neg (show ¬ (false = true) by decide)] at H; exact H
       clear H
       have H := H1
       clear H1
       by_cases c13 : a0 ≥ 0
       ·rw [if_pos c13] at H
        have ada : decide (0 ≤ a0) = true := decide_eq_true c13
        clear c13
        replace H := Option.bind_eq_some_iff.mp H
        obtain ⟨Gs, Zd, H⟩ := H
        replace H : (some (Gs, true)) = some (r1, r2) := H
        have A14 := ae.mk Zd
        clear Zd
        simp only [Option.some.injEq, Prod.mk.injEq] at H
        obtain ⟨rfl, rfl⟩ := H
        go_wp2_with (((with_reducible refine gK (f := 129) rfl ?_); refine jF (some 46) rfl rfl Try.func129 (by kernel_rfl) rfl #[.int .i64 a0, .int .i64 (l1.length : Int)] rfl (by (try simp only [List.map_toArray, List.map_cons, List.map_nil]); rfl) ?_; (with_reducible refine (nV.calls a0 (l1.length : Int) Gs _ A14.out).mono ?_); rintro e ry ⟨aju, rfl, ho0, hb⟩; refine ⟨_, rfl, ?_⟩; have acG := ae.mk (Kd.iV ho0 (bP (by repeat ((with_reducible exact HB.out))))); replace HB := ae.mk (ak (by repeat ((with_reducible exact HB.out))) hb); (try clear hb); (try clear ho0)))
        go_ret2
        exact ⟨_, by rfl, by exact acG.out, by repeat ((with_reducible exact HB.out))⟩
       ·rw [if_neg c13] at H
        have ada : decide (0 ≤ a0) = false := decide_eq_false c13
        clear c13
        replace H := Option.bind_eq_some_iff.mp H
        obtain ⟨Gt, IE, H⟩ := H
        replace H : (some (Gt, true)) = some (r1, r2) := H
        have G7 := ae.mk IE
        clear IE
        simp only [Option.some.injEq, Prod.mk.injEq] at H
        obtain ⟨rfl, rfl⟩ := H
        go_wp2_with (((with_reducible refine gK (f := 130) rfl ?_); refine jF (some 50) rfl rfl Try.func130 (by kernel_rfl) rfl #[.int .i64 (wrap64 (-a0)), .slice A1 l1.length c1] rfl (by (try simp only [List.map_toArray, List.map_cons, List.map_nil]); rfl) ?_; (with_reducible refine (aT.calls kj8 (wrap64 (-a0)) _ _ l1 Gt _ ?lK ?nT G7.out).mono ?_); (case lK => repeat (exact (Kd.jH HR1.out HB.out))); (case nT => exact yU.out); rintro e Sm ⟨ajv, rfl, ho0, hb⟩; refine ⟨_, rfl, ?_⟩; have acH := ae.mk (Kd.iV ho0 (bP (by repeat ((with_reducible exact HB.out))))); replace HB := ae.mk (ak (by repeat ((with_reducible exact HB.out))) hb); (try clear hb); (try clear ho0)))
        go_ret2
        exact ⟨_, by rfl, by exact acH.out, by repeat ((with_reducible exact HB.out))⟩
def bf.l0 : Nat → List Int → List Int → Int → Int → Option (Bool)
 | 0, _, _, _, _ => none
 | k + 1, x0, x1, x12, Ff => if Ff < x12 then (if 0 ≤ Ff then (if Ff < (x0.length : Int) then (if Ff < (x1.length : Int) then (if (rd x0 Ff) = (rd x1 Ff) then (bf.l0 k x0 x1 x12 (wrap64 (Ff + 1))) else (some false)) else (none)) else (none)) else (none)) else (some true)
def bf.f (k : Nat) (l0 : List Int) (l1 : List Int) : Option (Bool) := if (l0.length : Int) = (l1.length : Int) then (bf.l0 k l0 l1 (l0.length : Int) 0) else (some false)
theorem bf.vP : ∀ k, (∀ y0 y1 y2 y3, iI (bf.l0 k y0 y1 y2 y3) (bf.l0 (k + 1) y0 y1 y2 y3))
 | 0 => fun _ _ _ _ r h => by simp [bf.l0] at h
 | k + 1 => by
  have BF := bf.vP k
  ·intro y0 y1 y2 y3
   unfold bf.l0
   repeat' first | (with_reducible exact BF _ _ _ _) | (with_reducible exact iI.refl _) | (with_reducible refine iI.ite ?_ ?_)
theorem bf.mono : ∀ a0 a1 k, iI (bf.f k a0 a1) (bf.f (k + 1) a0 a1) := by
 intro a0 a1 k
 have BF := bf.vP k
 unfold bf.f
 repeat' first | (with_reducible exact BF _ _ _ _) | (with_reducible exact iI.refl _) | (with_reducible refine iI.ite ?_ ?_)
theorem bf.calls (k : Nat) (A0 : Option Addr) (c0 : Nat) (l0 : List Int) (A1 : Option Addr) (c1 : Nat) (l1 : List Int) (r : Bool) (w : World) (hr0 : Kd.C (Kd.int .i64) w A0 l0.length l0) (hc0 : l0.length ≤ c0) (hr1 : Kd.C (Kd.int .i64) w A1 l1.length l1) (hc1 : l1.length ≤ c1) (h : bf.f k l0 l1 = some r) :
  Calls Try.prog 51 #[.slice A0 l0.length c0, .slice A1 l1.length c1] w fun e w' => e = .returned (.bool r) ∧ jK w w' := by
 have HR0 := ae.mk hr0
 clear hr0 hc0
 have HR1 := ae.mk hr1
 clear hr1 hc1
 have H : (if (l0.length : Int) = (l1.length : Int) then (bf.l0 k l0 l1 (l0.length : Int) 0) else (some false)) = some r := h
 clear h
 by_cases c3 : (l0.length : Int) = (l1.length : Int)
 ·rw [if_pos c3] at H
  have nY : ((l0.length : Int) == (l1.length : Int)) = true := beq_iff_eq.mpr c3
  have ug : ((l0.length : Int) != (l1.length : Int)) = false := bne_eq_false_iff_eq.mpr c3
  have aab : (l0.length == l1.length) = true := by (simp at c3 ⊢; omega)
  clear c3
  have H' := ae.mk H
  clear H
  go_enter Try.func51, Try.ntmps51
  go_wp2
  go_loopg [13] k (fun kq v13 w' => ∃ (iF : Int), v13 = .int .i64 iF ∧ ae (bf.l0 kq l0 l1 (l0.length : Int) iF = some r) ∧ ae (kq ≤ k) ∧ jK w w')
  case atStart => exact ⟨(0), (by rfl), H', ⟨Nat.le_refl _⟩, by repeat (exact jK.refl _)⟩
  case round =>
   clear H'
   clear nY ug aab
   obtain ⟨iF, rfl, HA, lD, ⟨m1, rfl⟩⟩ := hrel
   cases gk with
   | zero => exact absurd HA.out (by simp [bf.l0])
   | succ k1 =>
    have H := HA.out
    clear HA
    simp only [bf.l0] at H
    by_cases c4 : iF < (l0.length : Int)
    ·rw [if_pos c4] at H
     have wK : decide (iF < (l0.length : Int)) = true := decide_eq_true c4
     clear c4
     by_cases c5 : 0 ≤ iF
     ·rw [if_pos c5] at H
      have zN : decide (0 ≤ iF) = true := decide_eq_true c5
      clear c5
      by_cases c6 : iF < (l0.length : Int)
      ·rw [if_pos c6] at H
       have uh : decide (iF < (l0.length : Int)) = true := decide_eq_true c6
       clear c6
       by_cases c7 : iF < (l1.length : Int)
       ·rw [if_pos c7] at H
        have qH : decide (iF < (l1.length : Int)) = true := decide_eq_true c7
        clear c7
        by_cases c8 : (rd l0 iF) = (rd l1 iF)
        ·rw [if_pos c8] at H
         have uQ : ((rd l0 iF) == (rd l1 iF)) = true := beq_iff_eq.mpr c8
         have aac : ((rd l0 iF) != (rd l1 iF)) = false := bne_eq_false_iff_eq.mpr c8
         clear c8
         have H' := ae.mk H
         clear H
         have D5 : 0 ≤ (iF : Int) := of_decide_eq_true (by (with_reducible assumption))
         have D9 : iF < (l0.length : Int) := of_decide_eq_true (by (with_reducible assumption))
         obtain ⟨ac9, TN, Yl⟩ := Kd.iE HR0.out iF D5 D9
         cases TN
         replace D5 := eq_true D5
         replace D9 := eq_true D9
         have D6 : 0 ≤ (iF : Int) := of_decide_eq_true (by (with_reducible assumption))
         have D_ : iF < (l1.length : Int) := of_decide_eq_true (by (with_reducible assumption))
         obtain ⟨ac_, TP, Ym⟩ := Kd.iE HR1.out iF D6 D_
         cases TP
         replace D6 := eq_true D6
         replace D_ := eq_true D_
         go_wp2
         repeat (go_quiet (fail); try go_wp2)
         go_roundg k1
         case measure => have := lD.out; omega
         case rel => exact ⟨(wrap64 (iF + 1)), (by rfl), H', ⟨by have := lD.out; omega⟩, by repeat (first | exact jK.refl _ | apply jK.step)⟩
        ·rw [if_neg c8] at H
         have uQ : ((rd l0 iF) == (rd l1 iF)) = false := beq_eq_false_iff_ne.mpr c8
         have aac : ((rd l0 iF) != (rd l1 iF)) = true := bne_iff_ne.mpr c8
         obtain rfl := Option.some.inj H
         have D5 : 0 ≤ (iF : Int) := of_decide_eq_true (by (with_reducible assumption))
         have D9 : iF < (l0.length : Int) := of_decide_eq_true (by (with_reducible assumption))
         obtain ⟨ac9, TN, Yl⟩ := Kd.iE HR0.out iF D5 D9
         cases TN
         replace D5 := eq_true D5
         replace D9 := eq_true D9
         have D6 : 0 ≤ (iF : Int) := of_decide_eq_true (by (with_reducible assumption))
         have D_ : iF < (l1.length : Int) := of_decide_eq_true (by (with_reducible assumption))
         obtain ⟨ac_, TP, Ym⟩ := Kd.iE HR1.out iF D6 D_
         cases TP
         replace D6 := eq_true D6
         replace D_ := eq_true D_
         go_wp2
         repeat (go_quiet (fail); try go_wp2)
         go_ret
         exact ⟨by rfl, by repeat (first | exact jK.refl _ | apply jK.step)⟩
       ·rw [if_neg c7] at H
        exact absurd H (by simp)
      ·rw [if_neg c6] at H
       exact absurd H (by simp)
     ·rw [if_neg c5] at H
      exact absurd H (by simp)
    ·rw [if_neg c4] at H
     have wK : decide (iF < (l0.length : Int)) = false := decide_eq_false c4
     clear c4
     obtain rfl := Option.some.inj H
     go_wp2
     go_ret
     exact ⟨by rfl, by repeat (first | exact jK.refl _ | apply jK.step)⟩
 ·rw [if_neg c3] at H
  have nY : ((l0.length : Int) == (l1.length : Int)) = false := beq_eq_false_iff_ne.mpr c3
  have ug : ((l0.length : Int) != (l1.length : Int)) = true := bne_iff_ne.mpr c3
  have aab : (l0.length == l1.length) = false := by (simp at c3 ⊢; omega)
  obtain rfl := Option.some.inj H
  go_enter Try.func51, Try.ntmps51
  go_wp2
  go_ret
  exact ⟨by rfl, by repeat (exact jK.refl _)⟩
def VX.f (k : Nat)  : Option (Bool) := (aX.f k 5 (([0, 0, 0] : List Int))).bind fun VD => ((aX.f k (-5) (([1, 9, 2] : List Int))).bind fun VE => (if VD.2 = true then ((bf.f k VD.1 (([2, 2, 1] : List Int))).bind fun afn => (if afn = true then (if VE.2 = true then ((bf.f k VE.1 (([(-1), (-2), (-2)] : List Int))).bind fun afo => (some afo)) else (some false)) else (some false))) else (some false)))
end Go.Proofs.Ytfdmfgaiblfbhaa.P
namespace Go.Proofs.Ytfdmfgaiblfbhaa.P
open Go.RowKit Go.Proofs.ag.aV Go.Proofs.ag.bM Go.Proofs.ag.di
def mX (left : Int) (p : Int × Int) : Int × (Int × Int) := if left > 0 then (left - 1, (p.1, p.2 + 1)) else if left < 0 ∧ p.1 + p.2 > 0 then (left + 1, (p.1, p.2 - 1)) else (left, p)
def jh : Int → List (Int × Int) → Int × List (Int × Int)
 | l, [] => (l, [])
 | l, p :: ps => ((jh (mX l p).1 ps).1, (mX l p).2 :: (jh (mX l p).1 ps).2)
def kJ : Nat → Int → List (Int × Int) → Option (List Int × Bool)
 | 0, _, _ => none
 | k + 1, l, ps => if l = 0 then some (ps.map Prod.snd, true) else if (jh l ps).1 = l then some ([], false) else kJ k (jh l ps).1 (jh l ps).2
def lu.f (k : Nat) (a0 : Int) (l1 : List Int) : Option (List Int × Bool) :=
 if -100000 ≤ a0 ∧ a0 ≤ 100000 ∧ l1.length ≤ 100000 then
  if l1 = [] then some ([], false)
  else if ∀ g, g ∈ l1 → 0 ≤ g ∧ g ≤ 2147483647 then kJ k a0 (l1.map fun g => (g, 0)) else some ([], false)
 else none
def RB (l : Int) (ps : List (Int × Int)) : Prop := ∀ p, p ∈ ps → 0 ≤ p.1 ∧ p.1 ≤ 2147483647 ∧ p.2 + l ≤ 100000 ∧ p.2 - l ≤ 100000 ∧ -100000 ≤ p.2 + l ∧ -100000 ≤ p.2 - l
theorem xX (l : Int) (p : Int × Int) : (¬ 0 < l ∧ ¬ (l < 0 ∧ 0 < p.1 + p.2) ∧ mX l p = (l, p)) ∨ (0 < l ∧ (mX l p) = (l - 1, (p.1, p.2 + 1))) ∨ (l < 0 ∧ 0 < p.1 + p.2 ∧ (mX l p) = (l + 1, (p.1, p.2 - 1))) := by
 unfold mX
 split
 ·rename_i h; exact .inr (.inl ⟨h, rfl⟩)
 ·rename_i h0
  split
  ·rename_i h; exact .inr (.inr ⟨h.1, h.2, rfl⟩)
  ·rename_i h; exact .inl ⟨h0, h, rfl⟩
theorem Ru {α : Type} (f : α → Int) (pre : List α) (p : α) (rest : List α) : rd ((pre ++ p :: rest).map f) (pre.length : Int) = f p := by
 simp [rd, List.getD_eq_getElem?_getD]
theorem set_mid {α β : Type} (f : α → β) (pre : List α) (p : α) (rest : List α) (q : α) : ((pre ++ p :: rest).map f).set pre.length (f q) = ((pre ++ [q]) ++ rest).map f := by
 simp
theorem wZ {M M' L : Int} {p p' : Int × Int} {pre rest ps : List (Int × Int)} {l1 : List Int} (e : mX M p = (M', p')) (HF : (pre ++ p :: rest).map Prod.fst = l1) (HB : RB M (pre ++ p :: rest)) (HD : -100000 ≤ M ∧ M ≤ 100000)
  (HE : (jh L ps).1 = (jh M (p :: rest)).1 ∧ (jh L ps).2 = pre ++ (jh M (p :: rest)).2) :
  ((pre ++ [p']) ++ rest).map Prod.fst = l1 ∧ RB M' ((pre ++ [p']) ++ rest) ∧ (-100000 ≤ M' ∧ M' ≤ 100000) ∧ ((jh L ps).1 = (jh M' rest).1 ∧ (jh L ps).2 = (pre ++ [p']) ++ (jh M' rest).2) := by
 have hp : p'.1 = p.1 := by
  rcases xX M p with ⟨_, _, h⟩ | ⟨_, h⟩ | ⟨_, _, h⟩ <;> rw [e] at h <;> injection h with h1 h2 <;> rw [h2]
 have hb := HB p (by simp)
 refine ⟨?_, ?_, ?_, ?_, ?_⟩
 ·rw [← HF]; simp [hp]
 ·have key : ∀ q, q ∈ pre ++ p :: rest → 0 ≤ q.1 ∧ q.1 ≤ 2147483647 ∧ q.2 + M' ≤ 100000 ∧ q.2 - M' ≤ 100000 ∧ -100000 ≤ q.2 + M' ∧ -100000 ≤ q.2 - M' := fun q hq => by
   have h := HB q hq
   rcases xX M p with ⟨_, _, h'⟩ | ⟨_, h'⟩ | ⟨_, _, h'⟩ <;> rw [e] at h' <;> injection h' with h1 h2 <;> omega
  intro q hq
  simp only [List.append_assoc, List.mem_append, List.mem_cons, List.not_mem_nil, or_false] at hq
  rcases hq with hq | rfl | hq
  ·exact key q (by simp [hq])
  ·rcases xX M p with ⟨_, _, h'⟩ | ⟨_, h'⟩ | ⟨_, _, h'⟩ <;> rw [e] at h' <;> injection h' with h1 h2 <;> subst h1 h2 <;> (try simp only) <;> omega
  ·exact key q (by simp [hq])
 ·rcases xX M p with ⟨_, _, h'⟩ | ⟨_, h'⟩ | ⟨_, _, h'⟩ <;> rw [e] at h' <;> injection h' with h1 h2 <;> omega
 ·rw [HE.1]; simp only [jh, e]
 ·rw [HE.2]; simp only [jh, e, List.append_assoc, List.cons_append, List.nil_append]
theorem lu.calls (k : Nat) (a0 : Int) (A1 : Option Addr) (c1 : Nat) (l1 : List Int) (r1 : List Int) (r2 : Bool) (w : World) (hr1 : Kd.C (Kd.int .i64) w A1 l1.length l1) (hc1 : l1.length ≤ c1) (h : lu.f k a0 l1 = some (r1, r2)) :
  Calls Try.prog 50 #[.int .i64 a0, .slice A1 l1.length c1] w fun e w' => ∃ nU : Value, e = .returned (.tuple #[nU, .bool r2]) ∧ Kd.R (Kd.int .i64) 3 w' w.heap.size (fun _ => True) nU r1 ∧ Below w.heap.size w w' := by
 unfold lu.f at h
 split at h
 ·rename_i hd
  obtain ⟨hd1, hd2, hd3⟩ := hd
  have hmk := ER (P := Try.prog) 41 3 .i64 8 Try.underlying41 info3 (by decide) l1.length (by omega)
  have hs := J6 w w.heap.size 3 .i64 l1.length (Nat.le_refl _) (by omega)
  have HS := ae.mk hs
  have HR := ae.mk hr1
  clear hs hr1 hc1
  split at h
  ·rename_i he
   injection h with h
   injection h with h1 h2
   subst h1 h2
   have hn0 : ((l1.length : Int) == 0) = true := by simp [he]
   have HE := ae.mk he
   clear he
   go_enter Try.func50, Try.ntmps50
   go_wp2
   go_ret2
   refine ⟨_, rfl, Kd.uJ (enc := Value.int .i64) (h1 := fun _ => rfl) ?_ (fun _ _ => trivial), gq (Below.refl _ _) _⟩
   have h := HS.out
   rw [HE.out] at h ⊢
   exact h
  ·rename_i hne
   have hpos : 0 < l1.length := List.length_pos_iff.2 hne
   have hn0 : ((l1.length : Int) == 0) = false := by simp; omega
   have H := ae.mk h
   clear h
   go_enter Try.func50, Try.ntmps50
   go_wp2
   clear hmk hne hn0
   have HR2 := ae.mk (Kd.jH HR.out (gq (Below.refl w.heap.size w) (Obj.cells (madeCells #[Value.int IntKind.i64 0] l1.length) 3)))
   go_loop [21] (fun v21 => ∃ i : Nat, i ≤ l1.length ∧ v21 = .int .i64 i ∧ ae (∀ j, j < i → 0 ≤ rd l1 (j : Int) ∧ rd l1 (j : Int) ≤ 2147483647)) (fun v21 => l1.length - (intOf v21).toNat)
   case atStart => exact ⟨0, by omega, rfl, ⟨fun j hj => absurd hj (by omega)⟩⟩
   case round =>
    obtain ⟨i, hi, rfl, HI⟩ := hrel
    by_cases hlt : i < l1.length
    ·have hlt' : (i : Int) < (l1.length : Int) := by omega
     obtain ⟨ad, rfl, hc⟩ := Kd.iE HR2.out (i : Int) (by omega) (by omega)
     simp only [Int.toNat_natCast] at hc
     have hmem : rd l1 (i : Int) ∈ l1 := by
      simp only [rd, Int.toNat_natCast, List.getD_eq_getElem?_getD, List.getElem?_eq_getElem hlt, Option.getD_some]
      exact List.getElem_mem hlt
     generalize hx : rd l1 (i : Int) = x at hc hmem
     by_cases hx0 : x < 0 ∨ 2147483647 < x
     ·have hbad : ¬ ∀ g, g ∈ l1 → 0 ≤ g ∧ g ≤ 2147483647 := fun hall => by have := hall x hmem; omega
      have h := H.out
      rw [if_neg hbad] at h
      injection h with h
      injection h with h1 h2
      subst h1 h2
      clear hbad hmem
      by_cases hx1 : x < 0
      all_goals
       go_wp2
       go_ret2
       have ho := MR (w.alloc (Obj.cells (madeCells #[Value.int IntKind.i64 0] l1.length) 3)) w.heap.size 3 .i64 [] (by simp) (by simp)
       simp only [World.size_alloc, nums, List.map_nil] at ho
       exact ⟨_, rfl, Kd.uJ (enc := Value.int .i64) (h1 := fun _ => rfl) ho (fun _ _ => trivial), gq (gq (Below.refl _ _) _) _⟩
     ·have hx1 : 0 ≤ x := by omega
      have hx2 : x ≤ 2147483647 := by omega
      clear hx0 hmem
      have HX := ae.mk hx
      clear hx
      go_wp2
      go_round
      case rel =>
       refine ⟨i + 1, by omega, by go_num, ⟨fun j hj => ?_⟩⟩
       by_cases e : j = i
       ·subst e; rw [HX.out]; exact ⟨hx1, hx2⟩
       ·exact HI.out j (by omega)
      case measure => simp [intOf]; omega
    ·obtain rfl : i = l1.length := by omega
     have hall : ∀ g, g ∈ l1 → 0 ≤ g ∧ g ≤ 2147483647 := fun g hg => by
      obtain ⟨j, hj, rfl⟩ := List.getElem_of_mem hg
      have := HI.out j hj
      simp only [rd, Int.toNat_natCast, List.getD_eq_getElem?_getD, List.getElem?_eq_getElem hj, Option.getD_some] at this
      exact this
     have h := H.out
     rw [if_pos hall] at h
     have HA := ae.mk hall
     have HL := ae.mk h
     clear HI hall h H
     go_wp2
     clear HR2
     go_loopg [7] k (fun gk v7 wr => ∃ (L : Int) (ps : List (Int × Int)), v7 = .int .i64 L ∧ ae (kJ gk L ps = some (r1, r2)) ∧ ae (ps.map Prod.fst = l1) ∧ ae (RB L ps) ∧ ae (-100000 ≤ L ∧ L ≤ 100000) ∧ ae (wr.ownsRow w.heap.size 3 1 (.slice (some ⟨w.heap.size, 0, none⟩) l1.length l1.length) l1.length (nums .i64 (ps.map Prod.snd))) ∧ ae (Below w.heap.size w wr))
     case atStart =>
      refine ⟨a0, l1.map fun g => (g, 0), rfl, HL, ⟨by simp [List.map_map, Function.comp_def]⟩, ⟨?_⟩, ⟨hd1, hd2⟩, ⟨?_⟩, ⟨gq (Below.refl _ _) _⟩⟩
      ·intro p hp
       obtain ⟨g, hg, rfl⟩ := List.mem_map.1 hp
       have := HA.out g hg
       simp only
       omega
      ·have h := HS.out
       rw [show (l1.map fun g => (g, (0 : Int))).map Prod.snd = List.replicate l1.length 0 by simp [List.map_map, Function.comp_def, List.map_const']]
       exact h
     case round =>
      clear HL HA HS
      obtain ⟨L, ps, rfl, HL, HF, HB, HD, HO, wH⟩ := hrel
      cases gk with
      | zero => exact absurd HL.out (by simp [kJ])
      | succ kk =>
       have h := HL.out
       clear HL
       simp only [kJ] at h
       by_cases hL : L = 0
       ·rw [if_pos hL] at h
        injection h with h
        injection h with h1 h2
        subst h1 h2 hL
        go_wp2
        go_ret2
        refine ⟨_, rfl, Kd.uJ (enc := Value.int .i64) (h1 := fun _ => rfl) ?_ (fun _ _ => trivial), wH.out⟩
        have e : ps.length = l1.length := by rw [← HF.out]; simp
        rw [List.length_map, e]
        exact HO.out
       ·rw [if_neg hL] at h
        have H2 := ae.mk h
        clear h
        have hne0 : (L != 0) = true := by simpa using hL
        have hne1 : (L == 0) = false := by simpa using hL
        clear hL
        go_wp2
        clear hne0
        obtain ⟨wo, rfl⟩ : ∃ wo : World, wo = wr := ⟨_, rfl⟩
        go_loopg [7, 50] l1.length (fun g v7 v50 w2 => ∃ (M : Int) (pre rest : List (Int × Int)), v7 = .int .i64 M ∧ v50 = .int .i64 (pre.length : Nat) ∧ ae (rest.length ≤ g) ∧ ae ((pre ++ rest).map Prod.fst = l1) ∧ ae (RB M (pre ++ rest)) ∧ ae (-100000 ≤ M ∧ M ≤ 100000) ∧ ae ((jh L ps).1 = (jh M rest).1 ∧ (jh L ps).2 = pre ++ (jh M rest).2) ∧ ae (w2.ownsRow w.heap.size 3 1 (.slice (some ⟨w.heap.size, 0, none⟩) l1.length l1.length) l1.length (nums .i64 ((pre ++ rest).map Prod.snd))) ∧ ae (Below w.heap.size w w2))
        case atStart =>
         refine ⟨L, [], ps, rfl, rfl, ⟨?_⟩, HF, HB, HD, ⟨rfl, rfl⟩, HO, wH⟩
         have : ps.length = l1.length := by rw [← HF.out]; simp
         omega
        case round =>
         clear HO wH HB HD HF
         obtain ⟨M, pre, rest, rfl, rfl, HG, HF, HB, HD, HE, HO, wH⟩ := hrel
         cases rest with
         | nil =>
          have hlen : pre.length = l1.length := by rw [← HF.out]; simp
          have hnl : ¬ (pre.length : Int) < (l1.length : Int) := by omega
          clear hlen
          simp only [List.append_nil, jh] at HF HB HE HO
          by_cases LU : M = L
          ·have afb : (M == L) = true := by simpa using LU
           have h := H2.out
           rw [if_pos (by rw [HE.out.1]; exact LU)] at h
           injection h with h
           injection h with h1 h2
           subst h1 h2
           clear LU
           go_wp2
           go_ret2
           have ho := MR wr w.heap.size 3 .i64 [] wH.out.size (by simp)
           simp only [nums, List.map_nil] at ho
           exact ⟨_, rfl, Kd.uJ (enc := Value.int .i64) (h1 := fun _ => rfl) ho (fun _ _ => trivial), gq wH.out _⟩
          ·have afb : (M == L) = false := by simpa using LU
           have h := H2.out
           rw [if_neg (by rw [HE.out.1]; exact LU), HE.out.1, HE.out.2] at h
           have H3 := ae.mk h
           clear h LU H2
           go_wp2
           go_roundg kk
           case measure => omega
           case rel => exact ⟨M, pre, rfl, H3, HF, HB, HD, HO, wH⟩
         | cons p rest =>
          have hlen : pre.length + (rest.length + 1) = l1.length := by rw [← HF.out]; simp
          have hlt : (pre.length : Int) < (l1.length : Int) := by omega
          have HR2 := Kd.jH HR.out wH.out
          obtain ⟨ad, rfl, hc⟩ := Kd.iE HR2 (pre.length : Int) (by omega) (by omega)
          simp only [Int.toNat_natCast] at hc
          rw [show rd l1 (pre.length : Int) = p.1 by rw [← HF.out]; exact Ru Prod.fst pre p rest] at hc
          obtain ⟨hc2, hf2⟩ := Rk HO.out (pre.length : Int) (by omega) (by omega)
          simp only [Int.toNat_natCast] at hc2 hf2
          rw [show rd ((pre ++ p :: rest).map Prod.snd) (pre.length : Int) = p.2 from Ru Prod.snd pre p rest] at hc2
          have hpb := HB.out p (by simp)
          obtain ⟨b1, b2, b3, b4, b5, b6⟩ := hpb
          clear HR2 hlen
          obtain ⟨d1, d2⟩ := HD.out
          have s1 := fun x => (yF HO.out (pre.length : Int) x).1
          simp only [Int.toNat_natCast] at s1
          have S1 := ae.mk s1
          clear s1
          rcases xX M p with ⟨h1, h2, e⟩ | ⟨hM, e⟩ | ⟨hM, hg, e⟩
          ·have HE2 := ae.mk e
           clear e
           by_cases h3 : M < 0
           ·have hs : ¬ 0 < p.1 + p.2 := fun hh => h2 ⟨h3, hh⟩
            clear h2
            go_wp2
            go_quiet (fail)
            go_wp2
            go_roundg rest.length
            case measure => have := HG.out; simp at this; omega
            case rel =>
             obtain ⟨n1, n2, n3, n4⟩ := wZ HE2.out HF.out HB.out HD.out HE.out
             exact ⟨M, pre ++ [p], rest, rfl, by simp, ⟨by omega⟩, ⟨n1⟩, ⟨n2⟩, ⟨n3⟩, ⟨n4⟩, ⟨by rw [List.append_assoc]; exact HO.out⟩, ⟨dP wH.out _⟩⟩
           ·clear h2
            have h4 : decide (M < 0) = false := by simp; omega
            go_wp2
            go_quiet (fail)
            go_wp2
            go_roundg rest.length
            case measure => have := HG.out; simp at this; omega
            case rel =>
             obtain ⟨n1, n2, n3, n4⟩ := wZ HE2.out HF.out HB.out HD.out HE.out
             exact ⟨M, pre ++ [p], rest, rfl, by simp, ⟨by omega⟩, ⟨n1⟩, ⟨n2⟩, ⟨n3⟩, ⟨n4⟩, ⟨by rw [List.append_assoc]; exact HO.out⟩, ⟨dP wH.out _⟩⟩
          ·have HE2 := ae.mk e
           clear e
           have hz2 : decide (M - 1 < 0) = false := by simp; omega
           go_wp2
           go_quiet (fail)
           go_wp2
           go_roundg rest.length
           case measure => have := HG.out; simp at this; omega
           case rel =>
            obtain ⟨n1, n2, n3, n4⟩ := wZ HE2.out HF.out HB.out HD.out HE.out
            exact ⟨M - 1, pre ++ [(p.1, p.2 + 1)], rest, rfl, by simp, ⟨by omega⟩, ⟨n1⟩, ⟨n2⟩, ⟨n3⟩, ⟨n4⟩, ⟨by rw [← set_mid Prod.snd pre p rest (p.1, p.2 + 1)]; exact S1.out (p.2 + 1)⟩, ⟨dP (lL wH.out (Nat.le_refl _)) _⟩⟩
          ·have HE2 := ae.mk e
           clear e
           go_wp2
           go_quiet (fail)
           go_wp2
           go_roundg rest.length
           case measure => have := HG.out; simp at this; omega
           case rel =>
            obtain ⟨n1, n2, n3, n4⟩ := wZ HE2.out HF.out HB.out HD.out HE.out
            exact ⟨M + 1, pre ++ [(p.1, p.2 - 1)], rest, rfl, by simp, ⟨by omega⟩, ⟨n1⟩, ⟨n2⟩, ⟨n3⟩, ⟨n4⟩, ⟨by rw [← set_mid Prod.snd pre p rest (p.1, p.2 - 1)]; exact S1.out (p.2 - 1)⟩, ⟨lL (dP wH.out _) (Nat.le_refl _)⟩⟩
 ·exact absurd h (by simp)
theorem wp {x : Int} (h0 : -9223372036854775808 ≤ x) (h1 : x ≤ 9223372036854775807) : wrap64 x = x := by unfold wrap64; omega
def jL (m : Int) : Int → List (Int × Int) → Int × List (Int × Int)
 | b, [] => (b, [])
 | b, p :: ps => if p.1 + p.2 > 0 then (if b > 0 then ((jL m (b - mn m b) ps).1, (p.1, p.2 - mn m b) :: (jL m (b - mn m b) ps).2) else ((jL m b ps).1, p :: (jL m b ps).2)) else ((jL m b ps).1, p :: (jL m b ps).2)
def able : List (Int × Int) → Int
 | [] => 0
 | p :: ps => (if p.1 + p.2 > 0 then 1 else 0) + able ps
def lst : Int → List (Int × Int) → Int
 | m, [] => m
 | m, p :: ps => lst (if p.1 + p.2 > 0 then mn m (p.1 + p.2) else m) ps
def pg : List (Int × Int) → Int
 | [] => 0
 | p :: ps => (p.1 + p.2) + pg ps
def outs : List (Int × Int) → Int
 | [] => 0
 | p :: ps => p.2 + outs ps
def Good (ps : List (Int × Int)) : Prop := ∀ p, p ∈ ps → 0 ≤ p.1 ∧ p.1 ≤ 2147483647 ∧ -p.1 ≤ p.2 ∧ p.2 ≤ 0
def lZ (m : Int) (ps : List (Int × Int)) : List (Int × Int) := ps.map fun p => (p.1, p.2 - if p.1 + p.2 > 0 then m else 0)
def Cf (ps : List (Int × Int)) : Prop := ∀ p, p ∈ ps → ∀ q, q ∈ ps → p.2 > q.2 → p.1 + p.2 = 0
def Ih (ps : List (Int × Int)) : Prop := ∀ p, p ∈ ps → ∀ q, q ∈ ps → p.2 > q.2 + 1 → p.2 = -p.1
theorem Good.tail {p : Int × Int} {ps : List (Int × Int)} (h : Good (p :: ps)) : Good ps := fun q hq => h q (List.mem_cons_of_mem _ hq)
theorem Good.head {p : Int × Int} {ps : List (Int × Int)} (h : Good (p :: ps)) : 0 ≤ p.1 ∧ p.1 ≤ 2147483647 ∧ -p.1 ≤ p.2 ∧ p.2 ≤ 0 := h p List.mem_cons_self
theorem tZ (ps : List (Int × Int)) : 0 ≤ able ps ∧ able ps ≤ ps.length := by
 induction ps with
 | nil => simp [able]
 | cons p ps ih => simp only [able, List.length_cons]; split <;> omega
theorem SX {ps : List (Int × Int)} (hg : Good ps) (h : 0 < pg ps) : 0 < able ps := by
 induction ps with
 | nil => simp [pg] at h
 | cons p ps ih =>
  have hr := tZ ps
  simp only [pg] at h
  simp only [able]
  split
  ·omega
  ·rename_i hp
   have := ih hg.tail (by omega)
   omega
theorem Q3 (ps : List (Int × Int)) : ∀ m, lst m ps ≤ m := by
 induction ps with
 | nil => intro m; simp [lst]
 | cons p ps ih =>
  intro m
  simp only [lst]
  have h1 := ih (if p.1 + p.2 > 0 then mn m (p.1 + p.2) else m)
  have h2 : (if p.1 + p.2 > 0 then mn m (p.1 + p.2) else m) ≤ m := by
   split
   ·unfold mn; split <;> omega
   ·exact Int.le_refl _
  omega
theorem Yu (ps : List (Int × Int)) : ∀ m, ∀ p, p ∈ ps → p.1 + p.2 > 0 → lst m ps ≤ p.1 + p.2 := by
 induction ps with
 | nil => intro m p hp; cases hp
 | cons q ps ih =>
  intro m p hp h
  simp only [lst]
  rcases List.mem_cons.1 hp with rfl | hp
  ·rw [if_pos h]
   have h1 := Q3 ps (mn m (p.1 + p.2))
   have h2 : mn m (p.1 + p.2) ≤ p.1 + p.2 := by unfold mn; split <;> omega
   omega
  ·exact ih _ p hp h
theorem Yv (ps : List (Int × Int)) : ∀ m, 0 < m → 0 < lst m ps := by
 induction ps with
 | nil => intro m h; simpa [lst] using h
 | cons q ps ih =>
  intro m h
  simp only [lst]
  apply ih
  unfold mn
  split
  ·split <;> omega
  ·exact h
theorem zK {m : Int} (hm : 0 < m) : ∀ (ps : List (Int × Int)) (b : Int), m * able ps ≤ b → jL m b ps = (b - m * able ps, lZ m ps) := by
 intro ps
 induction ps with
 | nil => intro b _; simp [jL, able, lZ]
 | cons p ps ih =>
  intro b hb
  have hr := tZ ps
  have hmn : 0 ≤ m * able ps := Int.mul_nonneg (by omega) hr.1
  simp only [able] at hb ⊢
  by_cases hp : p.1 + p.2 > 0
  ·simp only [if_pos hp] at hb ⊢
   rw [Int.mul_add, Int.mul_one] at hb ⊢
   have h1 : mn m b = m := by unfold mn; split <;> omega
   have h2 := ih (b - m) (by omega)
   simp only [jL]
   rw [if_pos hp, if_pos (by omega), h1, h2]
   simp only [lZ, List.map_cons, if_pos hp, Prod.mk.injEq, and_true]
   omega
  ·simp only [if_neg hp] at hb ⊢
   rw [Int.zero_add] at hb ⊢
   simp only [jL]
   rw [if_neg hp, ih b hb]
   simp only [lZ, List.map_cons, if_neg hp, Int.sub_zero]
theorem Tn : ∀ (ps : List (Int × Int)) (b : Int), 0 ≤ b → b ≤ able ps → (jL 1 b ps).1 = 0 := by
 intro ps
 induction ps with
 | nil => intro b h0 h; simp only [able] at h; simp only [jL]; omega
 | cons p ps ih =>
  intro b h0 h
  simp only [able] at h
  simp only [jL]
  by_cases hp : p.1 + p.2 > 0
  ·rw [if_pos hp] at h ⊢
   by_cases hb : b > 0
   ·rw [if_pos hb]
    have h1 : mn 1 b = 1 := by unfold mn; split <;> omega
    rw [h1]
    exact ih (b - 1) (by omega) (by omega)
   ·rw [if_neg hb]
    exact ih b h0 (by have := tZ ps; omega)
  ·rw [if_neg hp] at h ⊢
   exact ih b h0 (by omega)
theorem WG (m : Int) : ∀ (ps : List (Int × Int)) (b : Int), (jL m b ps).2.map Prod.fst = ps.map Prod.fst := by
 intro ps
 induction ps with
 | nil => intro b; simp [jL]
 | cons p ps ih =>
  intro b
  simp only [jL]
  split
  ·split <;> simp [ih]
  ·simp [ih]
theorem Fz : ∀ (ps : List (Int × Int)) (b : Int) (q : Int × Int), q ∈ (jL 1 b ps).2 → ∃ p, p ∈ ps ∧ q.1 = p.1 ∧ (q.2 = p.2 ∨ (p.1 + p.2 > 0 ∧ q.2 = p.2 - 1)) := by
 intro ps
 induction ps with
 | nil => intro b q hq; simp [jL] at hq
 | cons p ps ih =>
  intro b q hq
  simp only [jL] at hq
  have key : ∀ b' , q ∈ (jL 1 b' ps).2 → ∃ MS, MS ∈ p :: ps ∧ q.1 = MS.1 ∧ (q.2 = MS.2 ∨ (MS.1 + MS.2 > 0 ∧ q.2 = MS.2 - 1)) := fun b' h => by
   obtain ⟨p', h1, h2⟩ := ih b' q h
   exact ⟨p', List.mem_cons_of_mem _ h1, h2⟩
  split at hq
  ·rename_i hp
   split at hq
   ·rename_i hb
    simp only [List.mem_cons] at hq
    rcases hq with rfl | hq
    ·refine ⟨p, List.mem_cons_self, rfl, .inr ⟨hp, ?_⟩⟩
     have h1 : mn 1 b = 1 := by unfold mn; split <;> omega
     simp only [h1]
    ·exact key _ hq
   ·simp only [List.mem_cons] at hq
    rcases hq with rfl | hq
    ·exact ⟨_, List.mem_cons_self, rfl, .inl rfl⟩
    ·exact key _ hq
  ·simp only [List.mem_cons] at hq
   rcases hq with rfl | hq
   ·exact ⟨_, List.mem_cons_self, rfl, .inl rfl⟩
   ·exact key _ hq
theorem Jk (m : Int) : ∀ (ps : List (Int × Int)) (b : Int), outs (jL m b ps).2 - (jL m b ps).1 = outs ps - b := by
 intro ps
 induction ps with
 | nil => intro b; simp [jL]
 | cons p ps ih =>
  intro b
  simp only [jL]
  split
  ·split
   ·have := ih (b - mn m b); simp only [outs]; omega
   ·have := ih b; simp only [outs]; omega
  ·have := ih b; simp only [outs]; omega
theorem TJ (m : Int) (ps : List (Int × Int)) : (lZ m ps).map Prod.fst = ps.map Prod.fst := by simp [lZ, List.map_map, Function.comp_def]
theorem Hg {m : Int} {ps : List (Int × Int)} (hm : 0 ≤ m) (hg : Good ps) (hl : ∀ p, p ∈ ps → p.1 + p.2 > 0 → m ≤ p.1 + p.2) : Good (lZ m ps) := by
 intro q hq
 obtain ⟨p, hp, rfl⟩ := List.mem_map.1 hq
 have h1 := hg p hp
 have h2 := hl p hp
 simp only
 split <;> omega
theorem EI (m : Int) (ps : List (Int × Int)) : pg (lZ m ps) = pg ps - m * able ps := by
 induction ps with
 | nil => simp [lZ, pg, able]
 | cons p ps ih =>
  have e : lZ m (p :: ps) = (p.1, p.2 - if p.1 + p.2 > 0 then m else 0) :: lZ m ps := rfl
  rw [e]
  simp only [pg, able, ih]
  rw [Int.mul_add]
  split
  ·rw [Int.mul_one]; omega
  ·rw [Int.mul_zero]; omega
theorem P6 {m : Int} {ps : List (Int × Int)} (hg : Good ps) (he : Cf ps) (hm : 0 ≤ m) : Cf (lZ m ps) := by
 intro p' hp' q' hq' h
 obtain ⟨p, hp, rfl⟩ := List.mem_map.1 hp'
 obtain ⟨q, hq, rfl⟩ := List.mem_map.1 hq'
 have h1 := he p hp q hq
 have h2 := hg p hp
 have h3 := hg q hq
 simp only at h ⊢
 by_cases c1 : p.1 + p.2 > 0
 ·rw [if_pos c1] at h ⊢
  by_cases c2 : q.1 + q.2 > 0
  ·rw [if_pos c2] at h; omega
  ·rw [if_neg c2] at h; omega
 ·rw [if_neg c1] at h ⊢
  by_cases c2 : q.1 + q.2 > 0
  ·rw [if_pos c2] at h; omega
  ·rw [if_neg c2] at h; omega
theorem P7 {m : Int} {ps : List (Int × Int)} (hm : 0 < m) (hl : ∀ p, p ∈ ps → p.1 + p.2 > 0 → m + 1 ≤ p.1 + p.2) : lZ (m + 1) ps = lZ m (lZ 1 ps) ∧ able (lZ 1 ps) = able ps := by
 constructor
 ·simp only [lZ, List.map_map]
  apply List.map_congr_left
  intro p hp
  have := hl p hp
  simp only [Function.comp_def, Prod.mk.injEq, true_and]
  by_cases h : p.1 + p.2 > 0
  ·rw [if_pos h, if_pos h, if_pos (by omega)]; omega
  ·rw [if_neg h, if_neg h, if_neg (by omega)]; omega
 ·induction ps with
  | nil => rfl
  | cons p ps ih =>
   have e : lZ 1 (p :: ps) = (p.1, p.2 - if p.1 + p.2 > 0 then 1 else 0) :: lZ 1 ps := rfl
   rw [e]
   simp only [able]
   rw [ih fun q hq => hl q (List.mem_cons_of_mem _ hq)]
   have := hl p List.mem_cons_self
   by_cases h : p.1 + p.2 > 0
   ·rw [if_pos h, if_pos (by omega)]
   ·rw [if_neg h, if_neg (by omega)]
theorem Tj {ps : List (Int × Int)} {b : Int} (he : Cf ps) : Ih (jL 1 b ps).2 := by
 intro p' hp' q' hq' h
 obtain ⟨p, hp, e1, e2⟩ := Fz ps b p' hp'
 obtain ⟨q, hq, e3, e4⟩ := Fz ps b q' hq'
 have h1 := he p hp q hq
 omega
theorem aaJ {ps : List (Int × Int)} (he : Cf ps) : Ih ps := by
 intro p hp q hq h
 have := he p hp q hq
 omega
theorem Tm {ps : List (Int × Int)} {b : Int} (hg : Good ps) : Good (jL 1 b ps).2 := by
 intro p' hp'
 obtain ⟨p, hp, e1, e2⟩ := Fz ps b p' hp'
 have := hg p hp
 omega
theorem Ev.jD {α : Type} {c : Prop} [Decidable c] {g f : Nat → Option α} {r : α} (hc : c) (h : Ev g r) : Ev (fun k => if c then g k else f k) r := by simp only [if_pos hc]; exact h
theorem Ev.iY {α : Type} {c : Prop} [Decidable c] {g f : Nat → Option α} {r : α} (hc : ¬c) (h : Ev f r) : Ev (fun k => if c then g k else f k) r := by simp only [if_neg hc]; exact h
theorem ET {α : Type} (f : α → Int) (pre : List α) (p : α) (rest : List α) : rd ((pre ++ p :: rest).map f) (pre.length : Int) = f p := by
 simp [rd, List.getD_eq_getElem?_getD]
theorem Gp (pre : List Int) (p : Int) (rest : List Int) : rd (pre ++ p :: rest) (pre.length : Int) = p := by
 simp [rd, List.getD_eq_getElem?_getD]
theorem Yr (b : Int) (q : Int) (r : List Int) (hb0 : 0 < b) (hb1 : b ≤ 2147483647) : ∀ (rest pre : List (Int × Int)) (A L : Int), Good (pre ++ rest) → (pre ++ rest).length ≤ 100000 → 0 ≤ A → A ≤ pre.length →
  A + able rest ≠ 0 → q = mx 1 (mn (lst L rest) (b / (A + able rest))) →
  Ev (fun k => aT.l2 k b ((pre ++ rest).map Prod.fst) ((pre ++ rest).map Prod.snd) q ((pre ++ rest).map Prod.fst) ((pre ++ rest).length : Int) 0) r →
  Ev (fun k => aT.l1 k b ((pre ++ rest).map Prod.fst) ((pre ++ rest).map Prod.snd) A L ((pre ++ rest).map Prod.fst) ((pre ++ rest).length : Int) (pre.length : Int)) r := by
 intro rest
 induction rest with
 | nil =>
  intro pre A L hg hl h0 h1 hne hq h
  refine Ev.step (f := fun k => aT.l2 k b ((pre ++ []).map Prod.fst) ((pre ++ []).map Prod.snd) q ((pre ++ []).map Prod.fst) ((pre ++ []).length : Int) 0) (fun k => ?_) h
  simp only [aT.l1]
  simp only [able, Int.add_zero, lst] at hne hq
  have hdiv : wrap64 (Int.tdiv b A) = b / A := by
   rw [Int.tdiv_eq_ediv_of_nonneg (by omega)]
   have h2 : 0 ≤ b / A := Int.ediv_nonneg (by omega) h0
   have h3 : b / A ≤ b := Int.ediv_le_self _ (by omega)
   exact wp (by omega) (by omega)
  rw [if_neg (by simp), if_neg hne, hdiv, ← hq]
  simp
 | cons p rest ih =>
  intro pre A L hg hl h0 h1 hne hq h
  have hp := hg p (by simp)
  have hlen : ((pre ++ p :: rest).length : Int) = pre.length + (rest.length + 1) := by simp
  have hl' : (pre.length : Int) + (rest.length + 1) ≤ 100000 := by omega
  have hw : wrap64 ((pre.length : Int) + 1) = ((pre ++ [p]).length : Int) := by rw [wp (by omega) (by omega)]; simp
  have e : pre ++ p :: rest = (pre ++ [p]) ++ rest := by simp
  have hsum : wrap64 (p.1 + p.2) = p.1 + p.2 := wp (by omega) (by omega)
  refine Ev.step (f := fun k => aT.l1 k b (((pre ++ [p]) ++ rest).map Prod.fst) (((pre ++ [p]) ++ rest).map Prod.snd) (A + if p.1 + p.2 > 0 then 1 else 0) (if p.1 + p.2 > 0 then mn L (p.1 + p.2) else L) (((pre ++ [p]) ++ rest).map Prod.fst) (((pre ++ [p]) ++ rest).length : Int) ((pre ++ [p]).length : Int)) (fun k => ?_) (ih (pre ++ [p]) _ _ (by rw [← e]; exact hg) (by rw [← e]; exact hl) (by split <;> omega) (by simp; split <;> omega) (by simp only [able] at hne; omega) (by simp only [able, lst] at hq; rw [hq, Int.add_assoc]) (by rw [← e]; exact h))
  simp only [aT.l1]
  rw [ET, ET, hsum, if_pos (by omega), if_pos (by omega), if_pos (by simp; omega), if_pos (by simp; omega), hw, ← e]
  by_cases hc : p.1 + p.2 > 0
  ·rw [if_pos hc, if_pos hc, if_pos hc, wp (by omega) (by omega)]
  ·rw [if_neg hc, if_neg hc, if_neg hc, Int.add_zero]
theorem Yt (m : Int) (r : List Int) (hm : 0 < m) : ∀ (rest pre : List (Int × Int)) (b : Int), 0 ≤ b → b ≤ 2147483647 → Good (pre ++ rest) → (∀ p, p ∈ rest → p.1 + p.2 > 0 → m ≤ p.1 + p.2) → (pre ++ rest).length ≤ 100000 →
  Ev (fun k => aT.l0 k (jL m b rest).1 ((pre ++ rest).map Prod.fst) ((pre ++ (jL m b rest).2).map Prod.snd)) r →
  Ev (fun k => aT.l2 k b ((pre ++ rest).map Prod.fst) ((pre ++ rest).map Prod.snd) m ((pre ++ rest).map Prod.fst) ((pre ++ rest).length : Int) (pre.length : Int)) r := by
 intro rest
 induction rest with
 | nil =>
  intro pre b h0 h1 hg hl hlen h
  simp only [jL] at h
  refine Ev.step (fun k => ?_) h
  simp only [aT.l2]
  rw [if_neg (by simp)]
 | cons p rest ih =>
  intro pre b h0 h1 hg hl hlen h
  have hp := hg p (by simp)
  have hlen' : ((pre ++ p :: rest).length : Int) = pre.length + (rest.length + 1) := by simp
  have hl' : (pre.length : Int) + (rest.length + 1) ≤ 100000 := by omega
  have hw : wrap64 ((pre.length : Int) + 1) = (pre.length : Int) + 1 := wp (by omega) (by omega)
  have hsum : wrap64 (p.1 + p.2) = p.1 + p.2 := wp (by omega) (by omega)
  have hmp := hl p (by simp)
  have hmn : 0 ≤ mn m b ∧ mn m b ≤ m ∧ mn m b ≤ b := by unfold mn; split <;> omega
  have step : ∀ (b' : Int) (p' : Int × Int), p'.1 = p.1 → -p'.1 ≤ p'.2 → p'.2 ≤ 0 → 0 ≤ b' → b' ≤ 2147483647 → jL m b (p :: rest) = ((jL m b' rest).1, p' :: (jL m b' rest).2) →
    Ev (fun k => aT.l2 k b' ((pre ++ p :: rest).map Prod.fst) ((pre ++ p' :: rest).map Prod.snd) m ((pre ++ p :: rest).map Prod.fst) ((pre ++ p :: rest).length : Int) ((pre.length : Int) + 1)) r := by
   intro b' p' e1 e2 e3 e4 e5 eb
   have f1 : (pre ++ p :: rest).map Prod.fst = ((pre ++ [p']) ++ rest).map Prod.fst := by simp [e1]
   have f2 : (pre ++ p' :: rest).map Prod.snd = ((pre ++ [p']) ++ rest).map Prod.snd := by simp
   have f3 : ((pre ++ p :: rest).length : Int) = (((pre ++ [p']) ++ rest).length : Int) := by simp
   have f4 : (pre.length : Int) + 1 = ((pre ++ [p']).length : Int) := by simp
   have hg' : Good ((pre ++ [p']) ++ rest) := by
    intro q hq
    simp only [List.append_assoc, List.mem_append, List.mem_cons, List.not_mem_nil, or_false] at hq
    rcases hq with hq | rfl | hq
    ·exact hg q (by simp [hq])
    ·omega
    ·exact hg q (by simp [hq])
   rw [f1, f2, f3, f4]
   refine ih (pre ++ [p']) b' e4 e5 hg' (fun q hq => hl q (by simp [hq])) (by simp; omega) ?_
   rw [eb] at h
   rw [← f1, List.append_assoc]
   exact h
  refine Ev.step (f := fun k => if p.1 + p.2 > 0 then (if b > 0 then aT.l2 k (b - mn m b) ((pre ++ p :: rest).map Prod.fst) ((pre ++ (p.1, p.2 - mn m b) :: rest).map Prod.snd) m ((pre ++ p :: rest).map Prod.fst) ((pre ++ p :: rest).length : Int) ((pre.length : Int) + 1) else aT.l2 k b ((pre ++ p :: rest).map Prod.fst) ((pre ++ p :: rest).map Prod.snd) m ((pre ++ p :: rest).map Prod.fst) ((pre ++ p :: rest).length : Int) ((pre.length : Int) + 1)) else aT.l2 k b ((pre ++ p :: rest).map Prod.fst) ((pre ++ p :: rest).map Prod.snd) m ((pre ++ p :: rest).map Prod.fst) ((pre ++ p :: rest).length : Int) ((pre.length : Int) + 1)) (fun k => ?_) ?_
  ·simp only [aT.l2]
   rw [ET, ET, hsum, if_pos (by omega), if_pos (by omega), if_pos (by simp; omega), if_pos (by simp; omega), hw]
   by_cases hc : p.1 + p.2 > 0
   ·rw [if_pos hc, if_pos hc]
    by_cases hb : b > 0
    ·rw [if_pos hb, if_pos hb, wp (by omega) (by omega), wp (by omega) (by omega)]
     congr 1
     simp
    ·rw [if_neg hb, if_neg hb]
   ·rw [if_neg hc, if_neg hc]
  ·by_cases hc : p.1 + p.2 > 0
   ·by_cases hb : b > 0
    ·refine Ev.jD hc (Ev.jD hb (step (b - mn m b) (p.1, p.2 - mn m b) rfl (by simp only; omega) (by simp only; omega) (by omega) (by omega) ?_))
     simp only [jL]
     rw [if_pos hc, if_pos hb]
    ·refine Ev.jD hc (Ev.iY hb (step b p rfl (by omega) (by omega) h0 h1 ?_))
     simp only [jL]
     rw [if_pos hc, if_neg hb]
   ·refine Ev.iY hc (step b p rfl (by omega) (by omega) h0 h1 ?_)
    simp only [jL]
    rw [if_neg hc]
theorem Lt (ps : List (Int × Int)) : ∀ b : Int, 0 ≤ b → jh (-b) ps = (-(jL 1 b ps).1, (jL 1 b ps).2) := by
 induction ps with
 | nil => intro b _; simp [jh, jL]
 | cons p ps ih =>
  intro b hb
  simp only [jh, jL]
  by_cases hp : p.1 + p.2 > 0
  ·rw [if_pos hp]
   by_cases h : b > 0
   ·rw [if_pos h]
    have h1 : mn 1 b = 1 := by unfold mn; split <;> omega
    have e : mX (-b) p = (-(b - 1), (p.1, p.2 - 1)) := by
     unfold mX
     rw [if_neg (by omega), if_pos ⟨by omega, hp⟩]
     congr 1
     omega
    rw [e, h1]
    simp only
    rw [ih (b - 1) (by omega)]
   ·rw [if_neg h]
    have e : mX (-b) p = (-b, p) := by
     unfold mX
     rw [if_neg (by omega), if_neg (by omega)]
    rw [e]
    simp only
    rw [ih b hb]
  ·rw [if_neg hp]
   have e : mX (-b) p = (-b, p) := by
    unfold mX
    rw [if_neg (by omega), if_neg (by omega)]
   rw [e]
   simp only
   rw [ih b hb]
theorem yH {b : Int} {ps : List (Int × Int)} {r : List Int × Bool} (hb : 0 < b) (hne : (jL 1 b ps).1 ≠ b) (h : Ev (fun k => kJ k (-(jL 1 b ps).1) (jL 1 b ps).2) r) : Ev (fun k => kJ k (-b) ps) r := by
 refine Ev.step (fun k => ?_) h
 simp only [kJ]
 rw [if_neg (by omega), Lt ps b (by omega)]
 simp only
 rw [if_neg (by omega)]
theorem OQ {r : List Int × Bool} : ∀ (m : Nat) (b : Int) (ps : List (Int × Int)), 0 < able ps → ((m : Int) + 1) * able ps ≤ b → (∀ p, p ∈ ps → p.1 + p.2 > 0 → (m : Int) + 1 ≤ p.1 + p.2) →
  Ev (fun k => kJ k (-(b - ((m : Int) + 1) * able ps)) (lZ ((m : Int) + 1) ps)) r → Ev (fun k => kJ k (-b) ps) r := by
 intro m
 induction m with
 | zero =>
  intro b ps ha hb hl h
  have e := zK (m := 1) (by omega) ps b (by simpa using hb)
  have hb' : able ps ≤ b := by simpa using hb
  refine yH (by omega) (by rw [e]; simp only; omega) ?_
  rw [e]
  simpa using h
 | succ m ih =>
  intro b ps ha hb hl h
  have hx : 0 ≤ ((m : Int) + 1) * able ps := Int.mul_nonneg (by omega) (by omega)
  have hm : (((m + 1 : Nat) : Int) + 1) * able ps = ((m : Int) + 1) * able ps + able ps := by rw [show (((m + 1 : Nat) : Int) + 1) = ((m : Int) + 1) + 1 by omega, Int.add_mul, Int.one_mul]
  rw [hm] at hb h
  have e := zK (m := 1) (by omega) ps b (by omega)
  obtain ⟨d1, d2⟩ := P7 (m := (m : Int) + 1) (ps := ps) (by omega) (fun p hp hc => by have := hl p hp hc; omega)
  refine yH (by omega) (by rw [e]; simp only; omega) ?_
  rw [e]
  simp only [Int.one_mul]
  refine ih (b - able ps) (lZ 1 ps) (by omega) (by rw [d2]; omega) ?_ ?_
  ·intro q hq hc
   obtain ⟨p, hp, rfl⟩ := List.mem_map.1 hq
   have := hl p hp
   simp only at hc ⊢
   by_cases hc1 : p.1 + p.2 > 0
   ·rw [if_pos hc1] at hc ⊢
    have := this hc1
    omega
   ·rw [if_neg hc1] at hc
    omega
  ·rw [d2, ← d1]
   refine Ev.congr (fun k => ?_) h
   rw [show (((m + 1 : Nat) : Int) + 1) = ((m : Int) + 1) + 1 by omega]
   congr 2
   omega
theorem QZ : ∀ (n : Nat) (b : Int) (ps : List (Int × Int)), b.toNat = n → 0 ≤ b → b ≤ 2147483647 → Good ps → Cf ps → ps.length ≤ 100000 → b ≤ pg ps →
  ∃ qs : List (Int × Int), Ev (fun k => aT.l0 k b (ps.map Prod.fst) (ps.map Prod.snd)) (qs.map Prod.snd) ∧ Ev (fun k => kJ k (-b) ps) (qs.map Prod.snd, true) ∧
   qs.map Prod.fst = ps.map Prod.fst ∧ Good qs ∧ Ih qs ∧ outs qs = outs ps - b := by
 intro n
 induction n using Nat.strongRecOn with
 | _ n IH =>
 intro b ps hn h0 h1 hg he hl hav
 by_cases hb : b > 0
 ·have hab := SX hg (by omega)
  have har := tZ ps
  have aji := Yv ps b hb
  have ajh := Q3 ps b
  have hm1 : 1 ≤ mx 1 (mn (lst b ps) (b / able ps)) := by unfold mx; split <;> omega
  have VY : ∀ (m : Int), m = mx 1 (mn (lst b ps) (b / able ps)) → (∀ p, p ∈ ps → p.1 + p.2 > 0 → m ≤ p.1 + p.2) → ∀ r, Ev (fun k => aT.l0 k (jL m b ps).1 (ps.map Prod.fst) ((jL m b ps).2.map Prod.snd)) r → Ev (fun k => aT.l0 k b (ps.map Prod.fst) (ps.map Prod.snd)) r := by
   intro m hm hml r h
   refine Ev.step (f := fun k => aT.l1 k b (ps.map Prod.fst) (ps.map Prod.snd) 0 b (ps.map Prod.fst) ((ps.map Prod.fst).length : Int) 0) (fun k => ?_) ?_
   ·simp only [aT.l0]; rw [if_pos hb]
   ·have l2 := Yt m r (by omega) ps [] b h0 h1 (by simpa using hg) hml (by simpa using hl) (by simpa using h)
    have l1 := Yr b m r hb h1 ps [] 0 b (by simpa using hg) (by simpa using hl) (by omega) (by simp) (by omega) (by rw [Int.zero_add]; exact hm) (by simpa using l2)
    simpa using l1
  by_cases hfull : able ps ≤ b
  ·
   have hq1 : 1 ≤ b / able ps := by rw [Int.le_ediv_iff_mul_le hab]; omega
   have hm : mx 1 (mn (lst b ps) (b / able ps)) = mn (lst b ps) (b / able ps) := by unfold mx mn; split <;> split at * <;> omega
   have afj : 1 ≤ mn (lst b ps) (b / able ps) := by unfold mn; split <;> omega
   generalize hmm : mn (lst b ps) (b / able ps) = m at hm
   have hm0 : 1 ≤ m := by rw [← hmm]; exact afj
   have afh : m ≤ lst b ps := by rw [← hmm]; unfold mn; split <;> omega
   have afi : m ≤ b / able ps := by rw [← hmm]; unfold mn; split <;> omega
   have hall : ∀ p, p ∈ ps → p.1 + p.2 > 0 → m ≤ p.1 + p.2 := fun p hp hc => Int.le_trans afh (Yu ps b p hp hc)
   have hmb : m * able ps ≤ b := (Int.le_ediv_iff_mul_le hab).1 afi
   have hma : able ps ≤ m * able ps := by have := Int.mul_le_mul_of_nonneg_right hm0 (show 0 ≤ able ps by omega); omega
   have aaE := zK (m := m) (by omega) ps b hmb
   obtain ⟨qs, q1, q2, q3, q4, q5, q6⟩ := IH (b - m * able ps).toNat (by omega) (b - m * able ps) (lZ m ps) rfl (by omega) (by omega) (Hg (by omega) hg hall) (P6 hg he (by omega)) (by simpa [lZ] using hl) (by rw [EI]; omega)
   rw [TJ] at q1 q3
   have eo : outs (lZ m ps) = outs ps - m * able ps := by
    have := Jk m ps b
    rw [aaE] at this
    simp only at this
    omega
   refine ⟨qs, VY m (by rw [hmm, hm]) hall _ (by rw [aaE]; exact q1), ?_, q3, q4, q5, by omega⟩
   obtain ⟨m', rfl⟩ : ∃ m' : Nat, m = (m' : Int) + 1 := ⟨(m - 1).toNat, by omega⟩
   exact OQ m' b ps hab hmb hall q2
  ·
   have hq0 : b / able ps = 0 := Int.ediv_eq_zero_of_lt h0 (by omega)
   have hm : mx 1 (mn (lst b ps) (b / able ps)) = 1 := by rw [hq0]; unfold mx mn; split <;> split at * <;> omega
   have hz := Tn ps b h0 (by omega)
   have eo := Jk 1 ps b
   refine ⟨(jL 1 b ps).2, VY 1 hm.symm (fun p _ hc => by omega) _ ?_, yH hb (by omega) ?_, WG 1 ps b, Tm hg, Tj he, by omega⟩
   ·rw [hz]
    refine Ev.step (fun k => ?_) (Ev.now _)
    simp only [aT.l0]
    rw [if_neg (by omega)]
   ·rw [hz]
    refine Ev.step (fun k => ?_) (Ev.now _)
    simp only [kJ]
    rw [if_pos (by omega)]
 ·obtain rfl : b = 0 := by omega
  refine ⟨ps, ?_, ?_, rfl, hg, aaJ he, by omega⟩
  ·refine Ev.step (fun k => ?_) (Ev.now _)
   simp only [aT.l0]
   rw [if_neg hb]
  ·refine Ev.step (fun k => ?_) (Ev.now _)
   simp only [kJ]
   rw [if_pos (by omega)]
def total : List Int → Int
 | [] => 0
 | g :: gs => g + total gs
theorem Dy (gs : List Int) : pg (gs.map fun g => (g, (0 : Int))) = total gs := by
 induction gs with
 | nil => rfl
 | cons g gs ih => simp only [List.map_cons, pg, total, ih]; omega
theorem yg (gs : List Int) (h : ∀ g, g ∈ gs → 0 ≤ g) : 0 ≤ total gs := by
 induction gs with
 | nil => simp [total]
 | cons g gs ih => have h1 := h g (by simp); have h2 := ih fun x hx => h x (by simp [hx]); simp only [total]; omega
def rM (m : Int) (gs : List Int) : Int := if m + total gs > 2147483647 then 2147483647 else m + total gs
theorem KQ (b : Int) (r : List Int × Bool) : ∀ (rest pre : List Int) (s : Int), 0 ≤ s → s ≤ 2147483647 → (pre ++ rest).length ≤ 100000 →
  (∀ g, g ∈ rest → 0 ≤ g ∧ g ≤ 2147483647) →
  Ev (fun k => if ((pre ++ rest).length : Int) = 0 then (aX.j1 k b (pre ++ rest) true) else (if b < wrap64 (-(rM s rest)) then (aX.j1 k b (pre ++ rest) true) else (aX.j1 k b (pre ++ rest) (decide (b > 2147483647))))) r →
  Ev (fun k => aX.l0 k b (pre ++ rest) s (pre ++ rest) ((pre ++ rest).length : Int) (pre.length : Int)) r := by
 intro rest
 induction rest with
 | nil =>
  intro pre s h0 h1 hl hg h
  refine Ev.step (fun k => ?_) h
  simp only [aX.l0]
  rw [if_neg (by simp)]
  have : rM s [] = s := by unfold rM; simp only [total, Int.add_zero]; rw [if_neg (by omega)]
  rw [this]
 | cons g rest ih =>
  intro pre s h0 h1 hl hg h
  have hgg := hg g (by simp)
  have ht := yg rest fun x hx => (hg x (by simp [hx])).1
  have hlen : ((pre ++ g :: rest).length : Int) = pre.length + (rest.length + 1) := by simp
  have e : pre ++ g :: rest = (pre ++ [g]) ++ rest := by simp
  have hc : rM (mn 2147483647 (s + g)) rest = rM s (g :: rest) := by unfold rM mn; simp only [total]; split <;> split <;> (try split) <;> omega
  refine Ev.step (fun k => ?_) (ih (pre ++ [g]) (mn 2147483647 (s + g)) (by unfold mn; split <;> omega) (by unfold mn; split <;> omega) (by rw [← e]; exact hl) (fun x hx => hg x (by simp [hx])) (by rw [hc, ← e]; exact h))
  simp only [aX.l0]
  rw [Gp, if_pos (by omega), if_pos (by omega), if_pos (by omega), if_neg (by omega), if_neg (by omega), wp (x := s + g) (by omega) (by omega), wp (x := (pre.length : Int) + 1) (by omega) (by omega), ← e]
  simp
theorem OX (b : Int) : ∀ (rest pre : List Int) (s : Int), 0 ≤ s → s ≤ 2147483647 → (pre ++ rest).length ≤ 100000 → ¬ (∀ g, g ∈ rest → 0 ≤ g ∧ g ≤ 2147483647) →
  Ev (fun k => aX.l0 k b (pre ++ rest) s (pre ++ rest) ((pre ++ rest).length : Int) (pre.length : Int)) ([], false) := by
 intro rest
 induction rest with
 | nil => intro pre s _ _ _ h; exact absurd (fun g hg => by cases hg) h
 | cons g rest ih =>
  intro pre s h0 h1 hl hg
  have hlen : ((pre ++ g :: rest).length : Int) = pre.length + (rest.length + 1) := by simp
  by_cases hgg : 0 ≤ g ∧ g ≤ 2147483647
  ·have e : pre ++ g :: rest = (pre ++ [g]) ++ rest := by simp
   refine Ev.step (fun k => ?_) (ih (pre ++ [g]) (mn 2147483647 (s + g)) (by unfold mn; split <;> omega) (by unfold mn; split <;> omega) (by rw [← e]; exact hl) (fun h => hg fun x hx => by
    rcases List.mem_cons.1 hx with rfl | hx
    ·exact hgg
    ·exact h x hx))
   simp only [aX.l0]
   rw [Gp, if_pos (by omega), if_pos (by omega), if_pos (by omega), if_neg (by omega), if_neg (by omega), wp (x := s + g) (by omega) (by omega), wp (x := (pre.length : Int) + 1) (by omega) (by omega), ← e]
   simp
  ·refine Ev.step (fun k => ?_) (Ev.now _)
   simp only [aX.l0]
   rw [Gp, if_pos (by omega), if_pos (by omega), if_pos (by omega)]
   by_cases h : g < 0
   ·rw [if_pos h]
   ·rw [if_neg h, if_pos (by omega)]
theorem RF : ∀ (ps : List (Int × Int)) (b : Int), 0 ≤ b → jh b ps = (if (ps.length : Int) ≤ b then b - ps.length else 0, ps.mapIdx fun i p => (p.1, p.2 + if (i : Int) < b then 1 else 0)) := by
 intro ps
 induction ps with
 | nil => intro b hb; simp [jh]; omega
 | cons p ps ih =>
  intro b hb
  simp only [jh]
  by_cases h : b > 0
  ·have e : mX b p = (b - 1, (p.1, p.2 + 1)) := by unfold mX; rw [if_pos h]
   rw [e]
   simp only
   rw [ih (b - 1) (by omega), List.mapIdx_cons]
   simp only [Prod.mk.injEq, List.length_cons, List.cons.injEq]
   refine ⟨by split <;> split <;> omega, ?_, ?_⟩
   ·rw [if_pos (by omega)]; simp
   ·apply List.mapIdx_eq_mapIdx_iff.2
    intro i hi
    simp only [Prod.mk.injEq, true_and]
    split <;> split <;> omega
  ·obtain rfl : b = 0 := by omega
   have e : mX 0 p = (0, p) := by unfold mX; simp
   rw [e]
   simp only
   rw [ih 0 (by omega), List.mapIdx_cons]
   simp only [Prod.mk.injEq, List.length_cons, List.cons.injEq]
   refine ⟨by split <;> split <;> omega, ?_, ?_⟩
   ·simp
   ·apply List.mapIdx_eq_mapIdx_iff.2
    intro i hi
    simp only [Prod.mk.injEq, true_and]
    split <;> split <;> omega
theorem KN {b n : Int} (hn : 0 < n) (i : Int) : jX (b - n) n i + 1 = jX b n i := by
 unfold jX
 have h1 : (b - n) / n = b / n - 1 := by
  rw [show b - n = b + (-1) * n by omega, Int.add_mul_ediv_right _ _ (by omega)]; omega
 have h2 : (b - n) % n = b % n := by
  rw [show b - n = b + (-1) * n by omega, Int.add_mul_emod_self_right]
 rw [h1, h2]
 omega
theorem BJ {b n : Int} (h0 : 0 ≤ b) (h : b < n) (i : Int) : jX b n i = if i < b then 1 else 0 := by
 unfold jX
 rw [Int.ediv_eq_zero_of_lt h0 h, Int.emod_eq_of_lt h0 h]
 omega
theorem ab7 : ∀ (N : Nat) (b t : Int) (gs : List Int), b.toNat = N → 0 ≤ b → gs ≠ [] → Ev (fun k => kJ k b (gs.map fun g => (g, t))) (gs.mapIdx (fun i _ => t + jX b gs.length (i : Nat)), true) := by
 intro N
 induction N using Nat.strongRecOn with
 | _ N IH =>
 intro b t gs hN hb hne
 have hpos : 0 < gs.length := List.length_pos_iff.2 hne
 by_cases h0 : b = 0
 ·subst h0
  refine Ev.step (fun k => ?_) (Ev.now _)
  simp only [kJ]
  rw [if_pos trivial]
  congr 2
  rw [List.map_map]
  apply List.ext_getElem
  ·simp
  ·intro i h1 h2
   simp only [List.getElem_map, Function.comp_def, List.getElem_mapIdx]
   rw [BJ (show (0 : Int) ≤ 0 by omega) (show (0 : Int) < gs.length by omega), if_neg (by omega)]
   omega
 ·have hr := RF (gs.map fun g => (g, t)) b hb
  rw [List.length_map] at hr
  by_cases hfull : (gs.length : Int) ≤ b
  ·rw [if_pos hfull] at hr
   have ih := IH (b - gs.length).toNat (by omega) (b - gs.length) (t + 1) gs rfl (by omega) hne
   have e2 : (List.mapIdx (fun i (p : Int × Int) => (p.1, p.2 + if (i : Int) < b then 1 else 0)) (gs.map fun g => (g, t))) = gs.map fun g => (g, t + 1) := by
    apply List.ext_getElem
    ·simp
    ·intro i h1 h2
     simp at h1
     simp only [List.getElem_mapIdx, List.getElem_map]
     rw [if_pos (by omega)]
   rw [e2] at hr
   refine Ev.step (f := fun k => kJ k (b - gs.length) (gs.map fun g => (g, t + 1))) (fun k => ?_) ?_
   ·simp only [kJ]
    rw [if_neg h0, hr]
    simp only
    rw [if_neg (by omega)]
   ·have e3 : gs.mapIdx (fun i _ => t + jX b gs.length (i : Nat)) = gs.mapIdx (fun i _ => t + 1 + jX (b - gs.length) gs.length (i : Nat)) := by
     apply List.mapIdx_eq_mapIdx_iff.2
     intro i hi
     have := KN (b := b) (n := gs.length) (by omega) (i : Nat)
     omega
    rw [e3]
    exact ih
  ·rw [if_neg hfull] at hr
   refine Ev.step (f := fun k => kJ k 0 (List.mapIdx (fun i (p : Int × Int) => (p.1, p.2 + if (i : Int) < b then 1 else 0)) (gs.map fun g => (g, t)))) (fun k => ?_) ?_
   ·simp only [kJ]
    rw [if_neg h0, hr]
    simp only
    rw [if_neg (by omega)]
   ·refine Ev.step (fun k => ?_) (Ev.now _)
    simp only [kJ]
    rw [if_pos trivial]
    congr 2
    apply List.ext_getElem
    ·simp
    ·intro i h1 h2
     simp only [List.getElem_map, List.getElem_mapIdx]
     rw [BJ hb (by omega)]
theorem UM (b : Int) (gs : List Int) (hb : 0 ≤ b) (hne : gs ≠ []) : Ev (fun k => kJ k b (gs.map fun g => (g, 0))) (moreL b gs.length, true) := by
 have h := ab7 b.toNat b 0 gs rfl hb hne
 have e : gs.mapIdx (fun i _ => 0 + jX b gs.length (i : Nat)) = moreL b gs.length := by
  apply List.ext_getElem
  ·simp [moreL]
  ·intro i h1 h2
   simp [moreL]
 rw [e] at h
 exact h
theorem Ry : ∀ (N : Nat) (b : Int) (ps : List (Int × Int)), b.toNat = N → Good ps → pg ps < b → 0 < b → Ev (fun k => kJ k (-b) ps) ([], false) := by
 intro N
 induction N using Nat.strongRecOn with
 | _ N IH =>
 intro b ps hN hg hav hb
 have har := tZ ps
 have hle : able ps ≤ pg ps := by
  clear IH hN hav hb har
  induction ps with
  | nil => simp [able, pg]
  | cons p ps ih =>
   have h1 := hg.head
   have h2 := ih hg.tail
   simp only [able, pg]
   split <;> omega
 have e := zK (m := 1) (by omega) ps b (by omega)
 rw [Int.one_mul] at e
 by_cases h0 : able ps = 0
 ·refine Ev.step (fun k => ?_) (Ev.now _)
  simp only [kJ]
  rw [if_neg (by omega), Lt ps b (by omega), e]
  simp only
  rw [if_pos (by omega)]
 ·refine yH hb (by rw [e]; simp only; omega) ?_
  rw [e]
  simp only
  exact IH (b - able ps).toNat (by omega) (b - able ps) (lZ 1 ps) rfl (Hg (by omega) hg fun p _ hc => by omega) (by rw [EI]; omega) (by omega)
theorem Fg {gs : List Int} (h : ∀ g, g ∈ gs → 0 ≤ g ∧ g ≤ 2147483647) : Good (gs.map fun g => (g, (0 : Int))) := by
 intro p hp
 obtain ⟨g, hg, rfl⟩ := List.mem_map.1 hp
 have := h g hg
 simp only
 omega
theorem O8 (gs : List Int) : Cf (gs.map fun g => (g, (0 : Int))) := by
 intro p hp q hq h
 obtain ⟨g, hg, rfl⟩ := List.mem_map.1 hp
 obtain ⟨g', hg', rfl⟩ := List.mem_map.1 hq
 simp at h
theorem O9 (gs : List Int) : outs (gs.map fun g => (g, (0 : Int))) = 0 := by
 induction gs with
 | nil => rfl
 | cons g gs ih => simp only [List.map_cons, outs, ih]; rfl
def zG (b : Int) (gs : List Int) (r : List Int × Bool) : Prop :=
 (r = ([], false) ∧ (gs = [] ∨ (¬ ∀ g, g ∈ gs → 0 ≤ g ∧ g ≤ 2147483647) ∨ ((∀ g, g ∈ gs → 0 ≤ g ∧ g ≤ 2147483647) ∧ b < -total gs))) ∨
 (r = (moreL b gs.length, true) ∧ gs ≠ [] ∧ (∀ g, g ∈ gs → 0 ≤ g ∧ g ≤ 2147483647) ∧ 0 ≤ b) ∨
 (∃ qs : List (Int × Int), r = (qs.map Prod.snd, true) ∧ (∀ g, g ∈ gs → 0 ≤ g ∧ g ≤ 2147483647) ∧ b < 0 ∧ qs.map Prod.fst = gs ∧ Good qs ∧ Ih qs ∧ outs qs = b ∧ Ev (fun k => kJ k b (gs.map fun g => (g, 0))) (qs.map Prod.snd, true))
theorem H6 (b : Int) (gs : List Int) (hl : gs.length ≤ 100000) (h0 : -2147483647 ≤ b) (h1 : b ≤ 2147483647) : ∃ r, zG b gs r ∧ Ev (fun k => aX.f k b gs) r := by
 by_cases hg : ∀ g, g ∈ gs → 0 ≤ g ∧ g ≤ 2147483647
 ·have ht := yg gs fun g h => (hg g h).1
  have look := fun r => KQ b r gs [] 0 (by omega) (by omega) (by simpa using hl) hg
  have hcap : rM 0 gs = if total gs > 2147483647 then 2147483647 else total gs := by unfold rM; rw [Int.zero_add]
  have hw : wrap64 (-(rM 0 gs)) = -(rM 0 gs) := by rw [hcap]; apply wp <;> split <;> omega
  simp only [List.nil_append, List.length_nil] at look
  have j1t : Ev (fun k => aX.j1 k b gs true) ([], false) := by
   refine Ev.step (fun k => ?_) (Ev.now _)
   simp only [aX.j1]
   rw [if_pos trivial]
  by_cases hne : gs = []
  ·refine ⟨_, .inl ⟨rfl, .inl hne⟩, ?_⟩
   refine look _ ?_
   refine Ev.jD (by simp [hne]) j1t
  ·have hpos : 0 < gs.length := List.length_pos_iff.2 hne
   by_cases hb : b < -total gs
   ·refine ⟨_, .inl ⟨rfl, .inr (.inr ⟨hg, hb⟩)⟩, look _ (Ev.iY (by omega) (Ev.jD ?_ j1t))⟩
    rw [hw, hcap]
    split <;> omega
   ·have hdec : decide (b > 2147483647) = false := by simp; omega
    have go : ∀ r, Ev (fun k => aX.j1 k b gs false) r → Ev (fun k => aX.f k b gs) r := fun r h => by
     refine look _ (Ev.iY (by omega) (Ev.iY ?_ ?_))
     ·rw [hw, hcap]; split <;> omega
     ·rw [hdec]; exact h
    by_cases hb0 : 0 ≤ b
    ·refine ⟨_, .inr (.inl ⟨rfl, hne, hg, hb0⟩), go _ (Ev.step (fun k => ?_) (Ev.now _))⟩
     simp only [aX.j1]
     rw [if_neg (by simp), if_pos (by omega)]
     unfold nV.f
     rw [if_pos ⟨hb0, by omega, by omega, by omega⟩]
     simp
    ·obtain ⟨qs, q1, q2, q3, q4, q5, q6⟩ := QZ (-b).toNat (-b) (gs.map fun g => (g, 0)) rfl (by omega) (by omega) (Fg hg) (O8 gs) (by simpa using hl) (by rw [Dy]; omega)
     have e1 : (gs.map fun g => (g, (0 : Int))).map Prod.fst = gs := by simp [List.map_map, Function.comp_def]
     have e2 : (gs.map fun g => (g, (0 : Int))).map Prod.snd = List.replicate gs.length 0 := by simp [List.map_map, Function.comp_def, List.map_const']
     rw [e1] at q1 q3
     rw [e2] at q1
     rw [O9] at q6
     rw [Int.neg_neg] at q2
     refine ⟨_, .inr (.inr ⟨qs, rfl, hg, by omega, q3, q4, q5, by omega, q2⟩), go _ (Ev.step (f := fun k => (aT.f k (-b) gs).bind fun t => some (t, true)) (fun k => ?_) (Ev.bind (a := qs.map Prod.snd) ?_ (Ev.now _)))⟩
     ·simp only [aX.j1]
      rw [if_neg (by simp), if_neg (by omega), wp (by omega) (by omega)]
     ·refine Ev.congr (fun k => ?_) q1
      unfold aT.f
      rw [if_pos (by omega), if_pos (by omega)]
      simp
 ·refine ⟨_, .inl ⟨rfl, .inr (.inl hg)⟩, ?_⟩
  have := OX b gs [] 0 (by omega) (by omega) (by simpa using hl) hg
  simp only [List.nil_append, List.length_nil] at this
  exact this
section
variable {Pr : Program} {ops : Array Oper} {rest : List Oper} {op : Oper} {a : Act} {Q : Exit → Act → World → Prop} {w W : World} {P : Nat → Prop} {bs : List (Option Nat × Obj)} {ow : List (Value × List ai)} {ts : List (Value × List ai)} {ro : List (Addr × Value)}
theorem az (N : Tmp) (_ : op.dst = some N) (h : wpList Pr ops Q (op :: rest) a W) : wpList Pr ops Q (op :: rest) a W := h
theorem fP (t : TypeId) (p x : Operand) (_ : op.op = .store t p x) (h : wpList Pr ops Q (op :: rest) a W) : wpList Pr ops Q (op :: rest) a W := h
theorem boxS (N : Tmp) (cs : Array Value) (t : TypeId) (S : ae (St w P bs ow ts ro W))
  (h : ∀ g w1, ae (St w P ((some g, .cells cs t (0, 0)) :: bs) ow ts ro w1) → wpList Pr ops Q rest (a.put op.dst (.pointer (some ⟨g, 0, none⟩))) w1) (hd : op.dst = some N := by rfl) (hgd : op.guard = none := by rfl)
  (hr : (execOp a.eval op).run Pr W = .ok (.value (.pointer (some ⟨W.heap.size, 0, none⟩))) (W.alloc (.cells cs t (0, 0))) := by first | (go_simp; done) | (go_simp; rfl)) : wpList Pr ops Q (op :: rest) a W :=
 Z8 hd hgd cs t S.out hr (fun g w1 S1 => h g w1 ⟨S1⟩)
theorem UG (i : Nat) {g : Nat} {cs : Array Value} {t0 : TypeId} (hi : bs[i]? = some (some g, .cells cs t0 (0, 0))) (t : TypeId) (p x : Tmp) (cs' : Array Value) (j n : Nat) (S : ae (St w P bs ow ts ro W)) (h : ∀ w1, ae (St w P (bs.set i (some g, .cells cs' t0 (0, 0))) ow ts ro w1) → wpList Pr ops Q rest a w1)
  (ho : op.op = .store t (.tmp p) (.tmp x)) (kM : a.eval (.tmp p) = .pointer (some ⟨g, j, none⟩)) (hu : (a.eval (.tmp x)).cells.toList = (cs'.toList.drop j).take n) (ht : (Pr.info? t).map (·.size) = some n)
  (hn : ((cs'.toList.drop j).take n).length = n) (h1 : ((cs'.toList.drop j).take n).all Value.oneCell' = true) (hj : j + n ≤ cs.size) (he : cs.toList.take j ++ (cs'.toList.drop j).take n ++ cs.toList.drop (j + n) = cs'.toList) (hN : op.dst = none) (hgd : op.guard = none) : wpList Pr ops Q (op :: rest) a W :=
 abZ i hi t (.tmp p) (.tmp x) ho cs' S.out kM rfl hu (by rw [hn]; exact ht) (fun q hq => List.all_eq_true.1 h1 q hq) (by rw [hn]; exact hj) (by rw [hn]; exact he) hN hgd (fun w1 S1 => h w1 ⟨S1⟩)
variable {g : Nat} {cs : Array Value} {t0 : TypeId} {b0 b1 b2 b3 b4 : Option Nat × Obj}
theorem kD (t : TypeId) (p x : Tmp) (cs' : Array Value) (j n : Nat) (S : ae (St w P ((some g, .cells cs t0 (0, 0)) :: bs) ow ts ro W)) (h : ∀ w1, ae (St w P ((some g, .cells cs' t0 (0, 0)) :: bs) ow ts ro w1) → wpList Pr ops Q rest a w1)
  (ho : op.op = .store t (.tmp p) (.tmp x) := by rfl) (kM : a.eval (.tmp p) = .pointer (some ⟨g, j, none⟩) := by rfl) (hu : (a.eval (.tmp x)).cells.toList = (cs'.toList.drop j).take n := by rfl) (ht : (Pr.info? t).map (·.size) = some n := by kernel_rfl)
  (hn : ((cs'.toList.drop j).take n).length = n := by rfl) (h1 : ((cs'.toList.drop j).take n).all Value.oneCell' = true := by rfl) (hj : j + n ≤ cs.size := by first | decide | simp) (he : cs.toList.take j ++ (cs'.toList.drop j).take n ++ cs.toList.drop (j + n) = cs'.toList := by rfl) (hN : op.dst = none := by rfl) (hgd : op.guard = none := by rfl) : wpList Pr ops Q (op :: rest) a W :=
 UG 0 rfl t p x cs' j n S h ho kM hu ht hn h1 hj he hN hgd
theorem wM (t : TypeId) (p x : Tmp) (cs' : Array Value) (j n : Nat) (S : ae (St w P (b0 :: (some g, .cells cs t0 (0, 0)) :: bs) ow ts ro W)) (h : ∀ w1, ae (St w P (b0 :: (some g, .cells cs' t0 (0, 0)) :: bs) ow ts ro w1) → wpList Pr ops Q rest a w1)
  (ho : op.op = .store t (.tmp p) (.tmp x) := by rfl) (kM : a.eval (.tmp p) = .pointer (some ⟨g, j, none⟩) := by rfl) (hu : (a.eval (.tmp x)).cells.toList = (cs'.toList.drop j).take n := by rfl) (ht : (Pr.info? t).map (·.size) = some n := by kernel_rfl)
  (hn : ((cs'.toList.drop j).take n).length = n := by rfl) (h1 : ((cs'.toList.drop j).take n).all Value.oneCell' = true := by rfl) (hj : j + n ≤ cs.size := by first | decide | simp) (he : cs.toList.take j ++ (cs'.toList.drop j).take n ++ cs.toList.drop (j + n) = cs'.toList := by rfl) (hN : op.dst = none := by rfl) (hgd : op.guard = none := by rfl) : wpList Pr ops Q (op :: rest) a W :=
 UG 1 rfl t p x cs' j n S h ho kM hu ht hn h1 hj he hN hgd
theorem abX (t : TypeId) (p x : Tmp) (cs' : Array Value) (j n : Nat) (S : ae (St w P (b0 :: b1 :: (some g, .cells cs t0 (0, 0)) :: bs) ow ts ro W)) (h : ∀ w1, ae (St w P (b0 :: b1 :: (some g, .cells cs' t0 (0, 0)) :: bs) ow ts ro w1) → wpList Pr ops Q rest a w1)
  (ho : op.op = .store t (.tmp p) (.tmp x) := by rfl) (kM : a.eval (.tmp p) = .pointer (some ⟨g, j, none⟩) := by rfl) (hu : (a.eval (.tmp x)).cells.toList = (cs'.toList.drop j).take n := by rfl) (ht : (Pr.info? t).map (·.size) = some n := by kernel_rfl)
  (hn : ((cs'.toList.drop j).take n).length = n := by rfl) (h1 : ((cs'.toList.drop j).take n).all Value.oneCell' = true := by rfl) (hj : j + n ≤ cs.size := by first | decide | simp) (he : cs.toList.take j ++ (cs'.toList.drop j).take n ++ cs.toList.drop (j + n) = cs'.toList := by rfl) (hN : op.dst = none := by rfl) (hgd : op.guard = none := by rfl) : wpList Pr ops Q (op :: rest) a W :=
 UG 2 rfl t p x cs' j n S h ho kM hu ht hn h1 hj he hN hgd
theorem uj (N : Option Tmp) {f : FuncId} {fn : Func} (hf : Pr.funcs[f]? = some fn) {ar : Array Operand} {E8 : Array TypeId} {args : Array Value} {post : Ending → World → Prop} (hc : Calls Pr f args W post)
  (h : ∀ e w1, post e w1 → ∃ v, e = .returned v ∧ wpList Pr ops Q rest (a.put N v) w1) (hd : op.dst = N := by rfl) (hg : op.guard = none := by rfl) (hop : op.op = .call { callee := .value (.func f), args := ar, argTypes := E8 } := by rfl)
  (hname : (fn.name == "runtime.NumGoroutine") = false := by kernel_rfl) (hb : fn.body.isSome = true := by rfl) (hargs : ar.map a.eval = args := by ((try simp only [List.map_toArray, List.map_cons, List.map_nil]); first | done | rfl)) : wpList Pr ops Q (op :: rest) a W :=
 jF N hd hg hf hname hb args hop hargs (hc.mono h)
theorem dN (N : Option Tmp) {f : FuncId} {fn : Func} (hf : Pr.funcs[f]? = some fn) {ar : Array Operand} {E8 : Array TypeId} {args : Array Value} {v : Value} (S : ae (St w P bs ow ts ro W)) (hc : Calls Pr f args W fun e w' => e = .returned v ∧ Below W.heap.size W w')
  (h : ∀ w1, ae (St w P bs ow ts ro w1) → wpList Pr ops Q rest (a.put N v) w1) (hd : op.dst = N := by rfl) (hg : op.guard = none := by rfl) (hop : op.op = .call { callee := .value (.func f), args := ar, argTypes := E8 } := by rfl)
  (hname : (fn.name == "runtime.NumGoroutine") = false := by kernel_rfl) (hb : fn.body.isSome = true := by rfl) (hargs : ar.map a.eval = args := by ((try simp only [List.map_toArray, List.map_cons, List.map_nil]); first | done | rfl)) : wpList Pr ops Q (op :: rest) a W :=
 jF N hd hg hf hname hb args hop hargs (hc.mono fun e w1 ⟨he, hb⟩ => ⟨v, he, h w1 ⟨S.out.call hb⟩⟩)
theorem uk (N : Option Tmp) {f : FuncId} {fn : Func} (hf : Pr.funcs[f]? = some fn) {ar : Array Operand} {E8 : Array TypeId} {args : Array Value} {l : List ai} {F : Option Addr → Nat → Value} (S : ae (St w P bs ow ts ro W))
  (hc : Calls Pr f args W fun e w' => ∃ A c, e = .returned (F A c) ∧ Kd.N k26 26 w' W.heap.size (fun k => Ok w P (keys bs ow) k ∨ W.heap.size ≤ k) (.slice A l.length c) l ∧ Below W.heap.size W w')
  (h : ∀ A c w1, ae (St w P bs ow ((.slice A l.length c, l) :: ts) ro w1) → wpList Pr ops Q rest (a.put N (F A c)) w1) (hd : op.dst = N := by rfl) (hg : op.guard = none := by rfl) (hop : op.op = .call { callee := .value (.func f), args := ar, argTypes := E8 } := by rfl)
  (hname : (fn.name == "runtime.NumGoroutine") = false := by kernel_rfl) (hb : fn.body.isSome = true := by rfl) (hargs : ar.map a.eval = args := by ((try simp only [List.map_toArray, List.map_cons, List.map_nil]); first | done | rfl)) : wpList Pr ops Q (op :: rest) a W :=
 jF N hd hg hf hname hb args hop hargs (hc.mono fun e w1 ⟨A, c, he, h1, hb⟩ => ⟨_, he, h A c w1 ⟨S.out.res (Kd.rG (base' := 0) h1) hb⟩⟩)
theorem adL (N : Option Tmp) {f : FuncId} {fn : Func} (hf : Pr.funcs[f]? = some fn) {ar : Array Operand} {E8 : Array TypeId} {args : Array Value} {l : List ai} {F : Option Addr → Nat → Value} (S : ae (St w P bs ow ts ro W))
  (hc : Calls Pr f args W fun e w' => ∃ A c, e = .returned (F A c) ∧ Kd.V k26 26 w' W.heap.size (fun k => Ok w P (keys bs ow) k ∨ W.heap.size ≤ k) (.slice A l.length c) l ∧ Below W.heap.size W w')
  (h : ∀ A c w1, ae (St w P bs ow ((.slice A l.length c, l) :: ts) ro w1) → wpList Pr ops Q rest (a.put N (F A c)) w1) (hd : op.dst = N := by rfl) (hg : op.guard = none := by rfl) (hop : op.op = .call { callee := .value (.func f), args := ar, argTypes := E8 } := by rfl)
  (hname : (fn.name == "runtime.NumGoroutine") = false := by kernel_rfl) (hb : fn.body.isSome = true := by rfl) (hargs : ar.map a.eval = args := by ((try simp only [List.map_toArray, List.map_cons, List.map_nil]); first | done | rfl)) : wpList Pr ops Q (op :: rest) a W :=
 jF N hd hg hf hname hb args hop hargs (hc.mono fun e w1 ⟨A, c, he, h1, hb⟩ => ⟨_, he, h A c w1 ⟨S.out.res h1 hb⟩⟩)
theorem Oc (N : Option Tmp) {f : FuncId} {fn : Func} (hf : Pr.funcs[f]? = some fn) {ar : Array Operand} {E8 : Array TypeId} {args : Array Value} {l : List ai} {F : Option Addr → Nat → Value} (S : ae (St w P bs [] ts ro W))
  (hc : Calls Pr f args W fun e w' => ∃ A c, e = .returned (F A c) ∧ Kd.N k26 26 w' W.heap.size (fun k => Ok w P (keys bs []) k ∨ W.heap.size ≤ k) (.slice A l.length c) l ∧ Below W.heap.size W w')
  (h : ∀ A c w1, ae (St w P bs [(.slice A l.length c, l)] ts ro w1) → wpList Pr ops Q rest (a.put N (F A c)) w1) (hd : op.dst = N := by rfl) (hg : op.guard = none := by rfl) (hop : op.op = .call { callee := .value (.func f), args := ar, argTypes := E8 } := by rfl)
  (hname : (fn.name == "runtime.NumGoroutine") = false := by kernel_rfl) (hb : fn.body.isSome = true := by rfl) (hargs : ar.map a.eval = args := by ((try simp only [List.map_toArray, List.map_cons, List.map_nil]); first | done | rfl)) : wpList Pr ops Q (op :: rest) a W :=
 jF N hd hg hf hname hb args hop hargs (hc.mono fun e w1 ⟨A, c, he, h1, hb⟩ => ⟨_, he, h A c w1 ⟨S.out.Gq h1 hb⟩⟩)
end
section
variable {w W : World} {P : Nat → Prop} {bs : List (Option Nat × Obj)} {ow : List (Value × List ai)} {ts : List (Value × List ai)} {ro : List (Addr × Value)} {g : Nat} {t : TypeId} {v0 v1 v2 v3 v4 v5 v6 : Value} {a0 a1 a2 a3 a4 a5 a6 : Addr}
theorem St.iJ (S : ae (St w P bs ow ts ro W)) (hm : (some g, .cells #[v0, v1, v2, v3, v4, v5, v6] t (0, 0)) ∈ bs) :
  W.cell? ⟨g, 0, none⟩ = some v0 ∧ W.cell? ⟨g, 1, none⟩ = some v1 ∧ W.cell? ⟨g, 2, none⟩ = some v2 ∧ W.cell? ⟨g, 3, none⟩ = some v3 ∧ W.cell? ⟨g, 4, none⟩ = some v4 ∧ W.cell? ⟨g, 5, none⟩ = some v5 ∧ W.cell? ⟨g, 6, none⟩ = some v6 :=
 ⟨S.out.at hm 0, S.out.at hm 1, S.out.at hm 2, S.out.at hm 3, S.out.at hm 4, S.out.at hm 5, S.out.at hm 6⟩
theorem St.at4 (S : ae (St w P bs ow ts ro W)) (hm : (some g, .cells #[v0, v1, v2, v3] t (0, 0)) ∈ bs) :
  W.cell? ⟨g, 0, none⟩ = some v0 ∧ W.cell? ⟨g, 1, none⟩ = some v1 ∧ W.cell? ⟨g, 2, none⟩ = some v2 ∧ W.cell? ⟨g, 3, none⟩ = some v3 :=
 ⟨S.out.at hm 0, S.out.at hm 1, S.out.at hm 2, S.out.at hm 3⟩
theorem St.yD (S : ae (St w P bs ow ts ((a0, v0) :: (a1, v1) :: (a2, v2) :: (a3, v3) :: (a4, v4) :: (a5, v5) :: (a6, v6) :: ro) W)) :
  W.cell? a0 = some v0 ∧ W.cell? a1 = some v1 ∧ W.cell? a2 = some v2 ∧ W.cell? a3 = some v3 ∧ W.cell? a4 = some v4 ∧ W.cell? a5 = some v5 ∧ W.cell? a6 = some v6 :=
 ⟨(S.out.cell _ (.head _)).1, (S.out.cell _ (.tail _ (.head _))).1, (S.out.cell _ (.tail _ (.tail _ (.head _)))).1, (S.out.cell _ (.tail _ (.tail _ (.tail _ (.head _))))).1, (S.out.cell _ (.tail _ (.tail _ (.tail _ (.tail _ (.head _)))))).1, (S.out.cell _ (.tail _ (.tail _ (.tail _ (.tail _ (.tail _ (.head _))))))).1, (S.out.cell _ (.tail _ (.tail _ (.tail _ (.tail _ (.tail _ (.tail _ (.head _)))))))).1⟩
end
section
variable {Pr : Program} {md : Region.Mode} {ops : Array Oper} {Q : Exit → Act → World → Prop} {S : World → Prop} {ds : List Nat}
theorem ed (N : Tmp) {fuel : Nat} {l : Array Bool} {b a' : Act} {v : Value} {w : World} (h : bY Pr md ops Q S ds fuel l a' w) (ha : Act.put b (some N) v = a' := by simp only [Act.put, List.setIfInBounds_toArray, List.set_cons_zero, List.set_cons_succ, lT, lS]; rfl) : bY Pr md ops Q S ds fuel l (Act.put b (some N) v) w := rZ ha h
end
section
variable {α : Type} {d : Kd α} {e : TypeId} {w : World} {P : Nat → Prop} {bs bs' : List (Option Nat × Obj)} {ow : List (Value × List ai)} {ts : List (Value × List ai)} {ro : List (Addr × Value)} {W W1 : World} {b0 : Nat} {o o1 : Obj} {v v1 : Value} {xs : List α} {ok : Nat → Prop}
def KR (d : Kd α) (e : TypeId) (base : Nat) (v : Value) (xs : List α) (o : Obj) : Prop := ∀ W : World, (∀ g, v.ownBlock = some g → W.heap[g]? = some o) → d.R e W base (fun k => some k = v.ownBlock) v xs
theorem Il {b' : Nat} (hE : d.E = []) (h : d.R e W1 b0 ok v xs) (hb : b' ≤ b0) : ∃ o, (∀ g, v.ownBlock = some g → W1.heap[g]? = some o) ∧ KR d e b' v xs o := by
 have ht := Kd.iV (Kd.CB hE h) hb
 cases hv : v.ownBlock with
 | none => exact ⟨.cells #[] 0 (0, 0), fun g hg => (by cases hg), fun W hW => Kd.xy ht (fun k hk => (by rw [hv] at hk; cases hk))⟩
 | some g =>
  obtain ⟨cells, hc⟩ := Kd.Fp h g hv
  refine ⟨_, fun g' hg => (by injection hg with hg; rw [← hg]; exact hc), fun W hW => Kd.xy ht (fun k hk _ => ?_)⟩
  rw [hv] at hk
  injection hk with hk
  rw [hk, hc]
  exact hW g hv
theorem St.OT (hE : d.E = []) (S : St w P bs ow ts ro W) (h : d.R e W1 W.heap.size ok v xs) (hb : Below W.heap.size W W1) : ∃ o, St w P ((v.ownBlock, o) :: bs) ow ts ro W1 ∧ KR d e w.heap.size v xs o := by
 obtain ⟨o, h1, h2⟩ := Il hE h S.below.size
 exact ⟨o, S.Tq v.ownBlock (fun g hg => ⟨Kd.mJ h g hg, h1 g hg⟩) hb, h2⟩
theorem IY (d : Kd α) (e : TypeId) (base : Nat) : KR d e base (.slice none 0 0) [] (.cells #[] 0 (0, 0)) := fun _ _ => Kd.qR _ _ _ _ _
theorem St.noK (S : St w P bs ow ts ro W) : St w P (((Value.slice none 0 0).ownBlock, .cells #[] 0 (0, 0)) :: bs) ow ts ro W := S.Tq none (fun _ h => by cases h) (Below.refl _ _)
theorem IX {base : Nat} (HI : KR d e base v xs o) (S : St w P bs ow ts ro W) (hm : (v.ownBlock, o) ∈ bs) : d.R e W base (fun k => some k = v.ownBlock) v xs := HI W (S.blk _ hm)
theorem ZF {base : Nat} {A : Option Addr} {c : Nat} (HI : KR d e base (.slice A xs.length c) xs o) (S : St w P bs ow ts ro W) (hm : ((Value.slice A xs.length c).ownBlock, o) ∈ bs) : d.C W A xs.length xs ∧ xs.length ≤ c :=
 have h := Kd.bQ (IX HI S hm)
 ⟨h.2.2, h.2.1⟩
theorem St.perm (hp : bs.Perm bs') (S : St w P bs ow ts ro W) : St w P bs' ow ts ro W := by
 have hk : (keys bs ow).Perm (keys bs' ow) := (hp.filterMap _).append_right _
 have hm : ∀ k, k ∈ keys bs' ow ↔ k ∈ keys bs ow := fun k => hk.symm.mem_iff
 have hO : ∀ k, Ok w P (keys bs ow) k → Ok w P (keys bs' ow) k := fun k h => ⟨h.1, fun h2 => h.2 ((hm k).1 h2)⟩
 exact ⟨S.below, fun x hx => S.blk x (hp.symm.mem_iff.1 hx), fun k hk => S.new k ((hm k).1 hk), hk.nodup_iff.1 S.nd, fun t ht => Kd.gG (S.tree t ht) hO, fun r hr => Kd.iT (S.own r hr) (fun k h => h.imp (hO k) id), fun c hc => ⟨(S.cell c hc).1, fun h => (S.cell c hc).2 ((hm _).1 h)⟩⟩
variable {x b1 b2 b3 b4 b5 b6 : Option Nat × Obj}
theorem St.sO (S : St w P (b1 :: x :: bs) ow ts ro W) : St w P (x :: b1 :: bs) ow ts ro W := S.perm (List.perm_middle (l₁ := [b1]))
theorem St.Hl (S : St w P (b1 :: b2 :: x :: bs) ow ts ro W) : St w P (x :: b1 :: b2 :: bs) ow ts ro W := S.perm (List.perm_middle (l₁ := [b1, b2]))
theorem St.qp (S : St w P (b1 :: b2 :: b3 :: x :: bs) ow ts ro W) : St w P (x :: b1 :: b2 :: b3 :: bs) ow ts ro W := S.perm (List.perm_middle (l₁ := [b1, b2, b3]))
end
section
variable {α : Type} {d : Kd α} {e : TypeId} {Pr : Program} {ops : Array Oper} {rest : List Oper} {op : Oper} {a : Act} {Q : Exit → Act → World → Prop} {Kc : Act → World → Prop} {w W : World} {P : Nat → Prop} {bs : List (Option Nat × Obj)} {ow : List (Value × List ai)} {ts : List (Value × List ai)} {ro : List (Addr × Value)} {v : Value} {xs : List α} {o : Obj}
theorem mD (d : Kd α) (e : TypeId) (hE : d.E = []) (N : Tmp) (S : ae (St w P bs ow ts ro W)) (h : ∀ A c o w1, ae (St w P (((Value.slice A 0 c).ownBlock, o) :: bs) ow ts ro w1) → ae (KR d e w.heap.size (.slice A 0 c) [] o) → wpList Pr ops Q rest (a.put op.dst (.slice A 0 c)) w1)
  (hd : op.dst = some N := by rfl) (hgd : op.guard = none := by rfl) (hrun : (execOp a.eval op).run Pr W = .ok (.value (.slice (some ⟨W.heap.size, 0, none⟩) 0 0)) (W.alloc (.cells #[] e)) := by first | (go_simp; done) | (go_simp; rfl)) : wpList Pr ops Q (op :: rest) a W :=
 Kd.o8 d (w0 := W) W.heap.size e hgd hd (xs := ([] : List α)) (inner := []) (ok := fun _ => True) (fH := fun _ => True) hrun (bD.none _ _) (fun _ hk => hk) trivial (Below.refl _ _) (Nat.le_refl _) (by simp) (fun v1 w1 hR hb hg _ => by
  obtain ⟨A, c, rfl⟩ := Kd.fG hR
  obtain ⟨o, S1, HI⟩ := S.out.OT hE hR (um hg)
  exact h A c o w1 ⟨S1⟩ ⟨HI⟩)
theorem sN (d : Kd α) (e : TypeId) (hE : d.E = []) (s x : Tmp) (t : TypeId) (z : Value) (bytes : Nat) (ht : Pr.underlying t = some (.slice e)) (hinfo : (Pr.info? e).map (fun i => (i.zero, i.size, i.bytes)) = some (some z, d.sz, bytes)) (hz : z.cells.size = d.sz) (hs0 : 0 < d.sz) (hb0 : 0 < bytes) (hbb : bytes ≤ 1000)
  (S : ae (St w P ((v.ownBlock, o) :: bs) ow ts ro W)) (hI : ae (KR d e w.heap.size v xs o)) (y : α) (cs : List Value) (hM : ∀ W b ok, d.M W b ok y cs) (hl : xs.length ≤ 10000000)
  (h : ∀ A1 c1 o1 w1, ae (St w P (((Value.slice A1 (xs ++ [y]).length c1).ownBlock, o1) :: bs) ow ts ro w1) → ae (KR d e w.heap.size (.slice A1 (xs ++ [y]).length c1) (xs ++ [y]) o1) → wpList Pr ops Q rest (a.put op.dst (.slice A1 (xs ++ [y]).length c1)) w1)
  (hgd : op.guard = none := by rfl) (ho : op.op = .call { callee := .builtin .append, args := #[.tmp s, .tmp x], argTypes := #[t, t] } := by rfl) (hs : a.eval (.tmp s) = v := by rfl) (hx : a.eval (.tmp x) = .slice (some ⟨W.heap.size, 0, none⟩) 1 1 := by first | rfl | (go_simp; rfl)) :
  wpList Pr ops Q (op :: rest) a (W.alloc (.cells cs.toArray e)) := by
 have hR := hI.out W (S.out.blk _ List.mem_cons_self)
 refine Kd.xx d (w0 := w) w.heap.size hgd (.tmp s) (.tmp x) t e z bytes ho ht hinfo hz hs0 hb0 v xs y cs (fun _ => True) (fun _ => False) hs hx (hM _ _ _) (fun _ hk => hk.elim) (fun _ _ => trivial) (Kd.oG hR (fun _ _ => trivial)) S.out.below S.out.below.size
  (Nat.le_trans (Nat.mul_le_mul (show xs.length + 1 ≤ 10000001 by omega) hbb) (by decide)) ?_
 intro v1 w1 hr hb hg hat
 obtain ⟨A1, c1, rfl⟩ := Kd.fG hr
 obtain ⟨o1, h1, h2⟩ := Il hE hr (Nat.le_refl _)
 exact h A1 c1 o1 w1 ⟨S.out.zx hb hg hat h1⟩ ⟨h2⟩
theorem Ji (d : Kd α) (e : TypeId) (hE : d.E = []) (s x : Tmp) (t : TypeId) (z : Value) (bytes : Nat) (ht : Pr.underlying t = some (.slice e)) (hinfo : (Pr.info? e).map (fun i => (i.zero, i.size, i.bytes)) = some (some z, d.sz, bytes)) (hz : z.cells.size = d.sz) (hs0 : 0 < d.sz) (hb0 : 0 < bytes) (hbb : bytes ≤ 1000)
  (S : ae (St w P ((v.ownBlock, o) :: bs) ow ts ro W)) (hI : ae (KR d e w.heap.size v xs o)) (y : α) (cs : List Value) (hM : ∀ W b ok, d.M W b ok y cs) (hl : xs.length ≤ 10000000)
  (h : ∀ A1 c1 o1 w1, ae (St w P (((Value.slice A1 (xs ++ [y]).length c1).ownBlock, o1) :: bs) ow ts ro w1) → ae (KR d e w.heap.size (.slice A1 (xs ++ [y]).length c1) (xs ++ [y]) o1) → Kc (a.put op.dst (.slice A1 (xs ++ [y]).length c1)) w1)
  (hw : Region.wanted op (yielded ops a.tmps) = true := by rfl) (ho : op.op = .call { callee := .builtin .append, args := #[.tmp s, .tmp x], argTypes := #[t, t] } := by rfl) (hs : a.eval (.tmp s) = v := by rfl) (hx : a.eval (.tmp x) = .slice (some ⟨W.heap.size, 0, none⟩) 1 1 := by first | rfl | (go_simp; rfl)) :
  if Region.wanted op (yielded ops a.tmps) = true then Oper.wp Pr op a (W.alloc (.cells cs.toArray e)) Kc Q else Kc (a.put op.dst undef) (W.alloc (.cells cs.toArray e)) := by
 have hR := hI.out W (S.out.blk _ List.mem_cons_self)
 refine Kd.Aw d (w0 := w) w.heap.size hw (.tmp s) (.tmp x) t e z bytes ho ht hinfo hz hs0 hb0 v xs y cs (fun _ => True) (fun _ => False) hs hx (hM _ _ _) (fun _ hk => hk.elim) (fun _ _ => trivial) (Kd.oG hR (fun _ _ => trivial)) S.out.below S.out.below.size
  (Nat.le_trans (Nat.mul_le_mul (show xs.length + 1 ≤ 10000001 by omega) hbb) (by decide)) ?_
 intro v1 w1 hr hb hg hat
 obtain ⟨A1, c1, rfl⟩ := Kd.fG hr
 obtain ⟨o1, h1, h2⟩ := Il hE hr (Nat.le_refl _)
 exact h A1 c1 o1 w1 ⟨S.out.zx hb hg hat h1⟩ ⟨h2⟩
theorem Ti (d : Kd α) (e : TypeId) (hE : d.E = []) (s x : Tmp) (t : TypeId) (z : Value) (bytes : Nat) (ht : Pr.underlying t = some (.slice e)) (hinfo : (Pr.info? e).map (fun i => (i.zero, i.size, i.bytes)) = some (some z, d.sz, bytes)) (hz : z.cells.size = d.sz) (hs0 : 0 < d.sz) (hb0 : 0 < bytes) (hbb : bytes ≤ 1000)
  (S : ae (St w P ((v.ownBlock, o) :: bs) ow ts ro W)) (hI : ae (KR d e w.heap.size v xs o)) {A : Option Addr} {c : Nat} (ys : List α) (hC : d.C W A ys.length ys) (hK : ∀ W b ok y cs, d.K W y cs → d.M W b ok y cs) (hl : xs.length + ys.length ≤ 1000000000)
  (h : ∀ A1 c1 o1 w1, ae (St w P (((Value.slice A1 (xs ++ ys).length c1).ownBlock, o1) :: bs) ow ts ro w1) → ae (KR d e w.heap.size (.slice A1 (xs ++ ys).length c1) (xs ++ ys) o1) → wpList Pr ops Q rest (a.put op.dst (.slice A1 (xs ++ ys).length c1)) w1)
  (hgd : op.guard = none := by rfl) (ho : op.op = .call { callee := .builtin .append, args := #[.tmp s, .tmp x], argTypes := #[t, t] } := by rfl) (hs : a.eval (.tmp s) = v := by rfl) (hx : a.eval (.tmp x) = .slice A ys.length c := by rfl) :
  wpList Pr ops Q (op :: rest) a W := by
 have hR := hI.out W (S.out.blk _ List.mem_cons_self)
 refine Kd.wI d (Rr := d.K W) (w0 := w) w.heap.size hgd (.tmp s) (.tmp x) t e z bytes ho ht hinfo hz hs0 hb0 v xs ys A ys.length c (fun _ => True) (fun _ => False) hs hx (Kd.oG hR (fun _ _ => trivial)) hC (fun y cs h => hK _ _ _ y cs h) (fun _ hk => hk.elim) (fun _ _ => trivial) S.out.below S.out.below.size
  (Nat.le_trans (Nat.mul_le_mul hl hbb) (by decide)) ?_
 intro v1 w1 hr hb hg hat
 obtain ⟨A1, c1, rfl⟩ := Kd.fG hr
 obtain ⟨o1, h1, h2⟩ := Il hE hr (Nat.le_refl _)
 exact h A1 c1 o1 w1 ⟨S.out.zx hb hg hat h1⟩ ⟨h2⟩
end
section
variable {w W W1 : World} {P : Nat → Prop} {bs : List (Option Nat × Obj)} {ow : List (Value × List ai)} {ts : List (Value × List ai)} {ro : List (Addr × Value)}
theorem St.ac' (new : List (Option Nat × Obj)) (S : St w P bs ow ts ro W) (hk : ∀ p, p ∈ new → ∀ g, p.1 = some g → W.heap.size ≤ g ∧ W1.heap[g]? = some p.2) (hnd : (new.filterMap (·.1)).Nodup) (hb : Below W.heap.size W W1) : St w P (new ++ bs) ow ts ro W1 := by
 have ke : keys (new ++ bs) ow = new.filterMap (·.1) ++ keys bs ow := by unfold keys; rw [List.filterMap_append, List.append_assoc]
 have hn : ∀ k, k ∈ new.filterMap (·.1) → W.heap.size ≤ k ∧ k < W1.heap.size := fun k h => by
  obtain ⟨p, hp, he⟩ := List.mem_filterMap.1 h
  exact ⟨(hk p hp k he).1, iy (hk p hp k he).2⟩
 have hnot : ∀ k, k < W.heap.size → k ∉ keys bs ow → k ∉ keys (new ++ bs) ow := fun k h1 h2 h3 => by
  rw [ke] at h3
  rcases List.mem_append.1 h3 with h | h
  ·have := (hn k h).1; omega
  ·exact h2 h
 refine ⟨ak S.below hb, fun p hp g hg => ?_, fun k h => ?_, ?_, fun t ht => ?_, fun r hr => ?_, fun c hc => ?_⟩
 ·rcases List.mem_append.1 hp with h | h
  ·exact (hk p h g hg).2
  ·exact aY (S.blk p h g hg) hb
 ·rw [ke] at h
  rcases List.mem_append.1 h with h | h
  ·exact ⟨Nat.le_trans S.below.size (hn k h).1, (hn k h).2⟩
  ·exact ⟨(S.new k h).1, Nat.lt_of_lt_of_le (S.new k h).2 hb.size⟩
 ·rw [ke]
  refine List.nodup_append.2 ⟨hnd, S.nd, fun x hx y hy => ?_⟩
  rintro rfl
  have := (hn x hx).1
  have := S.lt hy
  omega
 ·exact Kd.gG (Kd.kE (Kd.CE (S.tree t ht)) hb) (fun k h => ⟨h.1.1, hnot k h.2 h.1.2⟩)
 ·exact Kd.iT (Kd.qQ (Kd.y8 (S.own r hr)) hb) (fun k h => h.1.imp (fun h1 => ⟨h1.1, hnot k h.2 h1.2⟩) id)
 ·exact ⟨(hb.cell (World.block_lt_of_cell? W _ (S.cell c hc).1)).trans (S.cell c hc).1, hnot _ (World.block_lt_of_cell? W _ (S.cell c hc).1) (S.cell c hc).2⟩
structure Two {α β : Type} (d : Kd α) (e : TypeId) (d' : Kd β) (e' : TypeId) (w w' : World) (v : Value) (l : List α) (v' : Value) (l' : List β) (o o' : Obj) : Prop where
 one : KR d e w.heap.size v l o
 two : KR d' e' w.heap.size v' l' o'
 ZZ : ∀ g, v.ownBlock = some g → w.heap.size ≤ g ∧ w'.heap[g]? = some o
 at2 : ∀ g, v'.ownBlock = some g → w.heap.size ≤ g ∧ w'.heap[g]? = some o'
 ne : ∀ g, v.ownBlock = some g → v'.ownBlock ≠ some g
theorem zD {α : Type} {d : Kd α} {e : TypeId} {b b' : Nat} {v : Value} {l : List α} {o : Obj} (h : KR d e b v l o) (hb : b' ≤ b) : KR d e b' v l o := fun W hW => Kd.iV (h W hW) hb
theorem St.two {α β : Type} {d : Kd α} {e : TypeId} {d' : Kd β} {e' : TypeId} {v v' : Value} {l : List α} {l' : List β} {o o' : Obj} (S : St w P bs ow ts ro W) (h : Two d e d' e' W W1 v l v' l' o o') (hb : Below W.heap.size W W1) :
  St w P ((v.ownBlock, o) :: (v'.ownBlock, o') :: bs) ow ts ro W1 ∧ KR d e w.heap.size v l o ∧ KR d' e' w.heap.size v' l' o' := by
 refine ⟨S.ac' [(v.ownBlock, o), (v'.ownBlock, o')] (fun p hp g hg => ?_) ?_ hb, zD h.one S.below.size, zD h.two S.below.size⟩
 ·simp only [List.mem_cons, List.not_mem_nil, or_false] at hp
  rcases hp with rfl | rfl
  ·exact h.ZZ g hg
  ·exact h.at2 g hg
 ·cases h1 : v.ownBlock with
  | none => cases h2 : v'.ownBlock <;> simp
  | some g =>
   have hn := h.ne g h1
   cases h2 : v'.ownBlock with
   | none => simp
   | some g' =>
    rw [h2] at hn
    simp
    intro he
    exact hn (by rw [he])
theorem St.Rj {α β : Type} {d : Kd α} {e : TypeId} {d' : Kd β} {e' : TypeId} {v v' : Value} {l : List α} {l' : List β} {o o' : Obj} (S : St w P ((v.ownBlock, o) :: (v'.ownBlock, o') :: bs) ow ts ro W) (h1 : KR d e w.heap.size v l o) (h2 : KR d' e' w.heap.size v' l' o') : Two d e d' e' w W v l v' l' o o' := by
 refine ⟨h1, h2, fun g hg => ⟨(S.new g (mem_keys (List.mem_cons_self) hg)).1, S.blk _ List.mem_cons_self g hg⟩, fun g hg => ⟨(S.new g (mem_keys (List.mem_cons_of_mem _ List.mem_cons_self) hg)).1, S.blk _ (List.mem_cons_of_mem _ List.mem_cons_self) g hg⟩, fun g hg hg2 => ?_⟩
 have hnd := S.nd
 unfold keys at hnd
 rw [List.filterMap_cons, List.filterMap_cons, hg, hg2] at hnd
 exact (List.nodup_cons.1 hnd).1 (by simp)
theorem St.OG {α : Type} {d : Kd α} {e : TypeId} {v : Value} {l : List α} {o : Obj} (S : St w P bs ow ts ro W) (h : KR d e w.heap.size v l o) (hm : (v.ownBlock, o) ∈ bs) : d.R e W w.heap.size (fun _ => True) v l := Kd.oG (IX h S hm) (fun _ _ => trivial)
end
end Go.Proofs.Ytfdmfgaiblfbhaa.P
namespace Go.Proofs.Ytfdmfgaiblfbhaa.P
open Go.RowKit Go.Proofs.ag.aV Go.Proofs.ag.bM Go.Proofs.ag.di
attribute [local go_sem] kC kP lh lU jR jS kN kQ
def uZ.f (ay : Int) (aJ : Int) (aA : Int) (aH : Int) : Option (Bool) := if ay ≥ 0 then (if aA ≥ 1 then (if aA ≤ 10000 then (if ay ≤ (wrap64 (10000 - aA)) then (if aJ ≥ 0 then (if aH ≥ 1 then (if aH ≤ 10000 then (some (decide (aJ ≤ (wrap64 (10000 - aH))))) else (some false)) else (some false)) else (some false)) else (some false)) else (some false)) else (some false)) else (some false)
theorem uZ.calls (ay : Int) (aJ : Int) (aA : Int) (aH : Int) (r : Bool) (w : World) (h : uZ.f ay aJ aA aH = some r) :
  Calls Try.prog 128 #[.agg #[.int .i64 ay, .int .i64 aJ, .int .i64 aA, .int .i64 aH]] w fun e w' => e = .returned (.bool r) ∧ Below w.heap.size w w' := by
 have JQ := Try.underlying23
 have HB := ae.mk (Below.refl w.heap.size w)
 have H : (if ay ≥ 0 then (if aA ≥ 1 then (if aA ≤ 10000 then (if ay ≤ (wrap64 (10000 - aA)) then (if aJ ≥ 0 then (if aH ≥ 1 then (if aH ≤ 10000 then (some (decide (aJ ≤ (wrap64 (10000 - aH))))) else (some false)) else (some false)) else (some false)) else (some false)) else (some false)) else (some false)) else (some false)) = some r := h
 clear h
 by_cases c2 : ay ≥ 0
 ·rw [if_pos c2] at H
  have Jn : decide (0 ≤ ay) = true := decide_eq_true c2
  clear c2
  by_cases c3 : aA ≥ 1
  ·rw [if_pos c3] at H
   have nY : decide (1 ≤ aA) = true := decide_eq_true c3
   clear c3
   by_cases c4 : aA ≤ 10000
   ·rw [if_pos c4] at H
    have wK : decide (aA ≤ 10000) = true := decide_eq_true c4
    clear c4
    by_cases c5 : ay ≤ (wrap64 (10000 - aA))
    ·rw [if_pos c5] at H
     have zN : decide (ay ≤ (wrap64 (10000 - aA))) = true := decide_eq_true c5
     clear c5
     by_cases c6 : aJ ≥ 0
     ·rw [if_pos c6] at H
      have uh : decide (0 ≤ aJ) = true := decide_eq_true c6
      clear c6
      by_cases c7 : aH ≥ 1
      ·rw [if_pos c7] at H
       have qH : decide (1 ≤ aH) = true := decide_eq_true c7
       clear c7
       by_cases c8 : aH ≤ 10000
       ·rw [if_pos c8] at H
        have uQ : decide (aH ≤ 10000) = true := decide_eq_true c8
        clear c8
        obtain rfl := Option.some.inj H
        go_enter Try.func128, Try.ntmps128
        go_wp2_with (((with_reducible refine aC (N := 1) rfl ?_); refine aW ?hg (N := 1) ?hd (cs := #[.int .i64 ay, .int .i64 aJ, .int .i64 aA, .int .i64 aH]) (t := 23) ?hr ?_; (case hd => rfl); (case hg => rfl); (case hr => (go_simp; done)); intro gV hg w9 hbox hb; have dI := ae.mk (hbox); replace HB := ae.mk (ak (by repeat ((with_reducible exact HB.out))) hb); clear hb hbox hg; have LV : w9.cell? ⟨gV, 0, none⟩ = some (.int .i64 ay) := (af dI.out 0).trans rfl; have LW : w9.cell? ⟨gV, 1, none⟩ = some (.int .i64 aJ) := (af dI.out 1).trans rfl; have LX : w9.cell? ⟨gV, 2, none⟩ = some (.int .i64 aA) := (af dI.out 2).trans rfl; have LY : w9.cell? ⟨gV, 3, none⟩ = some (.int .i64 aH) := (af dI.out 3).trans rfl; have L_ := ah dI.out 0; have Mc := ah dI.out 1; have Md := ah dI.out 2; have Me := ah dI.out 3))
        go_ret
        exact ⟨by rfl, by repeat ((with_reducible exact HB.out))⟩
       ·rw [if_neg c8] at H
        have uQ : decide (aH ≤ 10000) = false := decide_eq_false c8
        clear c8
        obtain rfl := Option.some.inj H
        go_enter Try.func128, Try.ntmps128
        go_wp2_with (((with_reducible refine aC (N := 1) rfl ?_); refine aW ?hg (N := 1) ?hd (cs := #[.int .i64 ay, .int .i64 aJ, .int .i64 aA, .int .i64 aH]) (t := 23) ?hr ?_; (case hd => rfl); (case hg => rfl); (case hr => (go_simp; done)); intro gV hg yL hbox hb; have dI := ae.mk (hbox); replace HB := ae.mk (ak (by repeat ((with_reducible exact HB.out))) hb); clear hb hbox hg; have WR : yL.cell? ⟨gV, 0, none⟩ = some (.int .i64 ay) := (af dI.out 0).trans rfl; have WS : yL.cell? ⟨gV, 1, none⟩ = some (.int .i64 aJ) := (af dI.out 1).trans rfl; have WT : yL.cell? ⟨gV, 2, none⟩ = some (.int .i64 aA) := (af dI.out 2).trans rfl; have WU : yL.cell? ⟨gV, 3, none⟩ = some (.int .i64 aH) := (af dI.out 3).trans rfl; have XC := ah dI.out 0; have XD := ah dI.out 1; have XE := ah dI.out 2; have XF := ah dI.out 3))
        go_ret
        exact ⟨by rfl, by repeat ((with_reducible exact HB.out))⟩
      ·rw [if_neg c7] at H
       have qH : decide (1 ≤ aH) = false := decide_eq_false c7
       clear c7
       obtain rfl := Option.some.inj H
       go_enter Try.func128, Try.ntmps128
       go_wp2_with (((with_reducible refine aC (N := 1) rfl ?_); refine aW ?hg (N := 1) ?hd (cs := #[.int .i64 ay, .int .i64 aJ, .int .i64 aA, .int .i64 aH]) (t := 23) ?hr ?_; (case hd => rfl); (case hg => rfl); (case hr => (go_simp; done)); intro gV hg qP hbox hb; have dI := ae.mk (hbox); replace HB := ae.mk (ak (by repeat ((with_reducible exact HB.out))) hb); clear hb hbox hg; have FO : qP.cell? ⟨gV, 0, none⟩ = some (.int .i64 ay) := (af dI.out 0).trans rfl; have FP : qP.cell? ⟨gV, 1, none⟩ = some (.int .i64 aJ) := (af dI.out 1).trans rfl; have FQ : qP.cell? ⟨gV, 2, none⟩ = some (.int .i64 aA) := (af dI.out 2).trans rfl; have FT : qP.cell? ⟨gV, 3, none⟩ = some (.int .i64 aH) := (af dI.out 3).trans rfl; have FU := ah dI.out 0; have FV := ah dI.out 1; have FW := ah dI.out 2; have FX := ah dI.out 3))
       go_ret
       exact ⟨by rfl, by repeat ((with_reducible exact HB.out))⟩
     ·rw [if_neg c6] at H
      have uh : decide (0 ≤ aJ) = false := decide_eq_false c6
      clear c6
      obtain rfl := Option.some.inj H
      go_enter Try.func128, Try.ntmps128
      go_wp2_with (((with_reducible refine aC (N := 1) rfl ?_); refine aW ?hg (N := 1) ?hd (cs := #[.int .i64 ay, .int .i64 aJ, .int .i64 aA, .int .i64 aH]) (t := 23) ?hr ?_; (case hd => rfl); (case hg => rfl); (case hr => (go_simp; done)); intro gV hg ry hbox hb; have dI := ae.mk (hbox); replace HB := ae.mk (ak (by repeat ((with_reducible exact HB.out))) hb); clear hb hbox hg; have LZ : ry.cell? ⟨gV, 0, none⟩ = some (.int .i64 ay) := (af dI.out 0).trans rfl; have L6 : ry.cell? ⟨gV, 1, none⟩ = some (.int .i64 aJ) := (af dI.out 1).trans rfl; have L8 : ry.cell? ⟨gV, 2, none⟩ = some (.int .i64 aA) := (af dI.out 2).trans rfl; have L9 : ry.cell? ⟨gV, 3, none⟩ = some (.int .i64 aH) := (af dI.out 3).trans rfl; have MB := ah dI.out 0; have MC := ah dI.out 1; have MF := ah dI.out 2; have MG := ah dI.out 3))
      go_ret
      exact ⟨by rfl, by repeat ((with_reducible exact HB.out))⟩
    ·rw [if_neg c5] at H
     have zN : decide (ay ≤ (wrap64 (10000 - aA))) = false := decide_eq_false c5
     clear c5
     obtain rfl := Option.some.inj H
     go_enter Try.func128, Try.ntmps128
     go_wp2_with (((with_reducible refine aC (N := 1) rfl ?_); refine aW ?hg (N := 1) ?hd (cs := #[.int .i64 ay, .int .i64 aJ, .int .i64 aA, .int .i64 aH]) (t := 23) ?hr ?_; (case hd => rfl); (case hg => rfl); (case hr => (go_simp; done)); intro gV hg Sm hbox hb; have dI := ae.mk (hbox); replace HB := ae.mk (ak (by repeat ((with_reducible exact HB.out))) hb); clear hb hbox hg; have Xd : Sm.cell? ⟨gV, 0, none⟩ = some (.int .i64 ay) := (af dI.out 0).trans rfl; have Xe : Sm.cell? ⟨gV, 1, none⟩ = some (.int .i64 aJ) := (af dI.out 1).trans rfl; have Xf : Sm.cell? ⟨gV, 2, none⟩ = some (.int .i64 aA) := (af dI.out 2).trans rfl; have Xg : Sm.cell? ⟨gV, 3, none⟩ = some (.int .i64 aH) := (af dI.out 3).trans rfl; have XQ := ah dI.out 0; have XR := ah dI.out 1; have XT := ah dI.out 2; have XU := ah dI.out 3))
     go_ret
     exact ⟨by rfl, by repeat ((with_reducible exact HB.out))⟩
   ·rw [if_neg c4] at H
    have wK : decide (aA ≤ 10000) = false := decide_eq_false c4
    clear c4
    obtain rfl := Option.some.inj H
    go_enter Try.func128, Try.ntmps128
    go_wp2_with (((with_reducible refine aC (N := 1) rfl ?_); refine aW ?hg (N := 1) ?hd (cs := #[.int .i64 ay, .int .i64 aJ, .int .i64 aA, .int .i64 aH]) (t := 23) ?hr ?_; (case hd => rfl); (case hg => rfl); (case hr => (go_simp; done)); intro gV hg Cb hbox hb; have dI := ae.mk (hbox); replace HB := ae.mk (ak (by repeat ((with_reducible exact HB.out))) hb); clear hb hbox hg; have Xh : Cb.cell? ⟨gV, 0, none⟩ = some (.int .i64 ay) := (af dI.out 0).trans rfl; have Xi : Cb.cell? ⟨gV, 1, none⟩ = some (.int .i64 aJ) := (af dI.out 1).trans rfl; have Xj : Cb.cell? ⟨gV, 2, none⟩ = some (.int .i64 aA) := (af dI.out 2).trans rfl; have Xk : Cb.cell? ⟨gV, 3, none⟩ = some (.int .i64 aH) := (af dI.out 3).trans rfl; have XV := ah dI.out 0; have XW := ah dI.out 1; have XX := ah dI.out 2; have XY := ah dI.out 3))
    go_ret
    exact ⟨by rfl, by repeat ((with_reducible exact HB.out))⟩
  ·rw [if_neg c3] at H
   have nY : decide (1 ≤ aA) = false := decide_eq_false c3
   clear c3
   obtain rfl := Option.some.inj H
   go_enter Try.func128, Try.ntmps128
   go_wp2_with (((with_reducible refine aC (N := 1) rfl ?_); refine aW ?hg (N := 1) ?hd (cs := #[.int .i64 ay, .int .i64 aJ, .int .i64 aA, .int .i64 aH]) (t := 23) ?hr ?_; (case hd => rfl); (case hg => rfl); (case hr => (go_simp; done)); intro gV hg E_ hbox hb; have dI := ae.mk (hbox); replace HB := ae.mk (ak (by repeat ((with_reducible exact HB.out))) hb); clear hb hbox hg; have Xl : E_.cell? ⟨gV, 0, none⟩ = some (.int .i64 ay) := (af dI.out 0).trans rfl; have Xm : E_.cell? ⟨gV, 1, none⟩ = some (.int .i64 aJ) := (af dI.out 1).trans rfl; have Xn : E_.cell? ⟨gV, 2, none⟩ = some (.int .i64 aA) := (af dI.out 2).trans rfl; have Xo : E_.cell? ⟨gV, 3, none⟩ = some (.int .i64 aH) := (af dI.out 3).trans rfl; have XZ := ah dI.out 0; have X0 := ah dI.out 1; have X3 := ah dI.out 2; have X4 := ah dI.out 3))
   go_ret
   exact ⟨by rfl, by repeat ((with_reducible exact HB.out))⟩
 ·rw [if_neg c2] at H
  have Jn : decide (0 ≤ ay) = false := decide_eq_false c2
  clear c2
  obtain rfl := Option.some.inj H
  go_enter Try.func128, Try.ntmps128
  go_wp2_with (((with_reducible refine aC (N := 1) rfl ?_); refine aW ?hg (N := 1) ?hd (cs := #[.int .i64 ay, .int .i64 aJ, .int .i64 aA, .int .i64 aH]) (t := 23) ?hr ?_; (case hd => rfl); (case hg => rfl); (case hr => (go_simp; done)); intro gV hg Fa hbox hb; have dI := ae.mk (hbox); replace HB := ae.mk (ak (by repeat ((with_reducible exact HB.out))) hb); clear hb hbox hg; have Xp : Fa.cell? ⟨gV, 0, none⟩ = some (.int .i64 ay) := (af dI.out 0).trans rfl; have Xq : Fa.cell? ⟨gV, 1, none⟩ = some (.int .i64 aJ) := (af dI.out 1).trans rfl; have Xr : Fa.cell? ⟨gV, 2, none⟩ = some (.int .i64 aA) := (af dI.out 2).trans rfl; have Xt : Fa.cell? ⟨gV, 3, none⟩ = some (.int .i64 aH) := (af dI.out 3).trans rfl; have X5 := ah dI.out 0; have X6 := ah dI.out 1; have X7 := ah dI.out 2; have X8 := ah dI.out 3))
  go_ret
  exact ⟨by rfl, by repeat ((with_reducible exact HB.out))⟩
def nC.f (ay : Int) (aJ : Int) (aA : Int) (aH : Int) : Option (Bool) := if ay < 0 then (some false) else (if ay > 10000 then (some false) else (if aJ < 0 then (some false) else (if aJ > 10000 then (some false) else (if aA > 0 then (if aA ≤ 10000 then (if aH > 0 then (if aH ≤ 10000 then (if (wrap64 (ay + aA)) ≤ 10000 then (some (decide ((wrap64 (aJ + aH)) ≤ 10000))) else (some false)) else (some false)) else (some false)) else (some false)) else (some false)))))
theorem nC.calls (ay : Int) (aJ : Int) (aA : Int) (aH : Int) (r : Bool) (w : World) (h : nC.f ay aJ aA aH = some r) :
  Calls Try.prog 57 #[.agg #[.int .i64 ay, .int .i64 aJ, .int .i64 aA, .int .i64 aH]] w fun e w' => e = .returned (.bool r) ∧ Below w.heap.size w w' := by
 have JQ := Try.underlying23
 have HB := ae.mk (Below.refl w.heap.size w)
 have H : (if ay < 0 then (some false) else (if ay > 10000 then (some false) else (if aJ < 0 then (some false) else (if aJ > 10000 then (some false) else (if aA > 0 then (if aA ≤ 10000 then (if aH > 0 then (if aH ≤ 10000 then (if (wrap64 (ay + aA)) ≤ 10000 then (some (decide ((wrap64 (aJ + aH)) ≤ 10000))) else (some false)) else (some false)) else (some false)) else (some false)) else (some false)))))) = some r := h
 clear h
 by_cases c2 : ay < 0
 ·rw [if_pos c2] at H
  have Jn : decide (ay < 0) = true := decide_eq_true c2
  clear c2
  obtain rfl := Option.some.inj H
  go_enter Try.func57, Try.ntmps57
  go_wp2_with (((with_reducible refine aC (N := 1) rfl ?_); refine aW ?hg (N := 1) ?hd (cs := #[.int .i64 ay, .int .i64 aJ, .int .i64 aA, .int .i64 aH]) (t := 23) ?hr ?_; (case hd => rfl); (case hg => rfl); (case hr => (go_simp; done)); intro fE hg w3 hbox hb; have bK := ae.mk (hbox); replace HB := ae.mk (ak (by repeat ((with_reducible exact HB.out))) hb); clear hb hbox hg; have JD : w3.cell? ⟨fE, 0, none⟩ = some (.int .i64 ay) := (af bK.out 0).trans rfl; have JE : w3.cell? ⟨fE, 1, none⟩ = some (.int .i64 aJ) := (af bK.out 1).trans rfl; have JF : w3.cell? ⟨fE, 2, none⟩ = some (.int .i64 aA) := (af bK.out 2).trans rfl; have JG : w3.cell? ⟨fE, 3, none⟩ = some (.int .i64 aH) := (af bK.out 3).trans rfl; have JJ := ah bK.out 0; have JK := ah bK.out 1; have JL := ah bK.out 2; have JM := ah bK.out 3))
  go_ret
  exact ⟨by rfl, by repeat ((with_reducible exact HB.out))⟩
 ·rw [if_neg c2] at H
  have Jn : decide (ay < 0) = false := decide_eq_false c2
  clear c2
  by_cases c5 : ay > 10000
  ·rw [if_pos c5] at H
   have zN : decide (10000 < ay) = true := decide_eq_true c5
   clear c5
   obtain rfl := Option.some.inj H
   go_enter Try.func57, Try.ntmps57
   go_wp2_with (((with_reducible refine aC (N := 1) rfl ?_); refine aW ?hg (N := 1) ?hd (cs := #[.int .i64 ay, .int .i64 aJ, .int .i64 aA, .int .i64 aH]) (t := 23) ?hr ?_; (case hd => rfl); (case hg => rfl); (case hr => (go_simp; done)); intro fE hg w6 hbox hb; have bK := ae.mk (hbox); replace HB := ae.mk (ak (by repeat ((with_reducible exact HB.out))) hb); clear hb hbox hg; have aa7 : w6.cell? ⟨fE, 0, none⟩ = some (.int .i64 ay) := (af bK.out 0).trans rfl; have aa8 : w6.cell? ⟨fE, 1, none⟩ = some (.int .i64 aJ) := (af bK.out 1).trans rfl; have aa9 : w6.cell? ⟨fE, 2, none⟩ = some (.int .i64 aA) := (af bK.out 2).trans rfl; have aa_ : w6.cell? ⟨fE, 3, none⟩ = some (.int .i64 aH) := (af bK.out 3).trans rfl; have abp := ah bK.out 0; have abq := ah bK.out 1; have abr := ah bK.out 2; have abt := ah bK.out 3))
   go_ret
   exact ⟨by rfl, by repeat ((with_reducible exact HB.out))⟩
  ·rw [if_neg c5] at H
   have zN : decide (10000 < ay) = false := decide_eq_false c5
   clear c5
   by_cases c8 : aJ < 0
   ·rw [if_pos c8] at H
    have uQ : decide (aJ < 0) = true := decide_eq_true c8
    clear c8
    obtain rfl := Option.some.inj H
    go_enter Try.func57, Try.ntmps57
    go_wp2_with (((with_reducible refine aC (N := 1) rfl ?_); refine aW ?hg (N := 1) ?hd (cs := #[.int .i64 ay, .int .i64 aJ, .int .i64 aA, .int .i64 aH]) (t := 23) ?hr ?_; (case hd => rfl); (case hg => rfl); (case hr => (go_simp; done)); intro fE hg w9 hbox hb; have bK := ae.mk (hbox); replace HB := ae.mk (ak (by repeat ((with_reducible exact HB.out))) hb); clear hb hbox hg; have LV : w9.cell? ⟨fE, 0, none⟩ = some (.int .i64 ay) := (af bK.out 0).trans rfl; have LW : w9.cell? ⟨fE, 1, none⟩ = some (.int .i64 aJ) := (af bK.out 1).trans rfl; have LX : w9.cell? ⟨fE, 2, none⟩ = some (.int .i64 aA) := (af bK.out 2).trans rfl; have LY : w9.cell? ⟨fE, 3, none⟩ = some (.int .i64 aH) := (af bK.out 3).trans rfl; have L_ := ah bK.out 0; have Mc := ah bK.out 1; have Md := ah bK.out 2; have Me := ah bK.out 3))
    go_ret
    exact ⟨by rfl, by repeat ((with_reducible exact HB.out))⟩
   ·rw [if_neg c8] at H
    have uQ : decide (aJ < 0) = false := decide_eq_false c8
    clear c8
    by_cases c11 : aJ > 10000
    ·rw [if_pos c11] at H
     have zM : decide (10000 < aJ) = true := decide_eq_true c11
     clear c11
     obtain rfl := Option.some.inj H
     go_enter Try.func57, Try.ntmps57
     go_wp2_with (((with_reducible refine aC (N := 1) rfl ?_); refine aW ?hg (N := 1) ?hd (cs := #[.int .i64 ay, .int .i64 aJ, .int .i64 aA, .int .i64 aH]) (t := 23) ?hr ?_; (case hd => rfl); (case hg => rfl); (case hr => (go_simp; done)); intro fE hg w12 hbox hb; have bK := ae.mk (hbox); replace HB := ae.mk (ak (by repeat ((with_reducible exact HB.out))) hb); clear hb hbox hg; have WV : w12.cell? ⟨fE, 0, none⟩ = some (.int .i64 ay) := (af bK.out 0).trans rfl; have WW : w12.cell? ⟨fE, 1, none⟩ = some (.int .i64 aJ) := (af bK.out 1).trans rfl; have WX : w12.cell? ⟨fE, 2, none⟩ = some (.int .i64 aA) := (af bK.out 2).trans rfl; have WY : w12.cell? ⟨fE, 3, none⟩ = some (.int .i64 aH) := (af bK.out 3).trans rfl; have XG := ah bK.out 0; have XH := ah bK.out 1; have XI := ah bK.out 2; have XJ := ah bK.out 3))
     go_ret
     exact ⟨by rfl, by repeat ((with_reducible exact HB.out))⟩
    ·rw [if_neg c11] at H
     have zM : decide (10000 < aJ) = false := decide_eq_false c11
     clear c11
     by_cases c14 : aA > 0
     ·rw [if_pos c14] at H
      have adb : decide (0 < aA) = true := decide_eq_true c14
      clear c14
      by_cases c15 : aA ≤ 10000
      ·rw [if_pos c15] at H
       have ade : decide (aA ≤ 10000) = true := decide_eq_true c15
       clear c15
       by_cases c16 : aH > 0
       ·rw [if_pos c16] at H
        have NT : decide (0 < aH) = true := decide_eq_true c16
        clear c16
        by_cases c17 : aH ≤ 10000
        ·rw [if_pos c17] at H
         have adg : decide (aH ≤ 10000) = true := decide_eq_true c17
         clear c17
         by_cases c18 : (wrap64 (ay + aA)) ≤ 10000
         ·rw [if_pos c18] at H
          have adh : decide ((wrap64 (ay + aA)) ≤ 10000) = true := decide_eq_true c18
          clear c18
          obtain rfl := Option.some.inj H
          go_enter Try.func57, Try.ntmps57
          go_wp2_with (((with_reducible refine aC (N := 1) rfl ?_); refine aW ?hg (N := 1) ?hd (cs := #[.int .i64 ay, .int .i64 aJ, .int .i64 aA, .int .i64 aH]) (t := 23) ?hr ?_; (case hd => rfl); (case hg => rfl); (case hr => (go_simp; done)); intro fE hg Cb hbox hb; have bK := ae.mk (hbox); replace HB := ae.mk (ak (by repeat ((with_reducible exact HB.out))) hb); clear hb hbox hg; have Xh : Cb.cell? ⟨fE, 0, none⟩ = some (.int .i64 ay) := (af bK.out 0).trans rfl; have Xi : Cb.cell? ⟨fE, 1, none⟩ = some (.int .i64 aJ) := (af bK.out 1).trans rfl; have Xj : Cb.cell? ⟨fE, 2, none⟩ = some (.int .i64 aA) := (af bK.out 2).trans rfl; have Xk : Cb.cell? ⟨fE, 3, none⟩ = some (.int .i64 aH) := (af bK.out 3).trans rfl; have XV := ah bK.out 0; have XW := ah bK.out 1; have XX := ah bK.out 2; have XY := ah bK.out 3))
          go_ret
          exact ⟨by rfl, by repeat ((with_reducible exact HB.out))⟩
         ·rw [if_neg c18] at H
          have adh : decide ((wrap64 (ay + aA)) ≤ 10000) = false := decide_eq_false c18
          clear c18
          obtain rfl := Option.some.inj H
          go_enter Try.func57, Try.ntmps57
          go_wp2_with (((with_reducible refine aC (N := 1) rfl ?_); refine aW ?hg (N := 1) ?hd (cs := #[.int .i64 ay, .int .i64 aJ, .int .i64 aA, .int .i64 aH]) (t := 23) ?hr ?_; (case hd => rfl); (case hg => rfl); (case hr => (go_simp; done)); intro fE hg E_ hbox hb; have bK := ae.mk (hbox); replace HB := ae.mk (ak (by repeat ((with_reducible exact HB.out))) hb); clear hb hbox hg; have Xl : E_.cell? ⟨fE, 0, none⟩ = some (.int .i64 ay) := (af bK.out 0).trans rfl; have Xm : E_.cell? ⟨fE, 1, none⟩ = some (.int .i64 aJ) := (af bK.out 1).trans rfl; have Xn : E_.cell? ⟨fE, 2, none⟩ = some (.int .i64 aA) := (af bK.out 2).trans rfl; have Xo : E_.cell? ⟨fE, 3, none⟩ = some (.int .i64 aH) := (af bK.out 3).trans rfl; have XZ := ah bK.out 0; have X0 := ah bK.out 1; have X3 := ah bK.out 2; have X4 := ah bK.out 3))
          go_ret
          exact ⟨by rfl, by repeat ((with_reducible exact HB.out))⟩
        ·rw [if_neg c17] at H
         have adg : decide (aH ≤ 10000) = false := decide_eq_false c17
         clear c17
         obtain rfl := Option.some.inj H
         go_enter Try.func57, Try.ntmps57
         go_wp2_with (((with_reducible refine aC (N := 1) rfl ?_); refine aW ?hg (N := 1) ?hd (cs := #[.int .i64 ay, .int .i64 aJ, .int .i64 aA, .int .i64 aH]) (t := 23) ?hr ?_; (case hd => rfl); (case hg => rfl); (case hr => (go_simp; done)); intro fE hg Fa hbox hb; have bK := ae.mk (hbox); replace HB := ae.mk (ak (by repeat ((with_reducible exact HB.out))) hb); clear hb hbox hg; have Xp : Fa.cell? ⟨fE, 0, none⟩ = some (.int .i64 ay) := (af bK.out 0).trans rfl; have Xq : Fa.cell? ⟨fE, 1, none⟩ = some (.int .i64 aJ) := (af bK.out 1).trans rfl; have Xr : Fa.cell? ⟨fE, 2, none⟩ = some (.int .i64 aA) := (af bK.out 2).trans rfl; have Xt : Fa.cell? ⟨fE, 3, none⟩ = some (.int .i64 aH) := (af bK.out 3).trans rfl; have X5 := ah bK.out 0; have X6 := ah bK.out 1; have X7 := ah bK.out 2; have X8 := ah bK.out 3))
         go_ret
         exact ⟨by rfl, by repeat ((with_reducible exact HB.out))⟩
       ·rw [if_neg c16] at H
        have NT : decide (0 < aH) = false := decide_eq_false c16
        clear c16
        obtain rfl := Option.some.inj H
        go_enter Try.func57, Try.ntmps57
        go_wp2_with (((with_reducible refine aC (N := 1) rfl ?_); refine aW ?hg (N := 1) ?hd (cs := #[.int .i64 ay, .int .i64 aJ, .int .i64 aA, .int .i64 aH]) (t := 23) ?hr ?_; (case hd => rfl); (case hg => rfl); (case hr => (go_simp; done)); intro fE hg Sr hbox hb; have bK := ae.mk (hbox); replace HB := ae.mk (ak (by repeat ((with_reducible exact HB.out))) hb); clear hb hbox hg; have afI : Sr.cell? ⟨fE, 0, none⟩ = some (.int .i64 ay) := (af bK.out 0).trans rfl; have afJ : Sr.cell? ⟨fE, 1, none⟩ = some (.int .i64 aJ) := (af bK.out 1).trans rfl; have afK : Sr.cell? ⟨fE, 2, none⟩ = some (.int .i64 aA) := (af bK.out 2).trans rfl; have afL : Sr.cell? ⟨fE, 3, none⟩ = some (.int .i64 aH) := (af bK.out 3).trans rfl; have af0 := ah bK.out 0; have af1 := ah bK.out 1; have af2 := ah bK.out 2; have af4 := ah bK.out 3))
        go_ret
        exact ⟨by rfl, by repeat ((with_reducible exact HB.out))⟩
      ·rw [if_neg c15] at H
       have ade : decide (aA ≤ 10000) = false := decide_eq_false c15
       clear c15
       obtain rfl := Option.some.inj H
       go_enter Try.func57, Try.ntmps57
       go_wp2_with (((with_reducible refine aC (N := 1) rfl ?_); refine aW ?hg (N := 1) ?hd (cs := #[.int .i64 ay, .int .i64 aJ, .int .i64 aA, .int .i64 aH]) (t := 23) ?hr ?_; (case hd => rfl); (case hg => rfl); (case hr => (go_simp; done)); intro fE hg Su hbox hb; have bK := ae.mk (hbox); replace HB := ae.mk (ak (by repeat ((with_reducible exact HB.out))) hb); clear hb hbox hg; have afM : Su.cell? ⟨fE, 0, none⟩ = some (.int .i64 ay) := (af bK.out 0).trans rfl; have afN : Su.cell? ⟨fE, 1, none⟩ = some (.int .i64 aJ) := (af bK.out 1).trans rfl; have afO : Su.cell? ⟨fE, 2, none⟩ = some (.int .i64 aA) := (af bK.out 2).trans rfl; have afP : Su.cell? ⟨fE, 3, none⟩ = some (.int .i64 aH) := (af bK.out 3).trans rfl; have af5 := ah bK.out 0; have af6 := ah bK.out 1; have af7 := ah bK.out 2; have af8 := ah bK.out 3))
       go_ret
       exact ⟨by rfl, by repeat ((with_reducible exact HB.out))⟩
     ·rw [if_neg c14] at H
      have adb : decide (0 < aA) = false := decide_eq_false c14
      clear c14
      obtain rfl := Option.some.inj H
      go_enter Try.func57, Try.ntmps57
      go_wp2_with (((with_reducible refine aC (N := 1) rfl ?_); refine aW ?hg (N := 1) ?hd (cs := #[.int .i64 ay, .int .i64 aJ, .int .i64 aA, .int .i64 aH]) (t := 23) ?hr ?_; (case hd => rfl); (case hg => rfl); (case hr => (go_simp; done)); intro fE hg H8 hbox hb; have bK := ae.mk (hbox); replace HB := ae.mk (ak (by repeat ((with_reducible exact HB.out))) hb); clear hb hbox hg; have afQ : H8.cell? ⟨fE, 0, none⟩ = some (.int .i64 ay) := (af bK.out 0).trans rfl; have afR : H8.cell? ⟨fE, 1, none⟩ = some (.int .i64 aJ) := (af bK.out 1).trans rfl; have afS : H8.cell? ⟨fE, 2, none⟩ = some (.int .i64 aA) := (af bK.out 2).trans rfl; have afT : H8.cell? ⟨fE, 3, none⟩ = some (.int .i64 aH) := (af bK.out 3).trans rfl; have af9 := ah bK.out 0; have af_ := ah bK.out 1; have af' := ah bK.out 2; have aga := ah bK.out 3))
      go_ret
      exact ⟨by rfl, by repeat ((with_reducible exact HB.out))⟩
end Go.Proofs.Ytfdmfgaiblfbhaa.P
namespace Go.Proofs.Ytfdmfgaiblfbhaa.P
open Go.RowKit Go.Proofs.ag.aV Go.Proofs.ag.bM Go.Proofs.ag.di
theorem wq {x : Int} (h0 : -9223372036854775808 ≤ x) (h1 : x ≤ 9223372036854775807) : wrap64 x = x := by unfold wrap64; omega
theorem aaI {α : Type} {c : Prop} [Decidable c] {g f : Nat → Option α} {r : α} (hc : c) (h : Ev g r) : Ev (fun k => if c then g k else f k) r := by simp only [if_pos hc]; exact h
def qL (X Y W H : Int) : Bool := decide (0 ≤ X ∧ 1 ≤ W ∧ W ≤ 10000 ∧ X + W ≤ 10000 ∧ 0 ≤ Y ∧ 1 ≤ H ∧ H ≤ 10000 ∧ Y + H ≤ 10000)
theorem MM {X Y W H : Int} : qL X Y W H = true ↔ (0 ≤ X ∧ 1 ≤ W ∧ W ≤ 10000 ∧ X + W ≤ 10000 ∧ 0 ≤ Y ∧ 1 ≤ H ∧ H ≤ 10000 ∧ Y + H ≤ 10000) := by unfold qL; rw [decide_eq_true_iff]
theorem JY (X Y W H : Int) : uZ.f X Y W H = some (qL X Y W H) := by
 unfold uZ.f qL
 by_cases h1 : X ≥ 0
 ·by_cases h2 : W ≥ 1
  ·by_cases h3 : W ≤ 10000
   ·rw [if_pos h1, if_pos h2, if_pos h3, wq (x := 10000 - W) (by omega) (by omega)]
    by_cases h4 : X ≤ 10000 - W
    ·rw [if_pos h4]
     by_cases h5 : Y ≥ 0
     ·by_cases h6 : H ≥ 1
      ·by_cases h7 : H ≤ 10000
       ·rw [if_pos h5, if_pos h6, if_pos h7, wq (x := 10000 - H) (by omega) (by omega)]
        congr 1
        rw [decide_eq_decide]
        omega
       ·rw [if_pos h5, if_pos h6, if_neg h7, decide_eq_false (by omega)]
      ·rw [if_pos h5, if_neg h6, decide_eq_false (by omega)]
     ·rw [if_neg h5, decide_eq_false (by omega)]
    ·rw [if_neg h4, decide_eq_false (by omega)]
   ·rw [if_pos h1, if_pos h2, if_neg h3, decide_eq_false (by omega)]
  ·rw [if_pos h1, if_neg h2, decide_eq_false (by omega)]
 ·rw [if_neg h1, decide_eq_false (by omega)]
theorem Dv (X Y W H : Int) : nC.f X Y W H = some (qL X Y W H) := by
 unfold nC.f qL
 by_cases h1 : X < 0
 ·rw [if_pos h1, decide_eq_false (by omega)]
 ·rw [if_neg h1]
  by_cases h2 : X > 10000
  ·rw [if_pos h2, decide_eq_false (by omega)]
  ·rw [if_neg h2]
   by_cases h3 : Y < 0
   ·rw [if_pos h3, decide_eq_false (by omega)]
   ·rw [if_neg h3]
    by_cases h4 : Y > 10000
    ·rw [if_pos h4, decide_eq_false (by omega)]
    ·rw [if_neg h4]
     by_cases h5 : W > 0
     ·by_cases h6 : W ≤ 10000
      ·by_cases h7 : H > 0
       ·by_cases h8 : H ≤ 10000
        ·rw [if_pos h5, if_pos h6, if_pos h7, if_pos h8, wq (x := X + W) (by omega) (by omega), wq (x := Y + H) (by omega) (by omega)]
         by_cases h9 : X + W ≤ 10000
         ·rw [if_pos h9]
          congr 1
          rw [decide_eq_decide]
          omega
         ·rw [if_neg h9, decide_eq_false (by omega)]
        ·rw [if_pos h5, if_pos h6, if_pos h7, if_neg h8, decide_eq_false (by omega)]
       ·rw [if_pos h5, if_pos h6, if_neg h7, decide_eq_false (by omega)]
      ·rw [if_pos h5, if_neg h6, decide_eq_false (by omega)]
     ·rw [if_neg h5, decide_eq_false (by omega)]
def mY (r : dE) : Bool := qL r.f0 r.f1 r.f2 r.f3
def tX (ax X Y : Int) : Int := if ax = 2 then Y else X
def zO (ax X Y W H : Int) : Int → List Int → List dE
 | _, [] => []
 | off, n :: ns => (⟨tX ax (tX ax X Y + off) (tX ax Y X), tX ax (tX ax Y X) (tX ax X Y + off), tX ax n (tX ax H W), tX ax (tX ax H W) n⟩ : dE) :: zO ax X Y W H (off + n + 1) ns
theorem TI (ax X Y W H : Int) : ∀ (ns : List Int) (off : Int), (zO ax X Y W H off ns).length = ns.length := by
 intro ns
 induction ns with
 | nil => intro off; rfl
 | cons n ns ih => intro off; simp [zO, ih]
def mM (ax s t e n : Int) : dE := ⟨tX ax s t, tX ax t s, tX ax n e, tX ax e n⟩
def oH (ax s t d e : Int) : Int → Bool → List dE → List dE → List Int → List dE × List dE × Bool
 | off, _, ps, ls, [] => if off = d then (ps, ls, true) else ([], [], false)
 | off, fst, ps, ls, n :: ns => if n < 1 ∨ d < (if fst then off else off + 1) + n then ([], [], false) else
  oH ax s t d e ((if fst then off else off + 1) + n) false (ps ++ [mM ax (s + (if fst then off else off + 1)) t e n]) (if fst then ls else ls ++ [mM ax (s + off) t e 1]) ns
def qJ (X Y W H ax : Int) (sizes : List Int) : List dE × List dE × Bool :=
 if (ax = 1 ∨ ax = 2) ∧ qL X Y W H = true ∧ sizes ≠ [] then oH ax (tX ax X Y) (tX ax Y X) (tX ax W H) (tX ax H W) 0 true [] [] sizes else ([], [], false)
theorem TG (ax s t d e : Int) : ∀ (ns : List Int) (off : Int) (f : Bool) (ps ls : List dE), (oH ax s t d e off f ps ls ns).1.length ≤ ps.length + ns.length ∧ (oH ax s t d e off f ps ls ns).2.1.length ≤ ls.length + ns.length := by
 intro ns
 induction ns with
 | nil => intro off f ps ls; unfold oH; split <;> simp
 | cons n ns ih =>
  intro off f ps ls
  unfold oH
  have hl : (if f then ls else ls ++ [mM ax (s + off) t e 1]).length ≤ ls.length + 1 := by cases f <;> simp
  generalize (if f then ls else ls ++ [mM ax (s + off) t e 1]) = ls' at hl ⊢
  generalize (if f then off else off + 1) = o
  by_cases hc : n < 1 ∨ d < o + n
  ·rw [if_pos hc]; simp
  ·rw [if_neg hc]
   have h := ih (o + n) false (ps ++ [mM ax (s + o) t e n]) ls'
   rw [List.length_append, List.length_singleton] at h
   rw [List.length_cons]
   omega
theorem PZ (ax X Y W H : Int) : ∀ (ns : List Int) (off : Int) (f : Bool) (ps ls : List dE), (oH ax (tX ax X Y) (tX ax Y X) (tX ax W H) (tX ax H W) off f ps ls ns).2.2 = true →
  (oH ax (tX ax X Y) (tX ax Y X) (tX ax W H) (tX ax H W) off f ps ls ns).1 = ps ++ zO ax X Y W H (if f then off else off + 1) ns ∧ off + ns.sum + (ns.length : Int) - (if f ∧ ns ≠ [] then 1 else 0) = tX ax W H ∧ ∀ m, m ∈ ns → 1 ≤ m := by
 intro ns
 induction ns with
 | nil =>
  intro off f ps ls h
  unfold oH at h ⊢
  split at h
  ·rename_i ho
   rw [if_pos ho]
   exact ⟨by simp [zO], by simp [ho], fun m hm => by cases hm⟩
  ·cases h
 | cons n ns ih =>
  intro off f ps ls h
  unfold oH at h ⊢
  by_cases hn : n < 1 ∨ tX ax W H < (if f then off else off + 1) + n
  ·rw [if_pos hn] at h; cases h
  ·rw [if_neg hn] at h ⊢
   obtain ⟨h1, h2, h3⟩ := ih _ _ _ _ h
   refine ⟨?_, ?_, fun m hm => ?_⟩
   ·rw [h1, List.append_assoc]
    cases f <;> rfl
   ·rw [List.sum_cons, List.length_cons]
    cases f with
    | false => simp only [Bool.false_eq_true, if_false, false_and] at h2 ⊢; omega
    | true => simp only [Bool.false_eq_true, if_false, if_true, false_and] at h2 ⊢; rw [if_pos (by simp)]; omega
   ·rcases List.mem_cons.1 hm with rfl | hm
    ·omega
    ·exact h3 m hm
theorem TF (X Y W H ax : Int) (sizes : List Int) : (qJ X Y W H ax sizes).1.length ≤ sizes.length ∧ (qJ X Y W H ax sizes).2.1.length ≤ sizes.length := by
 unfold qJ
 split
 ·have := TG ax (tX ax X Y) (tX ax Y X) (tX ax W H) (tX ax H W) sizes 0 true [] []
  simpa using this
 ·simp
theorem PY {X Y W H ax : Int} {sizes : List Int} (h : (qJ X Y W H ax sizes).2.2 = true) : (ax = 1 ∨ ax = 2) ∧ (qJ X Y W H ax sizes).1 = zO ax X Y W H 0 sizes ∧ sizes.sum + (sizes.length : Int) - 1 = tX ax W H ∧ ∀ m, m ∈ sizes → 1 ≤ m := by
 unfold qJ at h ⊢
 split at h
 ·rename_i hc
  rw [if_pos hc]
  obtain ⟨h1, h2, h3⟩ := PZ ax X Y W H sizes 0 true [] [] h
  rw [if_pos ⟨rfl, hc.2.2⟩] at h2
  exact ⟨hc.1, by simpa using h1, by omega, h3⟩
 ·cases h
end Go.Proofs.Ytfdmfgaiblfbhaa.P
namespace Go.Proofs.Ytfdmfgaiblfbhaa.P
open Go.RowKit Go.Proofs.ag.aV Go.Proofs.ag.bM Go.Proofs.ag.di
attribute [local go_sem] kC kP lh lU jR jS kN kQ
def n_.f (ay : Int) (aJ : Int) (aA : Int) (aH : Int) (a1 : Int) : Option (Int × Int × Int × Int × Bool) := if a1 = 2 then (some (aJ, ay, aH, aA, true)) else (if a1 = 1 then (some (ay, aJ, aA, aH, true)) else (some (0, 0, 0, 0, false)))
theorem n_.calls (ay : Int) (aJ : Int) (aA : Int) (aH : Int) (a1 : Int) (r1 : Int) (r2 : Int) (r3 : Int) (r4 : Int) (r5 : Bool) (w : World) (h : n_.f ay aJ aA aH a1 = some (r1, r2, r3, r4, r5)) :
  Calls Try.prog 127 #[.agg #[.int .i64 ay, .int .i64 aJ, .int .i64 aA, .int .i64 aH], .int .u8 a1] w fun e w' => e = .returned (.tuple #[.agg #[.int .i64 r1, .int .i64 r2, .int .i64 r3, .int .i64 r4], .bool r5]) ∧ Below w.heap.size w w' := by
 have JQ := Try.underlying23
 have HB := ae.mk (Below.refl w.heap.size w)
 have H : (if a1 = 2 then (some (aJ, ay, aH, aA, true)) else (if a1 = 1 then (some (ay, aJ, aA, aH, true)) else (some (0, 0, 0, 0, false)))) = some (r1, r2, r3, r4, r5) := h
 clear h
 by_cases c3 : a1 = 2
 ·rw [if_pos c3] at H
  have nY : (a1 == 2) = true := beq_iff_eq.mpr c3
  have ug : (a1 != 2) = false := bne_eq_false_iff_eq.mpr c3
  clear c3
  simp only [Option.some.injEq, Prod.mk.injEq] at H
  obtain ⟨rfl, rfl, rfl, rfl, rfl⟩ := H
  go_enter Try.func127, Try.ntmps127
  go_wp2_with (first | ((with_reducible refine aC (N := 2) rfl ?_); refine aW ?hg (N := 2) ?hd (cs := #[.int .i64 ay, .int .i64 aJ, .int .i64 aA, .int .i64 aH]) (t := 23) ?hr ?_; (case hd => rfl); (case hg => rfl); (case hr => (go_simp; done)); intro l_ hg w4 hbox hb; have jo := ae.mk (hbox); have Nw := ae.mk ((by rw [hg]; exact (bP (by repeat ((with_reducible exact HB.out)))) : w.heap.size ≤ l_)); replace HB := ae.mk (ak (by repeat ((with_reducible exact HB.out))) hb); clear hb hbox hg) | ((with_reducible refine aC (N := 4) rfl ?_); refine aW ?hg (N := 4) ?hd (cs := #[.int .i64 0, .int .i64 0, .int .i64 0, .int .i64 0]) (t := 23) ?hr ?_; (case hd => rfl); (case hg => rfl); (case hr => (go_simp; done)); intro jQ hg w5 hbox hb; have jr := ae.mk (hbox); have Eh := ae.mk ((by rw [hg]; exact (bP (by repeat ((with_reducible exact HB.out)))) : w.heap.size ≤ jQ)); have vM := ae.mk ((by rw [hg]; exact Nat.ne_of_lt (iy jo.out) : l_ ≠ jQ)); have nH := ae.mk ((by rw [hg]; exact Nat.ne_of_gt (iy jo.out) : jQ ≠ l_)); replace jo := ae.mk (aY jo.out hb); replace HB := ae.mk (ak (by repeat ((with_reducible exact HB.out))) hb); clear hb hbox hg; have ajj := vM.out; have ajk := nH.out; have aa7 : w5.cell? ⟨l_, 0, none⟩ = some (.int .i64 ay) := (af jo.out 0).trans rfl; have aa8 : w5.cell? ⟨l_, 1, none⟩ = some (.int .i64 aJ) := (af jo.out 1).trans rfl; have aa9 : w5.cell? ⟨l_, 2, none⟩ = some (.int .i64 aA) := (af jo.out 2).trans rfl; have aa_ : w5.cell? ⟨l_, 3, none⟩ = some (.int .i64 aH) := (af jo.out 3).trans rfl; have abp := ah jo.out 0; have abq := ah jo.out 1; have abr := ah jo.out 2; have abt := ah jo.out 3; have Qn : w5.cell? ⟨jQ, 0, none⟩ = some (.int .i64 0) := (af jr.out 0).trans rfl; have Qo : w5.cell? ⟨jQ, 1, none⟩ = some (.int .i64 0) := (af jr.out 1).trans rfl; have Qp : w5.cell? ⟨jQ, 2, none⟩ = some (.int .i64 0) := (af jr.out 2).trans rfl; have Qq : w5.cell? ⟨jQ, 3, none⟩ = some (.int .i64 0) := (af jr.out 3).trans rfl; have QG := ah jr.out 0; have QH := ah jr.out 1; have QI := ah jr.out 2; have QJ := ah jr.out 3))
  refine bodyPost_ret (gJ rfl _ _ jQ 23 #[.int .i64 aJ, .int .i64 ay, .int .i64 aH, .int .i64 aA] (0, 0) _ rfl (by refine jC (cs := #[.int .i64 aJ, .int .i64 ay, .int .i64 aH, .int .i64 aA]) ?_ 3 _ rfl; refine jC (cs := #[.int .i64 aJ, .int .i64 ay, .int .i64 aH, .int .i64 aA]) ?_ 2 _ rfl; refine jC (cs := #[.int .i64 aJ, .int .i64 ay, .int .i64 aH, .int .i64 aA]) ?_ 1 _ rfl; refine jC (cs := #[.int .i64 aJ, .int .i64 ay, .int .i64 aH, .int .i64 aA]) ?_ 0 _ rfl; refine jC (cs := #[.int .i64 aJ, .int .i64 ay, .int .i64 aH, .int .i64 0]) ?_ 3 _ rfl; refine jC (cs := #[.int .i64 aJ, .int .i64 ay, .int .i64 0, .int .i64 0]) ?_ 2 _ rfl; refine jC (cs := #[.int .i64 aJ, .int .i64 0, .int .i64 0, .int .i64 0]) ?_ 1 _ rfl; refine jC (cs := #[.int .i64 0, .int .i64 0, .int .i64 0, .int .i64 0]) ?_ 0 _ rfl; refine CO ?_ nH.out _; refine CO ?_ nH.out _; refine CO ?_ nH.out _; refine CO ?_ nH.out _; exact jr.out) Try.underlying23 rfl (by kernel_rfl)) rfl ?_
  exact ⟨by rfl, by repeat ((with_reducible first | exact HB.out | refine lL ?_ Nw.out | refine lL ?_ Eh.out))⟩
 ·rw [if_neg c3] at H
  have nY : (a1 == 2) = false := beq_eq_false_iff_ne.mpr c3
  have ug : (a1 != 2) = true := bne_iff_ne.mpr c3
  by_cases c9 : a1 = 1
  ·rw [if_pos c9] at H
   have Jp : (a1 == 1) = true := beq_iff_eq.mpr c9
   have aeP : (a1 != 1) = false := bne_eq_false_iff_eq.mpr c9
   clear c9
   simp only [Option.some.injEq, Prod.mk.injEq] at H
   obtain ⟨rfl, rfl, rfl, rfl, rfl⟩ := H
   go_enter Try.func127, Try.ntmps127
   go_wp2_with (first | ((with_reducible refine aC (N := 2) rfl ?_); refine aW ?hg (N := 2) ?hd (cs := #[.int .i64 ay, .int .i64 aJ, .int .i64 aA, .int .i64 aH]) (t := 23) ?hr ?_; (case hd => rfl); (case hg => rfl); (case hr => (go_simp; done)); intro l_ hg w10 hbox hb; have jo := ae.mk (hbox); have Nw := ae.mk ((by rw [hg]; exact (bP (by repeat ((with_reducible exact HB.out)))) : w.heap.size ≤ l_)); replace HB := ae.mk (ak (by repeat ((with_reducible exact HB.out))) hb); clear hb hbox hg) | ((with_reducible refine aC (N := 4) rfl ?_); refine aW ?hg (N := 4) ?hd (cs := #[.int .i64 0, .int .i64 0, .int .i64 0, .int .i64 0]) (t := 23) ?hr ?_; (case hd => rfl); (case hg => rfl); (case hr => (go_simp; done)); intro jQ hg yL hbox hb; have jr := ae.mk (hbox); have Eh := ae.mk ((by rw [hg]; exact (bP (by repeat ((with_reducible exact HB.out)))) : w.heap.size ≤ jQ)); have vM := ae.mk ((by rw [hg]; exact Nat.ne_of_lt (iy jo.out) : l_ ≠ jQ)); have nH := ae.mk ((by rw [hg]; exact Nat.ne_of_gt (iy jo.out) : jQ ≠ l_)); replace jo := ae.mk (aY jo.out hb); replace HB := ae.mk (ak (by repeat ((with_reducible exact HB.out))) hb); clear hb hbox hg; have aiE := vM.out; have aiG := nH.out; have WV : yL.cell? ⟨l_, 0, none⟩ = some (.int .i64 ay) := (af jo.out 0).trans rfl; have WW : yL.cell? ⟨l_, 1, none⟩ = some (.int .i64 aJ) := (af jo.out 1).trans rfl; have WX : yL.cell? ⟨l_, 2, none⟩ = some (.int .i64 aA) := (af jo.out 2).trans rfl; have WY : yL.cell? ⟨l_, 3, none⟩ = some (.int .i64 aH) := (af jo.out 3).trans rfl; have XG := ah jo.out 0; have XH := ah jo.out 1; have XI := ah jo.out 2; have XJ := ah jo.out 3; have FO : yL.cell? ⟨jQ, 0, none⟩ = some (.int .i64 0) := (af jr.out 0).trans rfl; have FP : yL.cell? ⟨jQ, 1, none⟩ = some (.int .i64 0) := (af jr.out 1).trans rfl; have FQ : yL.cell? ⟨jQ, 2, none⟩ = some (.int .i64 0) := (af jr.out 2).trans rfl; have FT : yL.cell? ⟨jQ, 3, none⟩ = some (.int .i64 0) := (af jr.out 3).trans rfl; have FU := ah jr.out 0; have FV := ah jr.out 1; have FW := ah jr.out 2; have FX := ah jr.out 3))
   refine bodyPost_ret (gJ rfl _ _ jQ 23 #[.int .i64 ay, .int .i64 aJ, .int .i64 aA, .int .i64 aH] (0, 0) _ rfl (by refine jC (cs := #[.int .i64 ay, .int .i64 aJ, .int .i64 aA, .int .i64 aH]) ?_ 3 _ rfl; refine jC (cs := #[.int .i64 ay, .int .i64 aJ, .int .i64 aA, .int .i64 aH]) ?_ 2 _ rfl; refine jC (cs := #[.int .i64 ay, .int .i64 aJ, .int .i64 aA, .int .i64 aH]) ?_ 1 _ rfl; refine jC (cs := #[.int .i64 ay, .int .i64 aJ, .int .i64 aA, .int .i64 aH]) ?_ 0 _ rfl; refine jC (cs := #[.int .i64 ay, .int .i64 aJ, .int .i64 aA, .int .i64 0]) ?_ 3 _ rfl; refine jC (cs := #[.int .i64 ay, .int .i64 aJ, .int .i64 0, .int .i64 0]) ?_ 2 _ rfl; refine jC (cs := #[.int .i64 ay, .int .i64 0, .int .i64 0, .int .i64 0]) ?_ 1 _ rfl; refine jC (cs := #[.int .i64 0, .int .i64 0, .int .i64 0, .int .i64 0]) ?_ 0 _ rfl; exact jr.out) Try.underlying23 rfl (by kernel_rfl)) rfl ?_
   exact ⟨by rfl, by repeat ((with_reducible first | exact HB.out | refine lL ?_ Eh.out))⟩
  ·rw [if_neg c9] at H
   have Jp : (a1 == 1) = false := beq_eq_false_iff_ne.mpr c9
   have aeP : (a1 != 1) = true := bne_iff_ne.mpr c9
   simp only [Option.some.injEq, Prod.mk.injEq] at H
   obtain ⟨rfl, rfl, rfl, rfl, rfl⟩ := H
   go_enter Try.func127, Try.ntmps127
   go_wp2_with (first | ((with_reducible refine aC (N := 2) rfl ?_); refine aW ?hg (N := 2) ?hd (cs := #[.int .i64 ay, .int .i64 aJ, .int .i64 aA, .int .i64 aH]) (t := 23) ?hr ?_; (case hd => rfl); (case hg => rfl); (case hr => (go_simp; done)); intro l_ hg ry hbox hb; have jo := ae.mk (hbox); have Nw := ae.mk ((by rw [hg]; exact (bP (by repeat ((with_reducible exact HB.out)))) : w.heap.size ≤ l_)); replace HB := ae.mk (ak (by repeat ((with_reducible exact HB.out))) hb); clear hb hbox hg) | ((with_reducible refine aC (N := 4) rfl ?_); refine aW ?hg (N := 4) ?hd (cs := #[.int .i64 0, .int .i64 0, .int .i64 0, .int .i64 0]) (t := 23) ?hr ?_; (case hd => rfl); (case hg => rfl); (case hr => (go_simp; done)); intro jQ hg w16 hbox hb; have jr := ae.mk (hbox); have Eh := ae.mk ((by rw [hg]; exact (bP (by repeat ((with_reducible exact HB.out)))) : w.heap.size ≤ jQ)); have vM := ae.mk ((by rw [hg]; exact Nat.ne_of_lt (iy jo.out) : l_ ≠ jQ)); have nH := ae.mk ((by rw [hg]; exact Nat.ne_of_gt (iy jo.out) : jQ ≠ l_)); replace jo := ae.mk (aY jo.out hb); replace HB := ae.mk (ak (by repeat ((with_reducible exact HB.out))) hb); clear hb hbox hg; have aiF := nH.out; have aiH := vM.out; have Xd : w16.cell? ⟨jQ, 0, none⟩ = some (.int .i64 0) := (af jr.out 0).trans rfl; have Xe : w16.cell? ⟨jQ, 1, none⟩ = some (.int .i64 0) := (af jr.out 1).trans rfl; have Xf : w16.cell? ⟨jQ, 2, none⟩ = some (.int .i64 0) := (af jr.out 2).trans rfl; have Xg : w16.cell? ⟨jQ, 3, none⟩ = some (.int .i64 0) := (af jr.out 3).trans rfl; have XQ := ah jr.out 0; have XR := ah jr.out 1; have XT := ah jr.out 2; have XU := ah jr.out 3))
   refine bodyPost_ret (gJ rfl _ _ jQ 23 #[.int .i64 0, .int .i64 0, .int .i64 0, .int .i64 0] (0, 0) _ rfl (by refine jC (cs := #[.int .i64 0, .int .i64 0, .int .i64 0, .int .i64 0]) ?_ 3 _ rfl; refine jC (cs := #[.int .i64 0, .int .i64 0, .int .i64 0, .int .i64 0]) ?_ 2 _ rfl; refine jC (cs := #[.int .i64 0, .int .i64 0, .int .i64 0, .int .i64 0]) ?_ 1 _ rfl; refine jC (cs := #[.int .i64 0, .int .i64 0, .int .i64 0, .int .i64 0]) ?_ 0 _ rfl; exact jr.out) Try.underlying23 rfl (by kernel_rfl)) rfl ?_
   exact ⟨by rfl, by repeat ((with_reducible first | exact HB.out | refine lL ?_ Eh.out))⟩
end Go.Proofs.Ytfdmfgaiblfbhaa.P
namespace Go.Proofs.Ytfdmfgaiblfbhaa.P
open Go.RowKit Go.Proofs.ag.aV Go.Proofs.ag.bM Go.Proofs.ag.di
section
variable {W : World}
theorem KZ {ax : Int} (h : ax = 1 ∨ ax = 2) (X Y W H : Int) : n_.f X Y W H ax = some (tX ax X Y, tX ax Y X, tX ax W H, tX ax H W, true) := by
 unfold n_.f tX
 rcases h with rfl | rfl
 ·rfl
 ·rfl
theorem Ed {ax : Int} (h : ax = 1 ∨ ax = 2) (x y u v : Int) : Calls Try.prog 127 #[.agg #[.int .i64 x, .int .i64 y, .int .i64 u, .int .i64 v], .int .u8 ax] W fun e w' => e = .returned (.tuple #[.agg #[.int .i64 (tX ax x y), .int .i64 (tX ax y x), .int .i64 (tX ax u v), .int .i64 (tX ax v u)], .bool true]) ∧ Below W.heap.size W w' :=
 n_.calls _ _ _ _ _ _ _ _ _ _ W (KZ h x y u v)
theorem R_ {ax : Int} (h : ¬ (ax = 1 ∨ ax = 2)) (x y u v : Int) : Calls Try.prog 127 #[.agg #[.int .i64 x, .int .i64 y, .int .i64 u, .int .i64 v], .int .u8 ax] W fun e w' => e = .returned (.tuple #[.agg #[.int .i64 0, .int .i64 0, .int .i64 0, .int .i64 0], .bool false]) ∧ Below W.heap.size W w' :=
 n_.calls _ _ _ _ _ _ _ _ _ _ W (by unfold n_.f; rw [if_neg (fun e => h (.inr e)), if_neg (fun e => h (.inl e))])
theorem J9 {x y u v : Int} {b : Bool} (h : qL x y u v = b) : Calls Try.prog 128 #[.agg #[.int .i64 x, .int .i64 y, .int .i64 u, .int .i64 v]] W fun e w' => e = .returned (.bool b) ∧ Below W.heap.size W w' :=
 uZ.calls _ _ _ _ _ W ((JY _ _ _ _).trans (congrArg some h))
theorem BP {x y u v : Int} {b : Bool} (h : qL x y u v = b) : Calls Try.prog 57 #[.agg #[.int .i64 x, .int .i64 y, .int .i64 u, .int .i64 v]] W fun e w' => e = .returned (.bool b) ∧ Below W.heap.size W w' :=
 nC.calls _ _ _ _ _ W ((Dv _ _ _ _).trans (congrArg some h))
end
abbrev IJ (w : World) (t : List dE × List dE × Bool) (e : Ending) (w' : World) : Prop := ∃ A c A' c' o o', e = .returned (.tuple #[.slice A t.1.length c, .slice A' t.2.1.length c', .bool t.2.2]) ∧ (t.2.2 = true → Two k23 23 k23 23 w w' (.slice A t.1.length c) t.1 (.slice A' t.2.1.length c') t.2.1 o o') ∧ Below w.heap.size w w'
theorem xC {X Y W H ax : Int} {sizes : List Int} (h : ¬ (ax = 1 ∨ ax = 2) ∨ qL X Y W H = false ∨ sizes.length = 0) : qJ X Y W H ax sizes = ([], [], false) := by
 unfold qJ
 refine if_neg (fun hc => ?_)
 rcases h with h | h | h
 ·exact h hc.1
 ·rw [hc.2.1] at h; cases h
 ·exact hc.2.2 (List.eq_nil_of_length_eq_zero h)
theorem P5 {X Y W H ax : Int} {sizes : List Int} (h1 : ax = 1 ∨ ax = 2) (h2 : qL X Y W H = true) (h3 : sizes.length ≠ 0) : qJ X Y W H ax sizes = oH ax (tX ax X Y) (tX ax Y X) (tX ax W H) (tX ax H W) 0 true [] [] sizes := by
 unfold qJ
 exact if_pos ⟨h1, h2, fun h => h3 (by rw [h]; rfl)⟩
theorem Js {ax s t d e off : Int} {f : Bool} {ps ls : List dE} {R : List dE × List dE × Bool} (h : oH ax s t d e off f ps ls [] = R) : R = if off = d then (ps, ls, true) else ([], [], false) := h.symm
def yP (ax s t d e o : Int) (ps ls : List dE) (n : Int) (ns : List Int) : List dE × List dE × Bool := if n < 1 ∨ d < o + n then ([], [], false) else oH ax s t d e (o + n) false (ps ++ [mM ax (s + o) t e n]) ls ns
theorem zi {ax s t d e o : Int} {ps ls : List dE} {n : Int} {ns : List Int} (h : n < 1 ∨ d < o + n) : yP ax s t d e o ps ls n ns = ([], [], false) := if_pos h
theorem LH {ax s t d e o : Int} {ps ls : List dE} {n : Int} {ns : List Int} (h : ¬ (n < 1 ∨ d < o + n)) : yP ax s t d e o ps ls n ns = oH ax s t d e (o + n) false (ps ++ [mM ax (s + o) t e n]) ls ns := if_neg h
theorem RY {X Y W H ax : Int} (h1 : ax = 1 ∨ ax = 2) (h2 : qL X Y W H = true) : 0 ≤ tX ax X Y ∧ 1 ≤ tX ax W H ∧ tX ax X Y + tX ax W H ≤ 10000 := by
 have hm := MM.1 h2
 unfold tX
 rcases h1 with rfl | rfl
 ·rw [if_neg (by omega), if_neg (by omega)]; omega
 ·rw [if_pos rfl, if_pos rfl]; omega
mutual
def gU : ai → List ai
 | ⟨a, b, d, l⟩ => ⟨a, b, d, l⟩ :: allL l
def allL : List ai → List ai
 | [] => []
 | c :: cs => gU c ++ allL cs
end
theorem sK (c : ai) : gU c = c :: allL c.f3 := by cases c; simp [gU]
theorem o_ : allL [] = [] := by simp [allL]
theorem nI (c : ai) (cs : List ai) : allL (c :: cs) = gU c ++ allL cs := by simp [allL]
theorem zI (a b : List ai) : allL (a ++ b) = allL a ++ allL b := by
 induction a with
 | nil => simp [o_]
 | cons x xs ih => rw [List.cons_append, nI, nI, ih, List.append_assoc]
def sz (c : ai) : Nat := (gU c).length
def fV (l : List ai) : Nat := (allL l).length
theorem dR (c : ai) : sz c = 1 + fV c.f3 := by unfold sz fV; rw [sK, List.length_cons]; omega
theorem qf : fV [] = 0 := by unfold fV; rw [o_]; rfl
theorem dU (c : ai) (cs : List ai) : fV (c :: cs) = sz c + fV cs := by unfold fV sz; rw [nI, List.length_append]
theorem oQ (a b : List ai) : fV (a ++ b) = fV a + fV b := by unfold fV; rw [zI, List.length_append]
theorem jJ (l : List ai) : l.length ≤ fV l := by
 induction l with
 | nil => simp
 | cons x xs ih => rw [dU, List.length_cons, dR]; omega
theorem CS (c : ai) : (⟨c.f0, ⟨c.f1.f0, c.f1.f1, c.f1.f2, c.f1.f3⟩, c.f2, c.f3⟩ : ai) = c := by cases c; rfl
theorem YO (l : List ai) : fV l = (l.map sz).sum := by
 induction l with
 | nil => rw [qf]; rfl
 | cons x xs ih => rw [dU, List.map_cons, List.sum_cons, ih]
end Go.Proofs.Ytfdmfgaiblfbhaa.P
namespace Go.Proofs.Ytfdmfgaiblfbhaa.P
open Go.RowKit Go.Proofs.ag.aV Go.Proofs.ag.bM Go.Proofs.ag.di
attribute [local go_sem] kC kP lh lU jR jS kN kQ
mutual
def dC.l0 : Nat → Int → Int → Int → Int → Int → Int → Int → Int → Int → Int → List (ai) → Option (Int)
 | 0, _, _, _, _, _, _, _, _, _, _, _ => none
 | k + 1, x1, x5, x9, x10, YV, YW, YX, YY, YZ, Y0, rq => if x10 < x9 then (if x5 > x1 then (some x5) else (if 0 ≤ x10 then (if x10 < (rq.length : Int) then ((dC.f k ((aI rq x10).f0) ((aI rq x10).f1.f0) ((aI rq x10).f1.f1) ((aI rq x10).f1.f2) ((aI rq x10).f1.f3) ((aI rq x10).f2) ((aI rq x10).f3) x1).bind fun t103 => (dC.l0 k x1 (wrap64 (x5 + t103)) x9 (wrap64 (x10 + 1)) YV YW YX YY YZ Y0 rq)) else (none)) else (none))) else (some x5)
def dC.f : Nat → Int → Int → Int → Int → Int → Int → List (ai) → Int → Option (Int)
 | 0, _, _, _, _, _, _, _, _ => none
 | k + 1, ay, aJ, aA, aH, bu, bz, aK, a1 => dC.l0 k a1 1 (aK.length : Int) 0 ay aJ aA aH bu bz aK
end
theorem dC.calls (k : Nat) : ∀ (ay : Int) (aJ : Int) (aA : Int) (aH : Int) (bu : Int) (bz : Int) (dK : Option Addr) (dL : Nat) (aK : List (ai)) (a1 : Int) (r : Int) (w : World) (oC : Kd.C k26 w dK aK.length aK) (pz : aK.length ≤ dL) (h : dC.f k ay aJ aA aH bu bz aK a1 = some r),
  Calls Try.prog 124 #[.agg #[.int .u8 ay, .int .i64 aJ, .int .i64 aA, .int .i64 aH, .int .i64 bu, .int .i64 bz, .slice dK aK.length dL], .int .i64 a1] w fun e w' => e = .returned (.int .i64 r) ∧ Below w.heap.size w w' := by
 induction k using Nat.strongRecOn with
 | _ k ih =>
 intro ay aJ aA aH bu bz dK dL aK a1 r w oC pz h
 cases k with
 | zero => exact absurd h (by simp [dC.f])
 | succ k =>
 simp only [dC.f] at h
 have F7 := Try.underlying26
 have ND := ae.mk oC
 clear oC pz
 have HB := ae.mk (Below.refl w.heap.size w)
 have H : (dC.l0 k a1 1 (aK.length : Int) 0 ay aJ aA aH bu bz aK) = some r := h
 clear h
 have H' := ae.mk H
 clear H
 go_enter Try.func124, Try.ntmps124
 go_wp2_with (((with_reducible refine aC (N := 2) rfl ?_); refine aW ?hg (N := 2) ?hd (cs := #[.int .u8 ay, .int .i64 aJ, .int .i64 aA, .int .i64 aH, .int .i64 bu, .int .i64 bz, .slice dK aK.length dL]) (t := 26) ?hr ?_; (case hd => rfl); (case hg => rfl); (case hr => (go_simp; done)); intro pq hg w3 hbox hb; have iQ := ae.mk (hbox); replace HB := ae.mk (ak (by repeat ((with_reducible exact HB.out))) hb); clear hb hbox hg; have JD : w3.cell? ⟨pq, 0, none⟩ = some (.int .u8 ay) := (af iQ.out 0).trans rfl; have JE : w3.cell? ⟨pq, 1, none⟩ = some (.int .i64 aJ) := (af iQ.out 1).trans rfl; have JF : w3.cell? ⟨pq, 2, none⟩ = some (.int .i64 aA) := (af iQ.out 2).trans rfl; have JG : w3.cell? ⟨pq, 3, none⟩ = some (.int .i64 aH) := (af iQ.out 3).trans rfl; have Qk : w3.cell? ⟨pq, 4, none⟩ = some (.int .i64 bu) := (af iQ.out 4).trans rfl; have Ql : w3.cell? ⟨pq, 5, none⟩ = some (.int .i64 bz) := (af iQ.out 5).trans rfl; have Qm : w3.cell? ⟨pq, 6, none⟩ = some (.slice dK aK.length dL) := (af iQ.out 6).trans rfl; have JJ := ah iQ.out 0; have JK := ah iQ.out 1; have JL := ah iQ.out 2; have JM := ah iQ.out 3; have QD := ah iQ.out 4; have QE := ah iQ.out 5; have QF := ah iQ.out 6))
 go_loopg [5, 10] k (fun kq v5 v10 w' => ∃ (kT : Int) (dS : Int), v5 = .int .i64 kT ∧ v10 = .int .i64 dS ∧ ae (dC.l0 kq a1 kT (aK.length : Int) dS ay aJ aA aH bu bz aK = some r) ∧ ae (kq ≤ k) ∧ ae (w'.heap[pq]? = some (.cells #[.int .u8 ay, .int .i64 aJ, .int .i64 aA, .int .i64 aH, .int .i64 bu, .int .i64 bz, (.slice dK aK.length dL)] 26 (0, 0))) ∧ ae (Below w.heap.size w w'))
 case atStart => exact ⟨(1), (0), (by rfl), (by rfl), H', ⟨Nat.le_refl _⟩, ⟨by exact iQ.out⟩, ⟨by repeat ((with_reducible exact HB.out))⟩⟩
 case round =>
  clear H'
  clear JD JE JF JG Qk Ql Qm JJ JK JL JM QD QE QF
  obtain ⟨kT, dS, rfl, rfl, HA, lD, iQ, HB⟩ := hrel
  cases gk with
  | zero => exact absurd HA.out (by simp [dC.l0])
  | succ k1 =>
   have H := HA.out
   clear HA
   simp only [dC.l0] at H
   by_cases c5 : dS < (aK.length : Int)
   ·rw [if_pos c5] at H
    have zN : decide (dS < (aK.length : Int)) = true := decide_eq_true c5
    clear c5
    by_cases c6 : kT > a1
    ·rw [if_pos c6] at H
     have uh : decide (a1 < kT) = true := decide_eq_true c6
     clear c6
     obtain rfl := Option.some.inj H
     go_wp2
     go_ret
     exact ⟨by rfl, by repeat ((with_reducible exact HB.out))⟩
    ·rw [if_neg c6] at H
     have uh : decide (a1 < kT) = false := decide_eq_false c6
     clear c6
     by_cases c7 : 0 ≤ dS
     ·rw [if_pos c7] at H
      have qH : decide (0 ≤ dS) = true := decide_eq_true c7
      clear c7
      by_cases c8 : dS < (aK.length : Int)
      ·rw [if_pos c8] at H
       have uQ : decide (dS < (aK.length : Int)) = true := decide_eq_true c8
       clear c8
       replace H := Option.bind_eq_some_iff.mp H
       obtain ⟨t103, Pj, H⟩ := H
       replace H : (dC.l0 k1 a1 (wrap64 (kT + t103)) (aK.length : Int) (wrap64 (dS + 1)) ay aJ aA aH bu bz aK) = some r := H
       have A9 := ae.mk Pj
       clear Pj
       have H' := ae.mk H
       clear H
       have LV : wr.cell? ⟨pq, 0, none⟩ = some (.int .u8 ay) := (af iQ.out 0).trans rfl
       have LW : wr.cell? ⟨pq, 1, none⟩ = some (.int .i64 aJ) := (af iQ.out 1).trans rfl
       have LX : wr.cell? ⟨pq, 2, none⟩ = some (.int .i64 aA) := (af iQ.out 2).trans rfl
       have LY : wr.cell? ⟨pq, 3, none⟩ = some (.int .i64 aH) := (af iQ.out 3).trans rfl
       have afC : wr.cell? ⟨pq, 4, none⟩ = some (.int .i64 bu) := (af iQ.out 4).trans rfl
       have afD : wr.cell? ⟨pq, 5, none⟩ = some (.int .i64 bz) := (af iQ.out 5).trans rfl
       have afE : wr.cell? ⟨pq, 6, none⟩ = some (.slice dK aK.length dL) := (af iQ.out 6).trans rfl
       have L_ := ah iQ.out 0
       have Mc := ah iQ.out 1
       have Md := ah iQ.out 2
       have Me := ah iQ.out 3
       have afU := ah iQ.out 4
       have afV := ah iQ.out 5
       have afW := ah iQ.out 6
       have UD : 0 ≤ (dS : Int) := of_decide_eq_true (by (with_reducible assumption))
       have UH : dS < (aK.length : Int) := of_decide_eq_true (by (with_reducible assumption))
       obtain ⟨aio, Zb, Z9, aeW, F8, F9, F_, Gf, Gg, Gh, Gi, MI, MH⟩ := t_ ND.out dS UD UH
       cases aeW
       replace F8 := (HB.out.cell (World.block_lt_of_cell? w _ F8)).trans F8
       replace F9 := (HB.out.cell (World.block_lt_of_cell? w _ F9)).trans F9
       replace F_ := (HB.out.cell (World.block_lt_of_cell? w _ F_)).trans F_
       replace Gf := (HB.out.cell (World.block_lt_of_cell? w _ Gf)).trans Gf
       replace Gg := (HB.out.cell (World.block_lt_of_cell? w _ Gg)).trans Gg
       replace Gh := (HB.out.cell (World.block_lt_of_cell? w _ Gh)).trans Gh
       replace Gi := (HB.out.cell (World.block_lt_of_cell? w _ Gi)).trans Gi
       have Wi := ae.mk MH
       have Wh := ae.mk MI
       clear MH MI
       replace UD := eq_true UD
       replace UH := eq_true UH
       go_wp2_with (((with_reducible refine gK (f := 124) rfl ?_); refine jF (some 24) rfl rfl Try.func124 (by kernel_rfl) rfl #[.agg #[.int .u8 ((aI aK dS).f0), .int .i64 ((aI aK dS).f1.f0), .int .i64 ((aI aK dS).f1.f1), .int .i64 ((aI aK dS).f1.f2), .int .i64 ((aI aK dS).f1.f3), .int .i64 ((aI aK dS).f2), .slice Zb ((aI aK dS).f3).length Z9], .int .i64 a1] rfl (by (try simp only [List.map_toArray, List.map_cons, List.map_nil]); rfl) ?_; (with_reducible refine (ih k1 (by have := lD.out; omega) ((aI aK dS).f0) ((aI aK dS).f1.f0) ((aI aK dS).f1.f1) ((aI aK dS).f1.f2) ((aI aK dS).f1.f3) ((aI aK dS).f2) _ _ ((aI aK dS).f3) a1 t103 _ ?lK ?nT A9.out).mono ?_); (case lK => repeat (exact (Kd.jH Wi.out HB.out))); (case nT => exact Wh.out); rintro e yL ⟨rfl, hb⟩; refine ⟨_, rfl, ?_⟩; replace iQ := ae.mk (aY iQ.out hb); replace HB := ae.mk (ak (by repeat ((with_reducible exact HB.out))) hb); (try clear hb)))
       go_roundg k1
       case measure => have := lD.out; omega
       case rel => exact ⟨(wrap64 (kT + t103)), (wrap64 (dS + 1)), (by rfl), (by rfl), H', ⟨by have := lD.out; omega⟩, ⟨by exact iQ.out⟩, ⟨by repeat ((with_reducible exact HB.out))⟩⟩
      ·rw [if_neg c8] at H
       exact absurd H (by simp)
     ·rw [if_neg c7] at H
      exact absurd H (by simp)
   ·rw [if_neg c5] at H
    have zN : decide (dS < (aK.length : Int)) = false := decide_eq_false c5
    clear c5
    obtain rfl := Option.some.inj H
    go_wp2
    go_ret
    exact ⟨by rfl, by repeat ((with_reducible exact HB.out))⟩
def jy.f (k : Nat) (ay : Int) (aJ : Int) (aA : Int) (aH : Int) (bu : Int) (bz : Int) (aK : List (ai)) : Option (Bool) := (dC.f k ay aJ aA aH bu bz aK 200).bind fun t105 => (some (decide (t105 > 200)))
theorem jy.calls (k : Nat) (ay : Int) (aJ : Int) (aA : Int) (aH : Int) (bu : Int) (bz : Int) (dK : Option Addr) (dL : Nat) (aK : List (ai)) (r : Bool) (w : World) (oC : Kd.C k26 w dK aK.length aK) (pz : aK.length ≤ dL) (h : jy.f k ay aJ aA aH bu bz aK = some r) :
  Calls Try.prog 34 #[.agg #[.int .u8 ay, .int .i64 aJ, .int .i64 aA, .int .i64 aH, .int .i64 bu, .int .i64 bz, .slice dK aK.length dL]] w fun e w' => e = .returned (.bool r) ∧ Below w.heap.size w w' := by
 have F7 := Try.underlying26
 have ND := ae.mk oC
 have acB := ae.mk pz
 clear oC pz
 have HB := ae.mk (Below.refl w.heap.size w)
 have H : ((dC.f k ay aJ aA aH bu bz aK 200).bind fun t105 => (some (decide (t105 > 200)))) = some r := h
 clear h
 replace H := Option.bind_eq_some_iff.mp H
 obtain ⟨t105, G_, H⟩ := H
 replace H : (some (decide (t105 > 200))) = some r := H
 have A2 := ae.mk G_
 clear G_
 obtain rfl := Option.some.inj H
 go_enter Try.func34, Try.ntmps34
 go_wp2_with (first | ((with_reducible refine aC (N := 1) rfl ?_); refine aW ?hg (N := 1) ?hd (cs := #[.int .u8 ay, .int .i64 aJ, .int .i64 aA, .int .i64 aH, .int .i64 bu, .int .i64 bz, .slice dK aK.length dL]) (t := 26) ?hr ?_; (case hd => rfl); (case hg => rfl); (case hr => (go_simp; done)); intro zQ hg w3 hbox hb; have ou := ae.mk (hbox); replace HB := ae.mk (ak (by repeat ((with_reducible exact HB.out))) hb); clear hb hbox hg; have JD : w3.cell? ⟨zQ, 0, none⟩ = some (.int .u8 ay) := (af ou.out 0).trans rfl; have JE : w3.cell? ⟨zQ, 1, none⟩ = some (.int .i64 aJ) := (af ou.out 1).trans rfl; have JF : w3.cell? ⟨zQ, 2, none⟩ = some (.int .i64 aA) := (af ou.out 2).trans rfl; have JG : w3.cell? ⟨zQ, 3, none⟩ = some (.int .i64 aH) := (af ou.out 3).trans rfl; have Qk : w3.cell? ⟨zQ, 4, none⟩ = some (.int .i64 bu) := (af ou.out 4).trans rfl; have Ql : w3.cell? ⟨zQ, 5, none⟩ = some (.int .i64 bz) := (af ou.out 5).trans rfl; have Qm : w3.cell? ⟨zQ, 6, none⟩ = some (.slice dK aK.length dL) := (af ou.out 6).trans rfl; have JJ := ah ou.out 0; have JK := ah ou.out 1; have JL := ah ou.out 2; have JM := ah ou.out 3; have QD := ah ou.out 4; have QE := ah ou.out 5; have QF := ah ou.out 6) | ((with_reducible refine gK (f := 124) rfl ?_); refine jF (some 4) rfl rfl Try.func124 (by kernel_rfl) rfl #[.agg #[.int .u8 ay, .int .i64 aJ, .int .i64 aA, .int .i64 aH, .int .i64 bu, .int .i64 bz, .slice dK aK.length dL], .int .i64 200] rfl (by (try simp only [List.map_toArray, List.map_cons, List.map_nil]); rfl) ?_; (with_reducible refine (dC.calls k ay aJ aA aH bu bz _ _ aK 200 t105 _ ?lK ?nT A2.out).mono ?_); (case lK => repeat (exact (Kd.jH ND.out HB.out))); (case nT => exact acB.out); rintro e w5 ⟨rfl, hb⟩; refine ⟨_, rfl, ?_⟩; replace ou := ae.mk (aY ou.out hb); replace HB := ae.mk (ak (by repeat ((with_reducible exact HB.out))) hb); (try clear hb)))
 go_ret
 exact ⟨by rfl, by repeat ((with_reducible exact HB.out))⟩
mutual
def dn.l0 : Nat → List (ai) → Int → Int → Int → Int → Int → Int → Int → Int → List (ai) → Option ((List (ai)))
 | 0, _, _, _, _, _, _, _, _, _, _ => none
 | k + 1, x3, x9, x10, Y1, Y2, Y3, Y4, Y5, Y6, ru => if x10 < x9 then (if 0 ≤ x10 then (if x10 < (ru.length : Int) then ((dn.f k ((aI ru x10).f0) ((aI ru x10).f1.f0) ((aI ru x10).f1.f1) ((aI ru x10).f1.f2) ((aI ru x10).f1.f3) ((aI ru x10).f2) ((aI ru x10).f3)).bind fun t136 => (if x3.length + t136.length < 1954687338268 then (dn.l0 k (x3 ++ t136) x9 (wrap64 (x10 + 1)) Y1 Y2 Y3 Y4 Y5 Y6 ru) else (none))) else (none)) else (none)) else (some x3)
def dn.f : Nat → Int → Int → Int → Int → Int → Int → List (ai) → Option ((List (ai)))
 | 0, _, _, _, _, _, _, _ => none
 | k + 1, ay, aJ, aA, aH, bu, bz, aK => dn.l0 k (([(⟨ay, (⟨aJ, aA, aH, bu⟩ : dE), bz, aK⟩ : ai)] : List (ai))) (aK.length : Int) 0 ay aJ aA aH bu bz aK
end
theorem dn.calls (k : Nat) : ∀ (ay : Int) (aJ : Int) (aA : Int) (aH : Int) (bu : Int) (bz : Int) (fJ : Nat → Prop) (dK : Option Addr) (dL : Nat) (aK : List (ai)) (r : List (ai)) (w : World) (CV : Kd.V k26 26 w w.heap.size (fun k_ => fJ k_) (.slice dK aK.length dL) aK) (h : dn.f k ay aJ aA aH bu bz aK = some r),
  Calls Try.prog 79 #[.agg #[.int .u8 ay, .int .i64 aJ, .int .i64 aA, .int .i64 aH, .int .i64 bu, .int .i64 bz, .slice dK aK.length dL]] w fun e w' => ∃ nU : Value, e = .returned (nU) ∧ Kd.N k26 26 w' w.heap.size (fun k_ => (fJ k_ ∨ w.heap.size ≤ k_)) nU r ∧ Below w.heap.size w w' := by
 induction k using Nat.strongRecOn with
 | _ k ih =>
 intro ay aJ aA aH bu bz fJ dK dL aK r w CV h
 cases k with
 | zero => exact absurd h (by simp [dn.f])
 | succ k =>
 simp only [dn.f] at h
 have F7 := Try.underlying26
 have ji := ae.mk (show Kd.V k26 26 w w.heap.size (fun k_ => (fJ k_ ∨ w.heap.size ≤ k_)) (.slice dK aK.length dL) aK from Kd.gG CV (fun k_ hk => .inl hk))
 have HB := ae.mk (Below.refl w.heap.size w)
 have H : (dn.l0 k (([(⟨ay, (⟨aJ, aA, aH, bu⟩ : dE), bz, aK⟩ : ai)] : List (ai))) (aK.length : Int) 0 ay aJ aA aH bu bz aK) = some r := h
 clear h
 obtain ⟨acr, Om⟩ : ∃ y_ : List (ai), y_ = (([(⟨ay, (⟨aJ, aA, aH, bu⟩ : dE), bz, aK⟩ : ai)] : List (ai))) := ⟨_, rfl⟩
 replace H : (dn.l0 k acr (aK.length : Int) 0 ay aJ aA aH bu bz aK) = some r := by (rw [Om]; with_reducible exact H)
 have acN := ae.mk Om
 clear Om
 have H' := ae.mk H
 clear H
 go_enter Try.func79, Try.ntmps79
 go_wp2_with (first | ((with_reducible refine aC (N := 1) rfl ?_); refine aW ?hg (N := 1) ?hd (cs := #[.int .u8 ay, .int .i64 aJ, .int .i64 aA, .int .i64 aH, .int .i64 bu, .int .i64 bz, .slice dK aK.length dL]) (t := 26) ?hr ?_; (case hd => rfl); (case hg => rfl); (case hr => (go_simp; done)); intro gY hg w2 hbox hb; have eQ := ae.mk (hbox); replace ji := ae.mk (Kd.kE (Kd.qC ji.out gY (Nat.le_of_eq hg.symm)) hb); replace HB := ae.mk (ak (by repeat ((with_reducible exact HB.out))) hb); clear hb hbox hg; have aaW : w2.cell? ⟨gY, 0, none⟩ = some (.int .u8 ay) := (af eQ.out 0).trans rfl; have aaX : w2.cell? ⟨gY, 1, none⟩ = some (.int .i64 aJ) := (af eQ.out 1).trans rfl; have aaY : w2.cell? ⟨gY, 2, none⟩ = some (.int .i64 aA) := (af eQ.out 2).trans rfl; have aaZ : w2.cell? ⟨gY, 3, none⟩ = some (.int .i64 aH) := (af eQ.out 3).trans rfl; have aa0 : w2.cell? ⟨gY, 4, none⟩ = some (.int .i64 bu) := (af eQ.out 4).trans rfl; have aa1 : w2.cell? ⟨gY, 5, none⟩ = some (.int .i64 bz) := (af eQ.out 5).trans rfl; have aa2 : w2.cell? ⟨gY, 6, none⟩ = some (.slice dK aK.length dL) := (af eQ.out 6).trans rfl; have abd := ah eQ.out 0; have abe := ah eQ.out 1; have abf := ah eQ.out 2; have abg := ah eQ.out 3; have abh := ah eQ.out 4; have abj := ah eQ.out 5; have abk := ah eQ.out 6) | ((with_reducible refine aC (N := 6) rfl ?_); refine Kd.wR k26 _ 26 ?hg (N' := 6) ?hd (xs := ([(⟨ay, (⟨aJ, aA, aH, bu⟩ : dE), bz, aK⟩ : ai)] : List (ai))) (inner := [.int .u8 ay, .int .i64 aJ, .int .i64 aA, .int .i64 aH, .int .i64 bu, .int .i64 bz, .slice dK aK.length dL]) (ok := (fun k_ => (fJ k_ ∨ w.heap.size ≤ k_) ∧ k_ ≠ gY)) (fH := (fun k_ => (fJ k_ ∨ w.heap.size ≤ k_) ∧ k_ ≠ gY)) ?hr ?hp (fun _ hk => hk) ((show ∀ k_, w2.heap.size ≤ k_ → (fun k_ => (fJ k_ ∨ w.heap.size ≤ k_) ∧ k_ ≠ gY) k_ from fun k_ hk => ⟨(.inr (Nat.le_trans (bP (by repeat ((with_reducible exact HB.out)))) hk)), Kd.xE eQ.out k_ hk⟩) _ (Nat.le_refl _)) (Below.refl _ _) (Nat.le_refl _) (by simp) ?_; (case hd => rfl); (case hg => rfl); (case hr => (go_simp; done)); (case hp => exact (bD.c7 (show Kd.FK k26 _ _ (⟨ay, (⟨aJ, aA, aH, bu⟩ : dE), bz, aK⟩ : ai) [.int .u8 ay, .int .i64 aJ, .int .i64 aA, .int .i64 aH, .int .i64 bu, .int .i64 bz, .slice dK aK.length dL] from (pY _ _ (⟨ay, (⟨aJ, aA, aH, bu⟩ : dE), bz, aK⟩ : ai) (Kd.kz (Kd.gG (ok' := (fun k_ => (fJ k_ ∨ w.heap.size ≤ k_) ∧ k_ ≠ gY)) (ji.out) (fun k_ hk => ⟨hk.1, hk.2⟩))).2.1 (Kd.PM (Kd.gG (ok' := (fun k_ => (fJ k_ ∨ w.heap.size ≤ k_) ∧ k_ ≠ gY)) (ji.out) (fun k_ hk => ⟨hk.1, hk.2⟩))))) (bD.none _ _))); intro ajq w4 zl hb kF gQ; clear kF gQ; (rw [← acN.out] at zl); have acC := ae.mk (Kd.uH zl (bP (by repeat ((with_reducible exact HB.out))))); replace ji := ae.mk (Kd.uK ji.out (Kd.rH zl) hb); replace eQ := ae.mk (aY eQ.out hb); replace HB := ae.mk (ak (by repeat ((with_reducible exact HB.out))) hb); clear hb zl; have Bd : w4.cell? ⟨gY, 0, none⟩ = some (.int .u8 ay) := (af eQ.out 0).trans rfl; have Be : w4.cell? ⟨gY, 1, none⟩ = some (.int .i64 aJ) := (af eQ.out 1).trans rfl; have Bf : w4.cell? ⟨gY, 2, none⟩ = some (.int .i64 aA) := (af eQ.out 2).trans rfl; have Bg : w4.cell? ⟨gY, 3, none⟩ = some (.int .i64 aH) := (af eQ.out 3).trans rfl; have Bh : w4.cell? ⟨gY, 4, none⟩ = some (.int .i64 bu) := (af eQ.out 4).trans rfl; have Bi : w4.cell? ⟨gY, 5, none⟩ = some (.int .i64 bz) := (af eQ.out 5).trans rfl; have Bj : w4.cell? ⟨gY, 6, none⟩ = some (.slice dK aK.length dL) := (af eQ.out 6).trans rfl; have Bl := ah eQ.out 0; have Bo := ah eQ.out 1; have Bq := ah eQ.out 2; have Bv := ah eQ.out 3; have Bz := ah eQ.out 4; have BA := ah eQ.out 5; have BB := ah eQ.out 6))
 go_loopg [3, 10] k (fun kq v3 v10 w' => ∃ (rE : List (ai)) (dS : Int), v10 = .int .i64 dS ∧ ae (dn.l0 kq rE (aK.length : Int) dS ay aJ aA aH bu bz aK = some r) ∧ ae (kq ≤ k) ∧ ae (Kd.N k26 26 w' w.heap.size (fun k_ => (fJ k_ ∨ w.heap.size ≤ k_) ∧ k_ ≠ gY) v3 rE) ∧ ae (Kd.V k26 26 w' w.heap.size (fun k_ => (fJ k_ ∨ w.heap.size ≤ k_) ∧ some k_ ≠ (v3 : Value).ownBlock ∧ k_ ≠ gY) (.slice dK aK.length dL) aK) ∧ ae (w'.heap[gY]? = some (.cells #[.int .u8 ay, .int .i64 aJ, .int .i64 aA, .int .i64 aH, .int .i64 bu, .int .i64 bz, (.slice dK aK.length dL)] 26 (0, 0))) ∧ ae (Below w.heap.size w w'))
 case atStart => exact ⟨(acr), (0), (by rfl), H', ⟨Nat.le_refl _⟩, ⟨by exact acC.out⟩, ⟨by exact Kd.gG ji.out (fun _ hk => ⟨hk.1.1, ⟨hk.2, hk.1.2⟩⟩)⟩, ⟨by exact eQ.out⟩, ⟨by repeat ((with_reducible exact HB.out))⟩⟩
 case round =>
  clear H'
  clear aaW aaX aaY aaZ aa0 aa1 aa2 Bd Be Bf Bg Bh Bi Bj abd abe abf abg abh abj abk Bl Bo Bq Bv Bz BA BB
  obtain ⟨rE, dS, rfl, HA, lD, uG, qA, eQ, HB⟩ := hrel
  cases gk with
  | zero => exact absurd HA.out (by simp [dn.l0])
  | succ k1 =>
   have H := HA.out
   clear HA
   simp only [dn.l0] at H
   by_cases c7 : dS < (aK.length : Int)
   ·rw [if_pos c7] at H
    have qH : decide (dS < (aK.length : Int)) = true := decide_eq_true c7
    clear c7
    by_cases c8 : 0 ≤ dS
    ·rw [if_pos c8] at H
     have uQ : decide (0 ≤ dS) = true := decide_eq_true c8
     clear c8
     by_cases c9 : dS < (aK.length : Int)
     ·rw [if_pos c9] at H
      have Jp : decide (dS < (aK.length : Int)) = true := decide_eq_true c9
      clear c9
      replace H := Option.bind_eq_some_iff.mp H
      obtain ⟨t136, Za, H⟩ := H
      replace H : (if rE.length + t136.length < 1954687338268 then (dn.l0 k1 (rE ++ t136) (aK.length : Int) (wrap64 (dS + 1)) ay aJ aA aH bu bz aK) else (none)) = some r := H
      have K_ := ae.mk Za
      clear Za
      by_cases c11 : rE.length + t136.length < 1954687338268
      ·rw [if_pos c11] at H
       have acL := ae.mk c11
       clear c11
       obtain ⟨acs, Oo⟩ : ∃ y_ : List (ai), y_ = (rE ++ t136) := ⟨_, rfl⟩
       replace H : (dn.l0 k1 acs (aK.length : Int) (wrap64 (dS + 1)) ay aJ aA aH bu bz aK) = some r := by (rw [Oo]; with_reducible exact H)
       have acO := ae.mk Oo
       clear Oo
       have H' := ae.mk H
       clear H
       have WR : wr.cell? ⟨gY, 0, none⟩ = some (.int .u8 ay) := (af eQ.out 0).trans rfl
       have WS : wr.cell? ⟨gY, 1, none⟩ = some (.int .i64 aJ) := (af eQ.out 1).trans rfl
       have WT : wr.cell? ⟨gY, 2, none⟩ = some (.int .i64 aA) := (af eQ.out 2).trans rfl
       have WU : wr.cell? ⟨gY, 3, none⟩ = some (.int .i64 aH) := (af eQ.out 3).trans rfl
       have afF : wr.cell? ⟨gY, 4, none⟩ = some (.int .i64 bu) := (af eQ.out 4).trans rfl
       have afG : wr.cell? ⟨gY, 5, none⟩ = some (.int .i64 bz) := (af eQ.out 5).trans rfl
       have afH : wr.cell? ⟨gY, 6, none⟩ = some (.slice dK aK.length dL) := (af eQ.out 6).trans rfl
       have XC := ah eQ.out 0
       have XD := ah eQ.out 1
       have XE := ah eQ.out 2
       have XF := ah eQ.out 3
       have afX := ah eQ.out 4
       have afY := ah eQ.out 5
       have afZ := ah eQ.out 6
       have OH : 0 ≤ (dS : Int) := of_decide_eq_true (by (with_reducible assumption))
       have OJ : dS < (aK.length : Int) := of_decide_eq_true (by (with_reducible assumption))
       obtain ⟨aip, Zc, Z_, aeX, agb, agc, agd, age, agf, agh, Yc, Ya, X9⟩ := t_ (Kd.kz qA.out).2.2 dS OH OJ
       cases aeX
       obtain ⟨aiB, aaU, aaR, Qi⟩ := Kd.ac3 qA.out z26 dS OH OJ
       obtain ⟨agr, agt, rfl, Gw, FH⟩ := oV aaR
       have CW := Qi 6 _ rfl
       rw [jP _ _ 6 (by omega)] at CW
       replace CW := Option.some.inj (CW.symm.trans Yc)
       injection CW with xH DV xI
       rw [xH] at FH
       rw [xI] at Gw
       have yV := ae.mk (show Kd.V k26 26 _ w.heap.size _ _ ((aI aK dS).f3) from Kd.uN Gw FH)
       clear xH DV xI FH Gw
       clear Qi aaU
       clear X9 Ya
       replace OH := eq_true OH
       replace OJ := eq_true OJ
       go_wp2_with (first | ((with_reducible refine gK (f := 79) rfl ?_); refine jF (some 19) rfl rfl Try.func79 (by kernel_rfl) rfl #[.agg #[.int .u8 ((aI aK dS).f0), .int .i64 ((aI aK dS).f1.f0), .int .i64 ((aI aK dS).f1.f1), .int .i64 ((aI aK dS).f1.f2), .int .i64 ((aI aK dS).f1.f3), .int .i64 ((aI aK dS).f2), .slice Zc ((aI aK dS).f3).length Z_]] rfl (by (try simp only [List.map_toArray, List.map_cons, List.map_nil]); rfl) ?_; (with_reducible refine (ih k1 (by have := lD.out; omega) ((aI aK dS).f0) ((aI aK dS).f1.f0) ((aI aK dS).f1.f1) ((aI aK dS).f1.f2) ((aI aK dS).f1.f3) ((aI aK dS).f2) (fun k_ => ((fJ k_ ∨ w.heap.size ≤ k_) ∧ (some k_ ≠ (u3 : Value).ownBlock ∧ k_ ≠ gY))) _ _ ((aI aK dS).f3) t136 _ ?lK K_.out).mono ?_); (case lK => exact yV.out); rintro e qP ⟨ajr, rfl, ho0, hb⟩; refine ⟨_, rfl, ?_⟩; have Ii := ae.mk (Kd.uH (Kd.iT (ok' := fun k_ => (fJ k_ ∨ w.heap.size ≤ k_) ∧ some k_ ≠ (u3 : Value).ownBlock ∧ k_ ≠ gY) ho0 (fun k_ JO => ⟨Or.elim JO (fun hs_ => hs_.1) (fun BC => (.inr (Nat.le_trans (bP (by repeat ((with_reducible exact HB.out)))) BC))), Or.elim JO (fun hs_ => hs_.2.1) (fun BC => (Kd.fresh' (Kd.DJ uG.out) k_ BC)), Or.elim JO (fun hs_ => hs_.2.2) (fun BC => (Kd.xE eQ.out k_ BC))⟩)) (bP (by repeat ((with_reducible exact HB.out))))); replace uG := ae.mk (Kd.I7 uG.out (Kd.rH ho0) hb); replace qA := ae.mk (Kd.uK qA.out (Kd.rH ho0) hb); replace yV := ae.mk (Kd.uK yV.out (Kd.rH ho0) hb); replace eQ := ae.mk (aY eQ.out hb); replace HB := ae.mk (ak (by repeat ((with_reducible exact HB.out))) hb); (try clear hb); (try clear ho0); obtain ⟨Ns, N8, TS⟩ := Kd.jU Ii.out; subst TS) | ((with_reducible refine oI (b := .append) (xs := #[.tmp 13, .tmp 19]) rfl ?_); at_builtin; refine Kd.Aj k26 (w0 := w) w.heap.size rfl (.tmp 13) (.tmp 19) 24 26 (.agg #[(.int .u8 0), (.int .i64 0), (.int .i64 0), (.int .i64 0), (.int .i64 0), (.int .i64 0), (.slice none 0 0)]) 72 rfl Try.underlying24 info26 rfl (by decide) (by omega) u3 rE t136 _ _ _ (fun k_ => (fJ k_ ∨ w.heap.size ≤ k_) ∧ k_ ≠ gY) (fun k_ => ((fun k_ => (fJ k_ ∨ w.heap.size ≤ k_) ∧ k_ ≠ gY)) k_ ∧ some k_ ≠ (u3 : Value).ownBlock) rfl rfl ?aO ?aR (fun _ hk => hk) ?aF ?aB ?aS ?aL ?_; (case aR => exact (by exact Kd.ZI (Kd.iT (ok' := (fun k_ => ((fun k_ => (fJ k_ ∨ w.heap.size ≤ k_) ∧ k_ ≠ gY)) k_ ∧ some k_ ≠ (u3 : Value).ownBlock)) (Ii.out) (fun k_ hk => ⟨⟨hk.1, hk.2.2⟩, hk.2.1⟩)))); (case aB => exact (by repeat ((with_reducible exact HB.out)))); (case aF => exact (fun k_ hk => ⟨(.inr (Nat.le_trans (bP (by repeat ((with_reducible exact HB.out)))) hk)), Kd.xE eQ.out k_ hk⟩)); (case aO => exact (by exact Kd.iT uG.out (fun _ hk => ⟨hk.1.1, hk.1.2⟩))); (case aS => exact (bP (by repeat ((with_reducible exact HB.out))))); (case aL => have := acL.out; omega); intro ajs V3 ho hb hg hat; rw [← acO.out] at ho; have acD := ae.mk (ho); replace qA := ae.mk (Kd.zH (ok := (fun k_ => (fJ k_ ∨ w.heap.size ≤ k_) ∧ some k_ ≠ (.slice Ns t136.length N8 : Value).ownBlock ∧ k_ ≠ gY)) (by exact Kd.gG qA.out (fun _ hk => ⟨⟨hk.1.1, ⟨hk.2, hk.1.2.2⟩⟩, hk.1.2.1⟩)) hg hat); replace eQ := ae.mk (dM eQ.out hg (Kd.PE uG.out (fun _ hk => hk.1.2))); replace yV := ae.mk (Kd.zH (ok := (fun k_ => (fJ k_ ∨ w.heap.size ≤ k_) ∧ some k_ ≠ (.slice Ns t136.length N8 : Value).ownBlock ∧ k_ ≠ gY)) (by exact Kd.gG yV.out (fun _ hk => ⟨⟨hk.1.1, ⟨hk.2, hk.1.2.2⟩⟩, hk.1.2.1⟩)) hg hat); replace Ii := ae.mk (Kd.I4 (ok := (fun k_ => (fJ k_ ∨ w.heap.size ≤ k_) ∧ k_ ≠ gY)) (by exact Kd.iT Ii.out (fun _ hk => ⟨⟨hk.1, hk.2.2⟩, hk.2.1⟩)) hg hat); replace HB := ae.mk (hb); clear uG; clear ho hb hg hat))
       go_roundg k1
       case measure => have := lD.out; omega
       case rel => exact ⟨(acs), (wrap64 (dS + 1)), (by rfl), H', ⟨by have := lD.out; omega⟩, ⟨by exact acD.out⟩, ⟨by exact Kd.gG qA.out (fun _ hk => ⟨hk.1.1, ⟨hk.2, hk.1.2.2⟩⟩)⟩, ⟨by exact eQ.out⟩, ⟨by repeat ((with_reducible exact HB.out))⟩⟩
      ·rw [if_neg c11] at H
       exact absurd H (by simp)
     ·rw [if_neg c9] at H
      exact absurd H (by simp)
    ·rw [if_neg c8] at H
     exact absurd H (by simp)
   ·rw [if_neg c7] at H
    have qH : decide (dS < (aK.length : Int)) = false := decide_eq_false c7
    clear c7
    obtain rfl := Option.some.inj H
    go_wp2
    go_ret
    exact ⟨_, by rfl, by exact Kd.iT uG.out (fun _ hk => hk.1), by repeat ((with_reducible exact HB.out))⟩
def dQ.l0 : Nat → List (ai) → List (ai) → Int → Int → Option ((List (ai)))
 | 0, _, _, _, _ => none
 | k + 1, x3, x4, x10, x11 => if x11 < x10 then (if 0 ≤ x11 then (if x11 < (x4.length : Int) then (if ((aI x4 x11).f0) = 1 then (if x3.length < 1954687338268 then (dQ.l0 k (x3 ++ [(⟨(aI x4 x11).f0, (⟨(aI x4 x11).f1.f0, (aI x4 x11).f1.f1, (aI x4 x11).f1.f2, (aI x4 x11).f1.f3⟩ : dE), (aI x4 x11).f2, (aI x4 x11).f3⟩ : ai)]) x4 x10 (wrap64 (x11 + 1))) else (none)) else (dQ.l0 k x3 x4 x10 (wrap64 (x11 + 1)))) else (none)) else (none)) else (some x3)
def dQ.f (k : Nat) (ay : Int) (aJ : Int) (aA : Int) (aH : Int) (bu : Int) (bz : Int) (aK : List (ai)) : Option ((List (ai))) := (dn.f k ay aJ aA aH bu bz aK).bind fun t146 => (dQ.l0 k (([] : List (ai))) t146 (t146.length : Int) 0)
theorem dQ.calls (k : Nat) (ay : Int) (aJ : Int) (aA : Int) (aH : Int) (bu : Int) (bz : Int) (fJ : Nat → Prop) (dK : Option Addr) (dL : Nat) (aK : List (ai)) (r : List (ai)) (w : World) (CV : Kd.V k26 26 w w.heap.size (fun k_ => fJ k_) (.slice dK aK.length dL) aK) (h : dQ.f k ay aJ aA aH bu bz aK = some r) :
  Calls Try.prog 126 #[.agg #[.int .u8 ay, .int .i64 aJ, .int .i64 aA, .int .i64 aH, .int .i64 bu, .int .i64 bz, .slice dK aK.length dL]] w fun e w' => ∃ nU : Value, e = .returned (nU) ∧ Kd.N k26 26 w' w.heap.size (fun k_ => (fJ k_ ∨ w.heap.size ≤ k_)) nU r ∧ Below w.heap.size w w' := by
 have F7 := Try.underlying26
 have ji := ae.mk (show Kd.V k26 26 w w.heap.size (fun k_ => (fJ k_ ∨ w.heap.size ≤ k_)) (.slice dK aK.length dL) aK from Kd.gG CV (fun k_ hk => .inl hk))
 have HB := ae.mk (Below.refl w.heap.size w)
 have H : ((dn.f k ay aJ aA aH bu bz aK).bind fun t146 => (dQ.l0 k (([] : List (ai))) t146 (t146.length : Int) 0)) = some r := h
 clear h
 obtain ⟨Vd, Oq⟩ : ∃ y_ : List (ai), y_ = (([] : List (ai))) := ⟨_, rfl⟩
 replace H : ((dn.f k ay aJ aA aH bu bz aK).bind fun t146 => (dQ.l0 k Vd t146 (t146.length : Int) 0)) = some r := by (rw [Oq]; with_reducible exact H)
 have acP := ae.mk Oq
 clear Oq
 replace H := Option.bind_eq_some_iff.mp H
 obtain ⟨t146, G_, H⟩ := H
 replace H : (dQ.l0 k Vd t146 (t146.length : Int) 0) = some r := H
 have A2 := ae.mk G_
 clear G_
 have H' := ae.mk H
 clear H
 go_enter Try.func126, Try.ntmps126
 go_wp2_with (first | ((with_reducible refine aC (N := 1) rfl ?_); refine aW ?hg (N := 1) ?hd (cs := #[.int .u8 ay, .int .i64 aJ, .int .i64 aA, .int .i64 aH, .int .i64 bu, .int .i64 bz, .slice dK aK.length dL]) (t := 26) ?hr ?_; (case hd => rfl); (case hg => rfl); (case hr => (go_simp; done)); intro kH hg w3 hbox hb; have jG := ae.mk (hbox); replace ji := ae.mk (Kd.kE (Kd.qC ji.out kH (Nat.le_of_eq hg.symm)) hb); replace HB := ae.mk (ak (by repeat ((with_reducible exact HB.out))) hb); clear hb hbox hg) | ((with_reducible refine aC (N := 6) rfl ?_); refine Kd.wR k26 _ 26 ?hg (N' := 6) ?hd (xs := ([] : List (ai))) (inner := []) (ok := (fun k_ => (fJ k_ ∨ w.heap.size ≤ k_) ∧ k_ ≠ kH)) (fH := (fun k_ => (fJ k_ ∨ w.heap.size ≤ k_) ∧ k_ ≠ kH)) ?hr ?hp (fun _ hk => hk) ((show ∀ k_, w3.heap.size ≤ k_ → (fun k_ => (fJ k_ ∨ w.heap.size ≤ k_) ∧ k_ ≠ kH) k_ from fun k_ hk => ⟨(.inr (Nat.le_trans (bP (by repeat ((with_reducible exact HB.out)))) hk)), Kd.xE jG.out k_ hk⟩) _ (Nat.le_refl _)) (Below.refl _ _) (Nat.le_refl _) (by simp) ?_; (case hd => rfl); (case hg => rfl); (case hr => (go_simp; done)); (case hp => exact (bD.none _ _)); intro ack w4 zl hb kF gQ; clear kF gQ; (rw [← acP.out] at zl); have Ij := ae.mk (Kd.uH zl (bP (by repeat ((with_reducible exact HB.out))))); replace ji := ae.mk (Kd.uK ji.out (Kd.rH zl) hb); replace jG := ae.mk (aY jG.out hb); replace HB := ae.mk (ak (by repeat ((with_reducible exact HB.out))) hb); clear hb zl; have Bd : w4.cell? ⟨kH, 0, none⟩ = some (.int .u8 ay) := (af jG.out 0).trans rfl; have Be : w4.cell? ⟨kH, 1, none⟩ = some (.int .i64 aJ) := (af jG.out 1).trans rfl; have Bf : w4.cell? ⟨kH, 2, none⟩ = some (.int .i64 aA) := (af jG.out 2).trans rfl; have Bg : w4.cell? ⟨kH, 3, none⟩ = some (.int .i64 aH) := (af jG.out 3).trans rfl; have Bh : w4.cell? ⟨kH, 4, none⟩ = some (.int .i64 bu) := (af jG.out 4).trans rfl; have Bi : w4.cell? ⟨kH, 5, none⟩ = some (.int .i64 bz) := (af jG.out 5).trans rfl; have Bj : w4.cell? ⟨kH, 6, none⟩ = some (.slice dK aK.length dL) := (af jG.out 6).trans rfl; have Bl := ah jG.out 0; have Bo := ah jG.out 1; have Bq := ah jG.out 2; have Bv := ah jG.out 3; have Bz := ah jG.out 4; have BA := ah jG.out 5; have BB := ah jG.out 6) | ((with_reducible refine gK (f := 79) rfl ?_); refine jF (some 8) rfl rfl Try.func79 (by kernel_rfl) rfl #[.agg #[.int .u8 ay, .int .i64 aJ, .int .i64 aA, .int .i64 aH, .int .i64 bu, .int .i64 bz, .slice dK aK.length dL]] rfl (by (try simp only [List.map_toArray, List.map_cons, List.map_nil]); rfl) ?_; (with_reducible refine (dn.calls k ay aJ aA aH bu bz (fun k_ => (((fJ k_ ∨ w.heap.size ≤ k_) ∧ k_ ≠ kH) ∧ some k_ ≠ (ack : Value).ownBlock)) _ _ aK t146 _ ?lK A2.out).mono ?_); (case lK => exact ji.out); rintro e w7 ⟨ajt, rfl, ho0, hb⟩; refine ⟨_, rfl, ?_⟩; have Vr := ae.mk (Kd.uH (Kd.iT (ok' := fun k_ => (fJ k_ ∨ w.heap.size ≤ k_) ∧ some k_ ≠ (ack : Value).ownBlock ∧ k_ ≠ kH) ho0 (fun k_ JO => ⟨Or.elim JO (fun hs_ => hs_.1.1) (fun BC => (.inr (Nat.le_trans (bP (by repeat ((with_reducible exact HB.out)))) BC))), Or.elim JO (fun hs_ => hs_.2) (fun BC => (Kd.fresh' (Kd.DJ Ij.out) k_ BC)), Or.elim JO (fun hs_ => hs_.1.2) (fun BC => (Kd.xE jG.out k_ BC))⟩)) (bP (by repeat ((with_reducible exact HB.out))))); replace ji := ae.mk (Kd.uK ji.out (Kd.rH ho0) hb); replace Ij := ae.mk (Kd.I7 Ij.out (Kd.rH ho0) hb); replace jG := ae.mk (aY jG.out hb); replace HB := ae.mk (ak (by repeat ((with_reducible exact HB.out))) hb); (try clear hb); (try clear ho0); obtain ⟨Zg, EH, eo8⟩ := Kd.jU Vr.out; subst eo8))
 go_loopg [3, 11] k (fun kq v3 v11 w' => ∃ (rE : List (ai)) (bJ : Int), v11 = .int .i64 bJ ∧ ae (dQ.l0 kq rE t146 (t146.length : Int) bJ = some r) ∧ ae (kq ≤ k) ∧ ae (Kd.N k26 26 w' w.heap.size (fun k_ => (fJ k_ ∨ w.heap.size ≤ k_) ∧ some k_ ≠ ((.slice Zg t146.length EH) : Value).ownBlock ∧ k_ ≠ kH) v3 rE) ∧ ae (Kd.N k26 26 w' w.heap.size (fun k_ => (fJ k_ ∨ w.heap.size ≤ k_) ∧ some k_ ≠ (v3 : Value).ownBlock ∧ k_ ≠ kH) (.slice Zg t146.length EH) t146) ∧ ae (Kd.V k26 26 w' w.heap.size (fun k_ => (fJ k_ ∨ w.heap.size ≤ k_) ∧ some k_ ≠ (v3 : Value).ownBlock ∧ some k_ ≠ ((.slice Zg t146.length EH) : Value).ownBlock ∧ k_ ≠ kH) (.slice dK aK.length dL) aK) ∧ ae (w'.heap[kH]? = some (.cells #[.int .u8 ay, .int .i64 aJ, .int .i64 aA, .int .i64 aH, .int .i64 bu, .int .i64 bz, (.slice dK aK.length dL)] 26 (0, 0))) ∧ ae (Below w.heap.size w w'))
 case atStart => exact ⟨(Vd), (0), (by rfl), H', ⟨Nat.le_refl _⟩, ⟨by exact Kd.iT Ij.out (fun _ hk => ⟨hk.1.1, ⟨hk.2, hk.1.2⟩⟩)⟩, ⟨by exact Vr.out⟩, ⟨by exact Kd.gG ji.out (fun _ hk => ⟨hk.1.1.1, ⟨hk.1.2, ⟨hk.2, hk.1.1.2⟩⟩⟩)⟩, ⟨by exact jG.out⟩, ⟨by repeat ((with_reducible exact HB.out))⟩⟩
 case round =>
  clear H'
  clear Bd Be Bf Bg Bh Bi Bj Bl Bo Bq Bv Bz BA BB
  obtain ⟨rE, bJ, rfl, HA, lD, uG, xu, yl, jG, HB⟩ := hrel
  cases gk with
  | zero => exact absurd HA.out (by simp [dQ.l0])
  | succ k1 =>
   have H := HA.out
   clear HA
   simp only [dQ.l0] at H
   by_cases c9 : bJ < (t146.length : Int)
   ·rw [if_pos c9] at H
    have Jp : decide (bJ < (t146.length : Int)) = true := decide_eq_true c9
    clear c9
    by_cases c10 : 0 ≤ bJ
    ·rw [if_pos c10] at H
     have ED : decide (0 ≤ bJ) = true := decide_eq_true c10
     clear c10
     by_cases c11 : bJ < (t146.length : Int)
     ·rw [if_pos c11] at H
      have zM : decide (bJ < (t146.length : Int)) = true := decide_eq_true c11
      clear c11
      by_cases c12 : ((aI t146 bJ).f0) = 1
      ·rw [if_pos c12] at H
       have wU : (((aI t146 bJ).f0) == 1) = true := beq_iff_eq.mpr c12
       have EE : (((aI t146 bJ).f0) != 1) = false := bne_eq_false_iff_eq.mpr c12
       clear c12
       by_cases c13 : rE.length < 1954687338268
       ·rw [if_pos c13] at H
        have NG := ae.mk c13
        clear c13
        obtain ⟨y151, hy151⟩ : ∃ y_ : List (ai), y_ = (rE ++ [(⟨(aI t146 bJ).f0, (⟨(aI t146 bJ).f1.f0, (aI t146 bJ).f1.f1, (aI t146 bJ).f1.f2, (aI t146 bJ).f1.f3⟩ : dE), (aI t146 bJ).f2, (aI t146 bJ).f3⟩ : ai)]) := ⟨_, rfl⟩
        replace H : (dQ.l0 k1 y151 t146 (t146.length : Int) (wrap64 (bJ + 1))) = some r := by (rw [hy151]; with_reducible exact H)
        have acQ := ae.mk hy151
        clear hy151
        have H' := ae.mk H
        clear H
        have zY : 0 ≤ (bJ : Int) := of_decide_eq_true (by (with_reducible assumption))
        have zZ : bJ < (t146.length : Int) := of_decide_eq_true (by (with_reducible assumption))
        obtain ⟨yw, O_, PS, TK, Yd, Ye, Yf, Yg, Yh, Yi, CY, F5, FY⟩ := t_ (Kd.jk xu.out).2.2 bJ zY zZ
        cases TK
        obtain ⟨adH, JC, JA, Bc⟩ := Kd.NH xu.out z26 bJ zY zZ
        obtain ⟨YR, YS, rfl, zB, zk⟩ := oV JA
        have qW := Bc 6 _ rfl
        rw [jP _ _ 6 (by omega)] at qW
        replace qW := Option.some.inj (qW.symm.trans CY)
        injection qW with xH DV xI
        rw [xH] at zk
        rw [xI] at zB
        clear xH DV xI zk zB
        clear Bc JC
        clear FY F5
        replace zY := eq_true zY
        replace zZ := eq_true zZ
        have OI : 0 ≤ (bJ : Int) := of_decide_eq_true (by (with_reducible assumption))
        have OL : bJ < (t146.length : Int) := of_decide_eq_true (by (with_reducible assumption))
        obtain ⟨ac5, agw, ahe, aeY, agi, agj, agk, agl, agm, agn, MJ, Yb, X_⟩ := t_ (Kd.jk xu.out).2.2 bJ OI OL
        obtain rfl : yw = ac5 := (by injection aeY)
        obtain ⟨aiC, aaV, aaS, Qj⟩ := Kd.NH xu.out z26 bJ OI OL
        obtain ⟨ags, agu, rfl, Gx, FI⟩ := oV aaS
        have CX := Qj 6 _ rfl
        rw [jP _ _ 6 (by omega)] at CX
        replace CX := Option.some.inj (CX.symm.trans MJ)
        injection CX with xH DV xI
        rw [xH] at FI
        rw [xI] at Gx
        have Ci := ae.mk (show Kd.V k26 26 _ w.heap.size _ _ ((aI t146 bJ).f3) from Kd.uN Gx FI)
        clear xH DV xI FI Gx
        clear Qj aaV
        clear X_ Yb
        replace OI := eq_true OI
        replace OL := eq_true OL
        have ea_ := Option.some.inj (CY.symm.trans MJ)
        injection ea_ with ea_ en_ ec_
        subst ea_
        subst ec_
        clear en_
        go_wp2_with (((with_reducible refine oI (b := .append) (xs := #[.tmp 20, .tmp 25]) rfl ?_); at_builtin; refine Kd.I5 k26 (w0 := w) w.heap.size rfl (.tmp 20) (.tmp 25) 24 26 (.agg #[(.int .u8 0), (.int .i64 0), (.int .i64 0), (.int .i64 0), (.int .i64 0), (.int .i64 0), (.slice none 0 0)]) 72 rfl Try.underlying24 info26 rfl (by decide) (by omega) u3 rE (⟨(aI t146 bJ).f0, (⟨(aI t146 bJ).f1.f0, (aI t146 bJ).f1.f1, (aI t146 bJ).f1.f2, (aI t146 bJ).f1.f3⟩ : dE), (aI t146 bJ).f2, (aI t146 bJ).f3⟩ : ai) [.int .u8 ((aI t146 bJ).f0), .int .i64 ((aI t146 bJ).f1.f0), .int .i64 ((aI t146 bJ).f1.f1), .int .i64 ((aI t146 bJ).f1.f2), .int .i64 ((aI t146 bJ).f1.f3), .int .i64 ((aI t146 bJ).f2), .slice O_ ((aI t146 bJ).f3).length PS] (fun k_ => (fJ k_ ∨ w.heap.size ≤ k_) ∧ some k_ ≠ (.slice (some yw) t146.length EH : Value).ownBlock ∧ k_ ≠ kH) (fun k_ => ((fun k_ => (fJ k_ ∨ w.heap.size ≤ k_) ∧ some k_ ≠ (.slice (some yw) t146.length EH : Value).ownBlock ∧ k_ ≠ kH)) k_ ∧ some k_ ≠ (u3 : Value).ownBlock) rfl rfl ?aP (fun _ hk => hk) ?aF ?aO ?aB ?aS ?aL ?_; (case aP => exact (pY _ _ (⟨(aI t146 bJ).f0, (⟨(aI t146 bJ).f1.f0, (aI t146 bJ).f1.f1, (aI t146 bJ).f1.f2, (aI t146 bJ).f1.f3⟩ : dE), (aI t146 bJ).f2, (aI t146 bJ).f3⟩ : ai) (Kd.kz (Kd.gG (ok' := (fun k_ => ((fun k_ => (fJ k_ ∨ w.heap.size ≤ k_) ∧ some k_ ≠ (.slice (some yw) t146.length EH : Value).ownBlock ∧ k_ ≠ kH)) k_ ∧ some k_ ≠ (u3 : Value).ownBlock)) (Ci.out) (fun k_ hk => ⟨⟨hk.1.1, ⟨hk.2, hk.1.2.2⟩⟩, hk.1.2.1⟩))).2.1 (Kd.PM (Kd.gG (ok' := (fun k_ => ((fun k_ => (fJ k_ ∨ w.heap.size ≤ k_) ∧ some k_ ≠ (.slice (some yw) t146.length EH : Value).ownBlock ∧ k_ ≠ kH)) k_ ∧ some k_ ≠ (u3 : Value).ownBlock)) (Ci.out) (fun k_ hk => ⟨⟨hk.1.1, ⟨hk.2, hk.1.2.2⟩⟩, hk.1.2.1⟩))))); (case aB => exact (by repeat ((with_reducible exact HB.out)))); (case aF => exact (fun k_ hk => ⟨(.inr (Nat.le_trans (bP (by repeat ((with_reducible exact HB.out)))) hk)), Kd.fresh' (Kd.DJ xu.out) k_ hk, Kd.xE jG.out k_ hk⟩)); (case aO => exact uG.out); (case aS => exact (bP (by repeat ((with_reducible exact HB.out))))); (case aL => have := NG.out; omega); intro v152 V3 ho hb hg hat; rw [← acQ.out] at ho; have acE := ae.mk (ho); replace xu := ae.mk (Kd.I4 (ok := (fun k_ => (fJ k_ ∨ w.heap.size ≤ k_) ∧ k_ ≠ kH)) (by exact Kd.iT xu.out (fun _ hk => ⟨⟨hk.1, hk.2.2⟩, hk.2.1⟩)) hg hat); replace yl := ae.mk (Kd.zH (ok := (fun k_ => (fJ k_ ∨ w.heap.size ≤ k_) ∧ some k_ ≠ (.slice (some yw) t146.length EH : Value).ownBlock ∧ k_ ≠ kH)) (by exact Kd.gG yl.out (fun _ hk => ⟨⟨hk.1, ⟨hk.2.2.1, hk.2.2.2⟩⟩, hk.2.1⟩)) hg hat); replace jG := ae.mk (dM jG.out hg (Kd.PE uG.out (fun _ hk => hk.2.2))); replace Ci := ae.mk (Kd.zH (ok := (fun k_ => (fJ k_ ∨ w.heap.size ≤ k_) ∧ some k_ ≠ (.slice (some yw) t146.length EH : Value).ownBlock ∧ k_ ≠ kH)) (by exact Kd.gG Ci.out (fun _ hk => ⟨⟨hk.1.1, ⟨hk.2, hk.1.2.2⟩⟩, hk.1.2.1⟩)) hg hat); replace HB := ae.mk (hb); clear uG; clear ho hb hg hat))
        go_roundg k1
        case measure => have := lD.out; omega
        case rel => exact ⟨(y151), (wrap64 (bJ + 1)), (by rfl), H', ⟨by have := lD.out; omega⟩, ⟨by exact acE.out⟩, ⟨by exact Kd.iT xu.out (fun _ hk => ⟨hk.1.1, ⟨hk.2, hk.1.2⟩⟩)⟩, ⟨by exact Kd.gG yl.out (fun _ hk => ⟨hk.1.1, ⟨hk.2, ⟨hk.1.2.1, hk.1.2.2⟩⟩⟩)⟩, ⟨by exact jG.out⟩, ⟨by repeat ((with_reducible exact HB.out))⟩⟩
       ·rw [if_neg c13] at H
        exact absurd H (by simp)
      ·rw [if_neg c12] at H
       have wU : (((aI t146 bJ).f0) == 1) = false := beq_eq_false_iff_ne.mpr c12
       have EE : (((aI t146 bJ).f0) != 1) = true := bne_iff_ne.mpr c12
       have H' := ae.mk H
       clear H
       have zY : 0 ≤ (bJ : Int) := of_decide_eq_true (by (with_reducible assumption))
       have zZ : bJ < (t146.length : Int) := of_decide_eq_true (by (with_reducible assumption))
       obtain ⟨yw, O_, PS, TK, Yd, Ye, Yf, Yg, Yh, Yi, CY, F5, FY⟩ := t_ (Kd.jk xu.out).2.2 bJ zY zZ
       cases TK
       obtain ⟨adH, JC, JA, Bc⟩ := Kd.NH xu.out z26 bJ zY zZ
       obtain ⟨YR, YS, rfl, zB, zk⟩ := oV JA
       have qW := Bc 6 _ rfl
       rw [jP _ _ 6 (by omega)] at qW
       replace qW := Option.some.inj (qW.symm.trans CY)
       injection qW with xH DV xI
       rw [xH] at zk
       rw [xI] at zB
       clear xH DV xI zk zB
       clear Bc JC
       clear FY F5
       replace zY := eq_true zY
       replace zZ := eq_true zZ
       go_wp2
       go_roundg k1
       case measure => have := lD.out; omega
       case rel => exact ⟨(rE), (wrap64 (bJ + 1)), (by rfl), H', ⟨by have := lD.out; omega⟩, ⟨by exact uG.out⟩, ⟨by exact xu.out⟩, ⟨by exact yl.out⟩, ⟨by exact jG.out⟩, ⟨by repeat ((with_reducible exact HB.out))⟩⟩
     ·rw [if_neg c11] at H
      exact absurd H (by simp)
    ·rw [if_neg c10] at H
     exact absurd H (by simp)
   ·rw [if_neg c9] at H
    have Jp : decide (bJ < (t146.length : Int)) = false := decide_eq_false c9
    clear c9
    obtain rfl := Option.some.inj H
    go_wp2
    go_ret
    exact ⟨_, by rfl, by exact Kd.iT uG.out (fun _ hk => hk.1), by repeat ((with_reducible exact HB.out))⟩
end Go.Proofs.Ytfdmfgaiblfbhaa.P
namespace Go.Proofs.Ytfdmfgaiblfbhaa.P
open Go.RowKit Go.Proofs.ag.aV Go.Proofs.ag.bM Go.Proofs.ag.di
theorem iZ (pre : List ai) (p : ai) (rest : List ai) : aI (pre ++ p :: rest) (pre.length : Int) = p := by
 simp [aI, List.getD_eq_getElem?_getD]
theorem O6 {α : Type} (pre : List α) (p : α) (rest : List α) (h : (pre ++ p :: rest).length ≤ 9223372036854775807) : wrap64 ((pre.length : Int) + 1) = ((pre ++ [p]).length : Int) := by
 simp only [List.length_append, List.length_cons, List.length_nil] at h ⊢
 rw [wq (by omega) (by omega)]
 omega
theorem TE (L : Int) : ∀ (N : Nat) (c : ai), sz c ≤ N → N ≤ 1048576 → ∃ n : Int, Ev (fun k => dC.f k c.f0 c.f1.f0 c.f1.f1 c.f1.f2 c.f1.f3 c.f2 c.f3 L) n ∧ 1 ≤ n ∧ n ≤ (sz c : Int) ∧ (n > L ∨ n = (sz c : Int)) := by
 intro N
 induction N with
 | zero => intro c h _; rw [dR] at h; omega
 | succ N ih =>
  intro c hc hN
  have hs := dR c
  have key : ∀ (rest pre : List ai), pre ++ rest = c.f3 → ∀ acc : Int, 1 ≤ acc → acc + (fV rest : Int) ≤ 1048576 → (acc > L ∨ acc = 1 + (fV pre : Int)) →
    ∃ n : Int, Ev (fun k => dC.l0 k L acc (c.f3.length : Int) (pre.length : Int) c.f0 c.f1.f0 c.f1.f1 c.f1.f2 c.f1.f3 c.f2 c.f3) n ∧ acc ≤ n ∧ n ≤ acc + (fV rest : Int) ∧ (n > L ∨ n = 1 + (fV c.f3 : Int)) := by
   intro rest
   induction rest with
   | nil =>
    intro pre hp acc h1 h2 h3
    rw [List.append_nil] at hp
    refine ⟨acc, Ev.step (f := fun _ => some acc) (fun k => ?_) (Ev.now _), by omega, by omega, by rw [← hp]; exact h3⟩
    simp only [dC.l0]
    rw [if_neg (by rw [hp]; omega)]
   | cons x xs ihr =>
    intro pre hp acc h1 h2 h3
    have hl : (pre.length : Int) < (c.f3.length : Int) := by rw [← hp, List.length_append, List.length_cons]; omega
    have hlen := jJ c.f3
    by_cases hL : acc > L
    ·refine ⟨acc, Ev.step (f := fun _ => some acc) (fun k => ?_) (Ev.now _), by omega, by omega, .inl hL⟩
     simp only [dC.l0]
     rw [if_pos hl, if_pos hL]
    ·have h3' : acc = 1 + (fV pre : Int) := by omega
     have hsum : fV c.f3 = fV pre + (sz x + fV xs) := by rw [← hp, oQ, dU]
     obtain ⟨n1, e1, a1, b1, c1⟩ := ih x (by omega) (by omega)
     rw [dU] at h2
     obtain ⟨n, e2, a2, b2, c2⟩ := ihr (pre ++ [x]) (by rw [List.append_assoc]; exact hp) (acc + n1) (by omega) (by omega) (by
      rw [oQ, dU, qf]
      omega)
     refine ⟨n, ?_, by omega, by rw [dU]; omega, c2⟩
     have hw : wrap64 (acc + n1) = acc + n1 := wq (by omega) (by omega)
     have hr : aI c.f3 (pre.length : Int) = x := by rw [← hp]; exact iZ pre x xs
     have hu : wrap64 ((pre.length : Int) + 1) = ((pre ++ [x]).length : Int) := O6 pre x xs (by rw [hp]; omega)
     refine Ev.step (f := fun k => (dC.f k x.f0 x.f1.f0 x.f1.f1 x.f1.f2 x.f1.f3 x.f2 x.f3 L).bind fun t => dC.l0 k L (wrap64 (acc + t)) (c.f3.length : Int) (wrap64 ((pre.length : Int) + 1)) c.f0 c.f1.f0 c.f1.f1 c.f1.f2 c.f1.f3 c.f2 c.f3) (fun k => ?_) (Ev.bind e1 ?_)
     ·simp only [dC.l0]
      rw [if_pos hl, if_neg hL, if_pos (by omega), if_pos hl, hr]
     ·rw [hw, hu]
      exact e2
  obtain ⟨n, e, a, b, d⟩ := key c.f3 [] rfl 1 (by omega) (by omega) (.inr (by rw [qf]; rfl))
  refine ⟨n, Ev.step (fun k => ?_) e, a, by omega, by omega⟩
  simp only [dC.f]
  rfl
theorem TY (c : ai) (h : sz c ≤ 1048576) : ∃ b : Bool, Ev (fun k => jy.f k c.f0 c.f1.f0 c.f1.f1 c.f1.f2 c.f1.f3 c.f2 c.f3) b ∧ (b = false → sz c ≤ 200) := by
 obtain ⟨n, e, h1, h2, h3⟩ := TE 200 1048576 c h (Nat.le_refl _)
 refine ⟨decide (n > 200), ?_, fun hb => ?_⟩
 ·unfold jy.f
  exact Ev.bind e (Ev.now _)
 ·have := of_decide_eq_false hb
  omega
theorem AY : ∀ (N : Nat) (c : ai), sz c ≤ N → N ≤ 1048576 → Ev (fun k => dn.f k c.f0 c.f1.f0 c.f1.f1 c.f1.f2 c.f1.f3 c.f2 c.f3) (gU c) := by
 intro N
 induction N with
 | zero => intro c h _; rw [dR] at h; omega
 | succ N ih =>
  intro c hc hN
  have hs := dR c
  have key : ∀ (rest pre : List ai), pre ++ rest = c.f3 → Ev (fun k => dn.l0 k (c :: allL pre) (c.f3.length : Int) (pre.length : Int) c.f0 c.f1.f0 c.f1.f1 c.f1.f2 c.f1.f3 c.f2 c.f3) (gU c) := by
   intro rest
   induction rest with
   | nil =>
    intro pre hp
    rw [List.append_nil] at hp
    refine Ev.step (f := fun _ => some (gU c)) (fun k => ?_) (Ev.now _)
    simp only [dn.l0]
    rw [if_neg (by rw [hp]; omega), hp, sK]
   | cons x xs ihr =>
    intro pre hp
    have hl : (pre.length : Int) < (c.f3.length : Int) := by rw [← hp, List.length_append, List.length_cons]; omega
    have hlen := jJ c.f3
    have hsum : fV c.f3 = fV pre + (sz x + fV xs) := by rw [← hp, oQ, dU]
    have e2 := ihr (pre ++ [x]) (by rw [List.append_assoc]; exact hp)
    have hr : aI c.f3 (pre.length : Int) = x := by rw [← hp]; exact iZ pre x xs
    have hu : wrap64 ((pre.length : Int) + 1) = ((pre ++ [x]).length : Int) := O6 pre x xs (by rw [hp]; omega)
    have ha : c :: allL (pre ++ [x]) = (c :: allL pre) ++ gU x := by rw [zI, nI, o_, List.append_nil, List.cons_append]
    have hb : (c :: allL pre).length + (gU x).length < 1954687338268 := by
     have h1 : (allL pre).length = fV pre := rfl
     have h2 : (gU x).length = sz x := rfl
     rw [List.length_cons, h1, h2]
     omega
    rw [ha] at e2
    refine Ev.step (f := fun k => (dn.f k x.f0 x.f1.f0 x.f1.f1 x.f1.f2 x.f1.f3 x.f2 x.f3).bind fun t => (if (c :: allL pre).length + t.length < 1954687338268 then (dn.l0 k ((c :: allL pre) ++ t) (c.f3.length : Int) (wrap64 ((pre.length : Int) + 1)) c.f0 c.f1.f0 c.f1.f1 c.f1.f2 c.f1.f3 c.f2 c.f3) else none)) (fun k => ?_) (Ev.bind (ih x (by omega) (by omega)) (aaI hb ?_))
    ·simp only [dn.l0]
     rw [if_pos hl, if_pos (by omega), if_pos hl, hr]
    ·rw [hu]
     exact e2
  refine Ev.step (fun k => ?_) (key c.f3 [] rfl)
  simp only [dn.f, o_, CS]
  rfl
def nz (c : ai) : List ai := (gU c).filter fun x => decide (x.f0 = 1)
theorem QY (c : ai) (h : sz c ≤ 1048576) : Ev (fun k => dQ.f k c.f0 c.f1.f0 c.f1.f1 c.f1.f2 c.f1.f3 c.f2 c.f3) (nz c) := by
 unfold dQ.f
 refine Ev.bind (AY _ c h (Nat.le_refl _)) ?_
 have key : ∀ (rest pre : List ai), pre ++ rest = gU c → Ev (fun k => dQ.l0 k (pre.filter fun x => decide (x.f0 = 1)) (gU c) ((gU c).length : Int) (pre.length : Int)) (nz c) := by
  intro rest
  induction rest with
  | nil =>
   intro pre hp
   rw [List.append_nil] at hp
   refine Ev.step (f := fun _ => some (nz c)) (fun k => ?_) (Ev.now _)
   simp only [dQ.l0]
   rw [if_neg (by rw [hp]; omega), hp]
   rfl
  | cons x xs ihr =>
   intro pre hp
   have hsz : (gU c).length ≤ 1048576 := h
   have hl : (pre.length : Int) < ((gU c).length : Int) := by rw [← hp, List.length_append, List.length_cons]; omega
   have e2 := ihr (pre ++ [x]) (by rw [List.append_assoc]; exact hp)
   have hr : aI (gU c) (pre.length : Int) = x := by rw [← hp]; exact iZ pre x xs
   have hu : wrap64 ((pre.length : Int) + 1) = ((pre ++ [x]).length : Int) := O6 pre x xs (by rw [hp]; omega)
   have hb : (pre.filter fun x => decide (x.f0 = 1)).length < 1954687338268 := by
    have := List.length_filter_le (fun x : ai => decide (x.f0 = 1)) pre
    omega
   rw [List.filter_append] at e2
   refine Ev.step (fun k => ?_) e2
   simp only [dQ.l0]
   rw [if_pos hl, if_pos (by omega), if_pos hl, hr, hu]
   by_cases h1 : x.f0 = 1
   ·rw [if_pos h1, if_pos hb, List.filter_cons_of_pos (by simpa using h1), CS]
    rfl
   ·rw [if_neg h1, List.filter_cons_of_neg (by simpa using h1), List.filter_nil, List.append_nil]
 exact key (gU c) [] rfl
end Go.Proofs.Ytfdmfgaiblfbhaa.P
namespace Go.Proofs.Ytfdmfgaiblfbhaa.P
open Go.RowKit Go.Proofs.ag.aV Go.Proofs.ag.bM Go.Proofs.ag.di
attribute [local go_sem] kC kP lh lU jR jS kN kQ
theorem adJ (d : Nat) (w : World) (x0 y0 : Int) (x1 y1 : Int) (x2 y2 : Int) (x3 y3 : Int) :
  (Op.equalIn (d + 2) 23 (.agg #[.int .i64 x0, .int .i64 x1, .int .i64 x2, .int .i64 x3]) (.agg #[.int .i64 y0, .int .i64 y1, .int .i64 y2, .int .i64 y3])).run Try.prog w = .ok (x0 == y0 && (x1 == y1 && (x2 == y2 && (x3 == y3)))) w := by
 refine aaF Try.underlying23 (by kernel_rfl) ?_
 refine DR (by rfl) (by go_simp; rfl) (by go_simp; rfl) (by go_simp) ?_
 refine DR (by rfl) (by go_simp; rfl) (by go_simp; rfl) (by go_simp) ?_
 refine DR (by rfl) (by go_simp; rfl) (by go_simp; rfl) (by go_simp) ?_
 exact TT (by rfl) (by go_simp; rfl) (by go_simp; rfl) (by go_simp)
end Go.Proofs.Ytfdmfgaiblfbhaa.P
namespace Go.Proofs.Ytfdmfgaiblfbhaa.P
open Go.RowKit Go.Proofs.ag.aV Go.Proofs.ag.bM Go.Proofs.ag.di
attribute [local go_sem] kC kP lh lU jR jS kN kQ
attribute [local go_sem high] adJ
mutual
def ja.j0 : Nat → Bool → Int → Int → Int → Int → Int → Int → List (ai) → Int → Int → Int → Int → Int → Int → List (ai) → Option (Bool)
 | 0, _, _, _, _, _, _, _, _, _, _, _, _, _, _, _ => none
 | k + 1, x33, GK, GL, GM, GN, GR, GU, nD, GV, GX, GY, GZ, G5, G6, oU => if x33 = true then (some false) else (ja.l0 k (nD.length : Int) 0 GK GL GM GN GR GU nD GV GX GY GZ G5 G6 oU)
def ja.l0 : Nat → Int → Int → Int → Int → Int → Int → Int → Int → List (ai) → Int → Int → Int → Int → Int → Int → List (ai) → Option (Bool)
 | 0, _, _, _, _, _, _, _, _, _, _, _, _, _, _, _, _ => none
 | k + 1, x36, uD, GK, GL, GM, GN, GR, GU, nD, GV, GX, GY, GZ, G5, G6, oU => if uD < x36 then (if 0 ≤ uD then (if uD < (nD.length : Int) then (if uD < (oU.length : Int) then ((ja.f k ((aI nD uD).f0) ((aI nD uD).f1.f0) ((aI nD uD).f1.f1) ((aI nD uD).f1.f2) ((aI nD uD).f1.f3) ((aI nD uD).f2) ((aI nD uD).f3) ((aI oU uD).f0) ((aI oU uD).f1.f0) ((aI oU uD).f1.f1) ((aI oU uD).f1.f2) ((aI oU uD).f1.f3) ((aI oU uD).f2) ((aI oU uD).f3)).bind fun afq => (if afq = true then (ja.l0 k x36 (wrap64 (uD + 1)) GK GL GM GN GR GU nD GV GX GY GZ G5 G6 oU) else (some false))) else (none)) else (none)) else (none)) else (some true)
def ja.f : Nat → Int → Int → Int → Int → Int → Int → List (ai) → Int → Int → Int → Int → Int → Int → List (ai) → Option (Bool)
 | 0, _, _, _, _, _, _, _, _, _, _, _, _, _, _ => none
 | k + 1, ay, aJ, aA, aH, bu, bz, aK, Ja, Jb, Jc, Jd, Je, Jf, JX => if ay = Ja then (if (!(aJ == Jb) || (!(aA == Jc) || (!(aH == Jd) || (!(bu == Je))))) = true then (ja.j0 k true ay aJ aA aH bu bz aK Ja Jb Jc Jd Je Jf JX) else (if bz = Jf then (ja.j0 k ((aK.length : Int) != (JX.length : Int)) ay aJ aA aH bu bz aK Ja Jb Jc Jd Je Jf JX) else (ja.j0 k true ay aJ aA aH bu bz aK Ja Jb Jc Jd Je Jf JX))) else (ja.j0 k true ay aJ aA aH bu bz aK Ja Jb Jc Jd Je Jf JX)
end
def ja.T6 : Bool × List (List Nat × List Nat) := (true, [([], []), ([0], [0]), ([], []), ([1, 2], [1, 2]), ([3], [3]), ([], []), ([5], [5]), ([], []), ([6, 7], [6, 7]), ([8], [8]), ([4, 9], [4, 9]), ([10], [10])])
def ja.B6 : List Nat := [0, 1, 0, 7, 15, 0, 32, 0, 224, 480, 1023, 2047]
end Go.Proofs.Ytfdmfgaiblfbhaa.P
namespace Go.Proofs.Ytfdmfgaiblfbhaa.P
open Go.RowKit Go.Proofs.ag.aV Go.Proofs.ag.bM Go.Proofs.ag.di
def mf (a b : dE) : Bool := a.f0 == b.f0 && (a.f1 == b.f1 && (a.f2 == b.f2 && a.f3 == b.f3))
mutual
def r_ : ai → ai → Bool
 | ⟨a, r, d, l⟩, ⟨a', r', d', l'⟩ => a == a' && (mf r r' && (d == d' && (l.length == l'.length && qY l l')))
def qY : List ai → List ai → Bool
 | [], _ => true
 | _ :: _, [] => true
 | c :: cs, e :: es => r_ c e && qY cs es
end
theorem Kv (a b : ai) : r_ a b = (a.f0 == b.f0 && (mf a.f1 b.f1 && (a.f2 == b.f2 && (a.f3.length == b.f3.length && qY a.f3 b.f3)))) := by cases a; cases b; simp [r_]
theorem vV (b : List ai) : qY [] b = true := by cases b <;> simp [qY]
theorem uA (c e : ai) (cs es : List ai) : qY (c :: cs) (e :: es) = (r_ c e && qY cs es) := by simp [qY]
theorem OW : ∀ (N : Nat), (∀ c : ai, sz c ≤ N → r_ c c = true) ∧ (∀ l : List ai, fV l ≤ N → qY l l = true) := by
 intro N
 induction N with
 | zero =>
  refine ⟨fun c h => ?_, fun l h => ?_⟩
  ·rw [dR] at h; omega
  ·cases l with
   | nil => exact vV _
   | cons x xs => rw [dU, dR] at h; omega
 | succ N ih =>
  have hC : ∀ c : ai, sz c ≤ N + 1 → r_ c c = true := by
   intro c h
   rw [dR] at h
   rw [Kv, ih.2 c.f3 (by omega)]
   simp [mf]
  refine ⟨hC, fun l => ?_⟩
  induction l with
  | nil => intro _; exact vV _
  | cons x xs ihl =>
   intro h
   rw [dU] at h
   rw [uA, hC x (by omega), ihl (by omega)]
   rfl
theorem qK {P : Program} {f : FuncId} {fn : Func} (hf : P.funcs[f]? = some fn) (hname : (fn.name == "runtime.NumGoroutine") = false) (hb : fn.body.isSome = true) : ∀ args w, (callFunc f args).run P w = .ok (.enter f args) w := by
 intro args w
 obtain ⟨c, hc⟩ := Option.isSome_iff_exists.1 hb
 have h1 : fn.name ≠ "runtime.NumGoroutine" := by simpa using hname
 simp [callFunc, hf, h1, hc, mark]
section
variable {σ α : Type}
def kK (step : σ → α → Bool × σ) : Int → σ → List α → Int × σ
 | _, s, [] => (-1, s)
 | i, s, x :: xs => if (step s x).1 = true then (i, (step s x).2) else kK step (i + 1) (step s x).2 xs
def qx (step : σ → α → Bool × σ) : σ → List α → Bool × σ
 | s, [] => (false, s)
 | s, x :: xs => if (step s x).1 = true then (true, (step s x).2) else qx step (step s x).2 xs
theorem YJ (step : σ → α → Bool × σ) : ∀ (l : List α) (i : Int) (s : σ), 0 ≤ i → (qx step s l).1 = decide (0 ≤ (kK step i s l).1) ∧ (qx step s l).2 = (kK step i s l).2 := by
 intro l
 induction l with
 | nil => intro i s h; exact ⟨by simp [qx, kK], rfl⟩
 | cons x xs ih =>
  intro i s h
  simp only [qx, kK]
  split
  ·exact ⟨by simp [h], rfl⟩
  ·exact ih (i + 1) _ (by omega)
theorem Kw (step : σ → α → Bool × σ) (s : σ) (l : List α) : qx step s l = (decide (0 ≤ (kK step 0 s l).1), (kK step 0 s l).2) := by
 have h := YJ step l 0 s (by omega)
 exact Prod.ext h.1 h.2
theorem MW (step : σ → α → Bool × σ) (z : α) (l : List α) (k : Nat) (h : k < l.length) (t : σ) :
  kK step k t (l.drop k) = if (step t (l.getD (k : Int).toNat z)).1 = true then ((k : Int), (step t (l.getD (k : Int).toNat z)).2) else kK step ((k + 1 : Nat) : Int) (step t (l.getD (k : Int).toNat z)).2 (l.drop (k + 1)) := by
 rw [List.drop_eq_getElem_cons h]
 simp only [kK, Int.toNat_natCast, List.getD_eq_getElem?_getD, List.getElem?_eq_getElem h, Option.getD_some]
 rfl
theorem Ad (z : α) (l : List α) (k : Nat) (h : k < l.length) : l.getD (k : Int).toNat z ∈ l := by
 simp only [Int.toNat_natCast, List.getD_eq_getElem?_getD, List.getElem?_eq_getElem h, Option.getD_some]
 exact List.getElem_mem h
theorem H5 (p : α → Bool) : ∀ (l : List α) (s : Unit), qx (fun _ x => (p x, ())) s l = (l.any p, ()) := by
 intro l
 induction l with
 | nil => intro s; rfl
 | cons x xs ih =>
  intro s
  simp only [qx, List.any_cons]
  cases h : p x with
  | true => simp
  | false => simp [ih]
end
def rO {α β : Type} (r : α → β → Bool) : List α → List β → Bool
 | a :: ta, b :: tb => r a b && rO r ta tb
 | [], _ => true
 | _ :: _, [] => true
theorem aaG {α β : Type} (r : α → β → Bool) (za : α) (zb : β) (la : List α) (lb : List β) (k : Nat) (ha : k < la.length) (hb : k < lb.length) :
  rO r (la.drop k) (lb.drop k) = (r (la.getD (k : Int).toNat za) (lb.getD (k : Int).toNat zb) && rO r (la.drop (k + 1)) (lb.drop (k + 1))) := by
 rw [List.drop_eq_getElem_cons ha, List.drop_eq_getElem_cons hb]
 simp only [rO, Int.toNat_natCast, List.getD_eq_getElem?_getD, List.getElem?_eq_getElem ha, List.getElem?_eq_getElem hb, Option.getD_some]
theorem FD {α β : Type} (r : α → β → Bool) (lb : List β) : rO r ([] : List α) lb = true := by cases lb <;> rfl
def Dk (k : Int) : Int := (((k - 2) % 256) + 1) % 256
def pV (f0 : Int) (k : ai) : Int := if f0 = 2 then k.f1.f2 else k.f1.f3
def szK (c k : ai) : Int := pV c.f0 k
def jY (c : ai) : List Int := c.f3.map (szK c)
def xB (c : ai) : List dE × List dE × Bool := qJ c.f1.f0 c.f1.f1 c.f1.f2 c.f1.f3 (Dk c.f0) (jY c)
theorem Jt (c : ai) : (xB c).1.length ≤ c.f3.length ∧ (xB c).2.1.length ≤ c.f3.length := by
 have h := TF c.f1.f0 c.f1.f1 c.f1.f2 c.f1.f3 (Dk c.f0) (jY c)
 rwa [show (jY c).length = c.f3.length from List.length_map _] at h
theorem Hf {c : ai} (h : (xB c).2.2 = true) : (Dk c.f0 = 1 ∨ Dk c.f0 = 2) ∧ (xB c).1 = zO (Dk c.f0) c.f1.f0 c.f1.f1 c.f1.f2 c.f1.f3 0 (jY c) ∧ (jY c).sum + ((jY c).length : Int) - 1 = tX (Dk c.f0) c.f1.f2 c.f1.f3 ∧ ∀ m, m ∈ jY c → 1 ≤ m := PY h
def Gm (c : ai) (t : List dE × List dE × Bool) : Bool := c.f0 == 1 || (t.2.2 && (c.f3.length == t.1.length && rO (fun k r => mf k.f1 r) c.f3 t.1))
def linesT (c : ai) (t : List dE × List dE × Bool) : List dE := if c.f0 = 1 then [] else t.2.1
def ql (c : ai) : Bool := Gm c (xB c)
def ah1 (c : ai) : List dE := linesT c (xB c)
def kW (c : ai) : Bool := (gU c).all ql
theorem BZ (c : ai) : kW c = (ql c && c.f3.all kW) := by
 unfold kW
 rw [sK, List.all_cons]
 congr 1
 generalize c.f3 = l
 induction l with
 | nil => rw [o_]; rfl
 | cons x xs ih => rw [nI, List.all_append, List.all_cons, ih]
theorem LJ {W : World} {f : FuncId} {args : Array Value} {t1 t2 : List dE} (h : Calls Try.prog f args W (IJ W (t1, t2, true))) :
  Calls Try.prog f args W fun e w' => ∃ A c A' c' o o', e = .returned (.tuple #[.slice A t1.length c, .slice A' t2.length c', .bool true]) ∧ Two k23 23 k23 23 W w' (.slice A t1.length c) t1 (.slice A' t2.length c') t2 o o' ∧ Below W.heap.size W w' :=
 h.mono (fun _ _ ⟨A, c, A', c', o, o', h1, h2, h3⟩ => ⟨A, c, A', c', o, o', h1, h2 rfl, h3⟩)
theorem Ju {W : World} {f : FuncId} {args : Array Value} {t1 t2 : List dE} (h : Calls Try.prog f args W (IJ W (t1, t2, false))) :
  Calls Try.prog f args W fun e w' => ∃ A n c A' n' c', e = .returned (.tuple #[.slice A n c, .slice A' n' c', .bool false]) ∧ Below W.heap.size W w' :=
 h.mono (fun _ _ ⟨A, c, A', c', _, _, h1, _, h3⟩ => ⟨A, _, c, A', _, c', h1, h3⟩)
abbrev NI (w : World) (c : ai) (e : Ending) (w' : World) : Prop := ∃ A n cc, e = .returned (.tuple #[.slice A n cc, .bool (ql c)]) ∧ (ql c = true → ∃ ls : List dE, n = ls.length ∧ ls.length ≤ c.f3.length ∧ k23.R 23 w' w.heap.size (fun _ => True) (.slice A ls.length cc) ls) ∧ Below w.heap.size w w'
theorem WE (k : Int) : (k - 1) % 256 = Dk k := by unfold Dk; omega
theorem LP {α β : Type} {r : α → β → Bool} : ∀ {a b : List α} {a' b' : List β}, a.length = a'.length → rO r (a ++ b) (a' ++ b') = (rO r a a' && rO r b b') := by
 intro a
 induction a with
 | nil => intro b a' b' h; cases a' with
  | nil => rw [FD]; rfl
  | cons y ys => simp at h
 | cons x xs ih =>
  intro b a' b' h
  cases a' with
  | nil => simp at h
  | cons y ys =>
   simp only [List.cons_append, rO]
   rw [ih (by simpa using h), Bool.and_assoc]
theorem abR {α : Type} {r k : dE} (h : mf k r = false) (x y : α) : (if r.f0 = k.f0 then if r.f1 = k.f1 then if r.f2 = k.f2 then if r.f3 = k.f3 then x else y else y else y else y) = y := by
 unfold mf at h
 repeat' split
 all_goals first | rfl | (simp_all; done)
theorem ZG {base n c : Nat} {A : Option Addr} {l : List dE} {o : Obj} (h : KR k23 23 base (.slice A n c) l o) {W : World} (hm : ∀ g, (Value.slice A n c).ownBlock = some g → W.heap[g]? = some o) (pre rest : List dE) (r : dE) (hl : pre ++ r :: rest = l) :
  ∃ ad, A = some ad ∧ ∀ W : World, (∀ g, (Value.slice A n c).ownBlock = some g → W.heap[g]? = some o) → W.cell? (ad.add (pre.length * 4)) = some (.int .i64 r.f0) ∧ W.cell? ⟨(ad.add (pre.length * 4)).block, (ad.add (pre.length * 4)).off + 1, none⟩ = some (.int .i64 r.f1) ∧ W.cell? ⟨(ad.add (pre.length * 4)).block, (ad.add (pre.length * 4)).off + 2, none⟩ = some (.int .i64 r.f2) ∧ W.cell? ⟨(ad.add (pre.length * 4)).block, (ad.add (pre.length * 4)).off + 3, none⟩ = some (.int .i64 r.f3) := by
 have hi : (pre.length : Int) < l.length := by rw [← hl, List.length_append, List.length_cons]; omega
 have hr : oO l pre.length = r := by rw [← hl]; simp [oO, List.getD_eq_getElem?_getD]
 have key : ∀ W : World, (∀ g, (Value.slice A n c).ownBlock = some g → W.heap[g]? = some o) → ∃ ad, A = some ad ∧ W.cell? (ad.add (pre.length * 4)) = some (.int .i64 r.f0) ∧ W.cell? ⟨(ad.add (pre.length * 4)).block, (ad.add (pre.length * 4)).off + 1, none⟩ = some (.int .i64 r.f1) ∧ W.cell? ⟨(ad.add (pre.length * 4)).block, (ad.add (pre.length * 4)).off + 2, none⟩ = some (.int .i64 r.f2) ∧ W.cell? ⟨(ad.add (pre.length * 4)).block, (ad.add (pre.length * 4)).off + 3, none⟩ = some (.int .i64 r.f3) := fun W hW => by
  have hC := (Kd.bQ (h W hW)).2.2
  have h2 := Jj hC (pre.length : Int) (Int.natCast_nonneg _) hi
  rw [hr] at h2
  exact h2
 obtain ⟨ad, hA, _⟩ := key W hm
 refine ⟨ad, hA, fun W hW => ?_⟩
 obtain ⟨ad2, h1, h2⟩ := key W hW
 rw [hA] at h1
 injection h1 with h1
 rw [h1]
 exact h2
end Go.Proofs.Ytfdmfgaiblfbhaa.P
