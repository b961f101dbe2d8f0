/- KillIs: part 3 of 7 of this claim's texts, one behind the other, made small by a program: the words of the kit's printer cut down to those that are used, the claim's own names made short. -/
import Derived.Test.YtfdmfgaiblfbhaaGreatProg
import Derived.Below
import Derived.Deep.Draws
import Derived.Deep.AppendLies
import Derived.Maps.AppendAt
import Derived.OwnWalk
import Derived.Laws.BytesArg
import Derived.Laws.MakeOwn
import Derived.Laws.OwnMore
import Derived.Deep.OwnRows
import Derived.Tactics
import Derived.Lib.ConvBytes
import Derived.Laws.Slices
import Derived.WalkKit
import Derived.KernelRfl
import Derived.RowKit3
import Derived.Deep.LoopGhost
import Derived.Deep.QuietTactic
import Derived.BigQuiet
import Derived.WideLaws
import Derived.Deep.DeepCutAuto
import Derived.Deep.CutBlock
import Derived.Deep.RegionHeld3
import Derived.Laws.Rows
import Derived.Lib.AppendStr
import Derived.ArgAppend
import Derived.Laws.IdiomCopy
import Derived.OrdersHeld
import Derived.Laws.BitsLemmas
import Derived.RowKit
import Derived.Test.YtfdmfgaiblfbhaaGreatMKillIsa
import Derived.Test.YtfdmfgaiblfbhaaGreatMKillIsb
import Derived.Lib.Hide
set_option maxHeartbeats 8000000
set_option maxRecDepth 100000
set_option linter.unusedVariables false
set_option linter.unusedSimpArgs false
namespace Go.Proofs.YtfdmfgaiblfbhaaGreat.P
open Go.RowKit Go.Proofs.ag.aU Go.Proofs.ag.bK Go.Proofs.ag.cO
attribute [local go_sem] jG jR kQ lq jJ jK kT kU
def ahL : Option Int → Value
 | none => .nilIface
 | some c => .iface 0 (.int .i64 c)
theorem lW : ahL none = .nilIface := rfl
theorem lX (c : Int) : ahL (some c) = .iface 0 (.int .i64 c) := rfl
theorem info3 : (Tryz.prog.info? 3).map (fun i => (i.zero, i.size, i.bytes)) = some (some (.int .i64 0), 1, 8) := by kernel_rfl
theorem info23 : (Tryz.prog.info? 23).map (fun i => (i.zero, i.size, i.bytes)) = some (some (.agg #[(.int .i64 0), (.int .i64 0), (.int .i64 0), (.int .i64 0)]), 4, 32) := by kernel_rfl
theorem info26 : (Tryz.prog.info? 26).map (fun i => (i.zero, i.size, i.bytes)) = some (some (.agg #[(.int .u8 0), (.int .i64 0), (.int .i64 0), (.int .i64 0), (.int .i64 0), (.int .i64 0), (.slice none 0 0)]), 7, 72) := by kernel_rfl
structure dW where
 f0 : Int
 f1 : Int
 f2 : Int
 f3 : Int
def z23 : dW := ⟨(0 : Int), (0 : Int), (0 : Int), (0 : Int)⟩
def k23 : Kd dW := Kd.YJ (Kd.pair (Kd.int .i64) (Kd.pair (Kd.int .i64) (Kd.pair (Kd.int .i64) (Kd.int .i64)))) (fun x : dW => (x.f0, x.f1, x.f2, x.f3))
theorem aaZ : Kd.Heap k23 := Kd.RQ _ (Kd.xP (Kd.yV .i64) (Kd.xP (Kd.yV .i64) (Kd.xP (Kd.yV .i64) (Kd.yV .i64))))
theorem Ju {w : World} {x : dW} {cs : List Value} (h : k23.K w x cs) : cs = [.int .i64 x.f0, .int .i64 x.f1, .int .i64 x.f2, .int .i64 x.f3] := by
 obtain ⟨_, _, rfl, rfl, ⟨_, _, rfl, rfl, ⟨_, _, rfl, rfl, rfl⟩⟩⟩ := h
 exact rfl
theorem SA (w : World) (x : dW)  : k23.K w x [.int .i64 x.f0, .int .i64 x.f1, .int .i64 x.f2, .int .i64 x.f3] := ⟨[.int .i64 x.f0], [.int .i64 x.f1, .int .i64 x.f2, .int .i64 x.f3], rfl, rfl, ⟨[.int .i64 x.f1], [.int .i64 x.f2, .int .i64 x.f3], rfl, rfl, ⟨[.int .i64 x.f2], [.int .i64 x.f3], rfl, rfl, rfl⟩⟩⟩
theorem uB (w : World) (base : Nat) (ok : Nat → Prop) (x : dW)  : k23.M w base ok x [.int .i64 x.f0, .int .i64 x.f1, .int .i64 x.f2, .int .i64 x.f3] := ⟨[.int .i64 x.f0], [.int .i64 x.f1, .int .i64 x.f2, .int .i64 x.f3], rfl, rfl, ⟨[.int .i64 x.f1], [.int .i64 x.f2, .int .i64 x.f3], rfl, rfl, ⟨[.int .i64 x.f2], [.int .i64 x.f3], rfl, rfl, rfl⟩⟩⟩
def tC (xs : List dW) (i : Int) : dW := xs.getD i.toNat z23
theorem Qw {w : World} {A : Option Addr} {n : Nat} {xs : List dW} (h : Kd.C k23 w A n xs) (i : Int) (h0 : 0 ≤ i) (h1 : i < n) : ∃ ad , A = some ad ∧ w.cell? (ad.add (i.toNat * 4)) = some (.int .i64 (tC xs i).f0) ∧ w.cell? ⟨(ad.add (i.toNat * 4)).block, (ad.add (i.toNat * 4)).off + 1, none⟩ = some (.int .i64 (tC xs i).f1) ∧ w.cell? ⟨(ad.add (i.toNat * 4)).block, (ad.add (i.toNat * 4)).off + 2, none⟩ = some (.int .i64 (tC xs i).f2) ∧ w.cell? ⟨(ad.add (i.toNat * 4)).block, (ad.add (i.toNat * 4)).off + 3, none⟩ = some (.int .i64 (tC xs i).f3) := by
 obtain ⟨ad, c, e, _, hK, hc0⟩ := Kd.JP h z23 i h0 h1
 have hc : ∀ j u, c[j]? = some u → w.cell? (ad.add (i.toNat * 4 + j)) = some u := hc0
 obtain rfl := Ju hK
 exact ⟨ad, e, hc 0 _ rfl, by rw [← lG _ _ 1 (by omega)]; exact hc 1 _ rfl, by rw [← lG _ _ 2 (by omega)]; exact hc 2 _ rfl, by rw [← lG _ _ 3 (by omega)]; exact hc 3 _ rfl⟩
structure ai where
 f0 : Int
 f1 : dW
 f2 : Int
 f3 : (List ai)
def z26 : ai := ⟨(0 : Int), z23, (0 : Int), ([] : List ai)⟩
def Ua (d : Kd ai) : Kd ai := Kd.YJ (Kd.pair (Kd.int .u8) (Kd.pair k23 (Kd.pair (Kd.int .i64) (Kd.slice 26 d)))) (fun x : ai => (x.f0, x.f1, x.f2, x.f3))
theorem SH : Kd.yf Ua := Kd.aa9 _ (Kd.GK (Kd.E_ _) (Kd.GK (Kd.E_ _) (Kd.GK (Kd.E_ _) (Kd.V_ 26 Kd.afh))))
theorem alr : Kd.Sub Ua [26] := Kd.afy _ (Kd.JG (Kd.sub_const _ (by decide)) (Kd.JG (Kd.sub_const _ (by decide)) (Kd.JG (Kd.sub_const _ (by decide)) (Kd.Zv 26 (by decide) Kd.ajr))))
theorem WI : ∀ n, (Kd.upto Ua 7 [26] n).sz = 7 := Kd.afI (fun _ => rfl)
def k26 : Kd ai := Kd.fix Ua 7 [26] WI (Kd.ZC alr)
theorem ql : Kd.Heap k26 := Kd.aaN (fun _ h_ => Kd.RQ _ (Kd.xP (Kd.yV .u8) (Kd.xP aaZ (Kd.xP (Kd.yV .i64) (Kd.VU 26 h_)))))
theorem EZ {w : World} {x : ai} {cs : List Value} (h : k26.K w x cs) : ∃ A6 c6, cs = [.int .u8 x.f0, .int .i64 x.f1.f0, .int .i64 x.f1.f1, .int .i64 x.f1.f2, .int .i64 x.f1.f3, .int .i64 x.f2, .slice A6 x.f3.length c6] ∧ x.f3.length ≤ c6 ∧ k26.C w A6 x.f3.length x.f3 := by
 obtain ⟨n, h⟩ := h
 cases n with
 | zero => exact h.elim
 | succ n =>
  obtain ⟨_, _, rfl, rfl, ⟨_, _, rfl, s1, ⟨_, _, rfl, rfl, ⟨A6, c6, rfl, l6, g6⟩⟩⟩⟩ := h
  obtain rfl := Ju s1
  exact ⟨A6, c6, rfl, l6, Kd.ak2 g6⟩
theorem aiV (w : World) (x : ai) {A6 : Option Addr} {c6 : Nat} (l6 : x.f3.length ≤ c6) (g6 : k26.C w A6 x.f3.length x.f3) : k26.K w x [.int .u8 x.f0, .int .i64 x.f1.f0, .int .i64 x.f1.f1, .int .i64 x.f1.f2, .int .i64 x.f1.f3, .int .i64 x.f2, .slice A6 x.f3.length c6] := by
 obtain ⟨n6, q6⟩ := Kd.VP SH g6
 have r6 := Kd.ZB SH WI (show n6 ≤ n6 by omega) q6
 exact ⟨n6 + 1, ⟨[.int .u8 x.f0], [.int .i64 x.f1.f0, .int .i64 x.f1.f1, .int .i64 x.f1.f2, .int .i64 x.f1.f3, .int .i64 x.f2, .slice A6 x.f3.length c6], rfl, rfl, ⟨[.int .i64 x.f1.f0, .int .i64 x.f1.f1, .int .i64 x.f1.f2, .int .i64 x.f1.f3], [.int .i64 x.f2, .slice A6 x.f3.length c6], rfl, (SA w x.f1 ), ⟨[.int .i64 x.f2], [.slice A6 x.f3.length c6], rfl, rfl, ⟨A6, c6, rfl, l6, r6⟩⟩⟩⟩⟩
theorem oK {W : World} {ok : Nat → Prop} {x : ai} {cs : List Value} (h : Kd.FK k26 W ok x cs) : ∃ A6 c6, cs = [.int .u8 x.f0, .int .i64 x.f1.f0, .int .i64 x.f1.f1, .int .i64 x.f1.f2, .int .i64 x.f1.f3, .int .i64 x.f2, .slice A6 x.f3.length c6] ∧ x.f3.length ≤ c6 ∧ Kd.F k26 W ok A6 x.f3.length x.f3 := by
 obtain ⟨A6, c6, rfl, l6, _⟩ := EZ (Kd.um h)
 exact ⟨A6, c6, rfl, l6, (fun W' hW => by obtain ⟨A6_, c6_, he, l6_, g6_⟩ := EZ (h W' hW); injection (Option.some.inj (show some (Value.slice A6 x.f3.length c6) = some (Value.slice A6_ x.f3.length c6_) from congrArg (fun l => l[6]?) he)) with ha_ _ _; rw [ha_]; exact g6_)⟩
theorem pY (W : World) (ok : Nat → Prop) (x : ai) {A6 : Option Addr} {c6 : Nat} (l6 : x.f3.length ≤ c6) (g6 : Kd.F k26 W ok A6 x.f3.length x.f3) : Kd.FK k26 W ok x [.int .u8 x.f0, .int .i64 x.f1.f0, .int .i64 x.f1.f1, .int .i64 x.f1.f2, .int .i64 x.f1.f3, .int .i64 x.f2, .slice A6 x.f3.length c6] := fun W2 hW => aiV W2 x l6 (g6 W2 hW)
def aj (xs : List ai) (i : Int) : ai := xs.getD i.toNat z26
theorem qi {w : World} {A : Option Addr} {n : Nat} {xs : List ai} (h : Kd.C k26 w A n xs) (i : Int) (h0 : 0 ≤ i) (h1 : i < n) : ∃ ad A6 c6, A = some ad ∧ w.cell? (ad.add (i.toNat * 7)) = some (.int .u8 (aj xs i).f0) ∧ w.cell? ⟨(ad.add (i.toNat * 7)).block, (ad.add (i.toNat * 7)).off + 1, none⟩ = some (.int .i64 (aj xs i).f1.f0) ∧ w.cell? ⟨(ad.add (i.toNat * 7)).block, (ad.add (i.toNat * 7)).off + 2, none⟩ = some (.int .i64 (aj xs i).f1.f1) ∧ w.cell? ⟨(ad.add (i.toNat * 7)).block, (ad.add (i.toNat * 7)).off + 3, none⟩ = some (.int .i64 (aj xs i).f1.f2) ∧ w.cell? ⟨(ad.add (i.toNat * 7)).block, (ad.add (i.toNat * 7)).off + 4, none⟩ = some (.int .i64 (aj xs i).f1.f3) ∧ w.cell? ⟨(ad.add (i.toNat * 7)).block, (ad.add (i.toNat * 7)).off + 5, none⟩ = some (.int .i64 (aj xs i).f2) ∧ w.cell? ⟨(ad.add (i.toNat * 7)).block, (ad.add (i.toNat * 7)).off + 6, none⟩ = some (.slice A6 (aj xs i).f3.length c6) ∧ (aj xs i).f3.length ≤ c6 ∧ k26.C w A6 (aj xs i).f3.length (aj xs i).f3 := by
 obtain ⟨ad, c, e, _, hK, hc0⟩ := Kd.JP h z26 i h0 h1
 have hc : ∀ j u, c[j]? = some u → w.cell? (ad.add (i.toNat * 7 + j)) = some u := hc0
 obtain ⟨A6, c6, rfl, l6, g6⟩ := EZ hK
 exact ⟨ad, A6, c6, e, hc 0 _ rfl, by rw [← lG _ _ 1 (by omega)]; exact hc 1 _ rfl, by rw [← lG _ _ 2 (by omega)]; exact hc 2 _ rfl, by rw [← lG _ _ 3 (by omega)]; exact hc 3 _ rfl, by rw [← lG _ _ 4 (by omega)]; exact hc 4 _ rfl, by rw [← lG _ _ 5 (by omega)]; exact hc 5 _ rfl, by rw [← lG _ _ 6 (by omega)]; exact hc 6 _ rfl, l6, g6⟩
structure S35 where
 f0 : Int
 f1 : dW
end Go.Proofs.YtfdmfgaiblfbhaaGreat.P
namespace Go.Proofs.YtfdmfgaiblfbhaaGreat.P
open Go.RowKit Go.Proofs.ag.aU Go.Proofs.ag.bK Go.Proofs.ag.cO
section
variable {P : Program} {ops : Array Oper} {rest : List Oper} {o : Oper} {a : Act} {Q : Exit → Act → World → Prop}
theorem grown_below {w0 W w1 : World} {g base : Nat} (HB : Below base w0 W) (hg : W.grownBy w1 (some g)) (hbg : base ≤ g) (hs : base ≤ W.heap.size) : Below base w0 w1 := HB.trans ⟨hg.os, hg.tape, hg.output, hg.size, fun k hk => hg.block k (by omega) (fun he => by injection he with he; omega)⟩
theorem tK {W : World} {g j : Nat} {cs cs' : Array Value} {t0 : TypeId} {df : List Value} (hb : W.heap[g]? = some (.cells cs t0 (0, 0))) (hj : j + df.length ≤ cs.size) (he : cs.toList.take j ++ df ++ cs.toList.drop (j + df.length) = cs'.toList) :
  (W.setCells g j df).heap[g]? = some (.cells cs' t0 (0, 0)) ∧ W.grownBy (W.setCells g j df) (some g) := by
 obtain ⟨cur', h3, h4, h5⟩ := nC df j W cs hb hj
 obtain ⟨s1, s2, s3, s4⟩ := xx g df j W
 have hc : cur' = cs' := Array.toList_inj.1 (h5.trans he)
 subst hc
 exact ⟨h3, ⟨s1, s2, s3, by rw [s4]; exact Nat.le_refl _, fun k _ hk => yK df _ k (fun e => hk (by rw [e]))⟩⟩
theorem iO {W w0 : World} (hN : o.dst = none) (hgd : o.guard = none) (t : TypeId) (p x : Operand) (ho : o.op = .store t p x) {g j base : Nat} {cs : Array Value} (cs' : Array Value) {t0 : TypeId} {u : Value} {df : List Value}
  (lL : a.eval p = .pointer (some ⟨g, j, none⟩)) (hx : a.eval x = u) (hu : u.cells.toList = df) (ht : (P.info? t).map (·.size) = some df.length) (h1 : ∀ q ∈ df, q.oneCell' = true)
  (hb : W.heap[g]? = some (.cells cs t0 (0, 0))) (hj : j + df.length ≤ cs.size) (he : cs.toList.take j ++ df ++ cs.toList.drop (j + df.length) = cs'.toList) (HB : Below base w0 W) (hbs : base ≤ W.heap.size) (hbg : base ≤ g)
  (h : ∀ w1, w1.heap[g]? = some (.cells cs' t0 (0, 0)) → Below base w0 w1 → W.grownBy w1 (some g) → wpList P ops Q rest a w1) : wpList P ops Q (o :: rest) a W := by
 obtain ⟨h2, h3⟩ := tK hb hj he
 refine wpList_plain hgd fun K hK => ?_
 have hrun := FY (P := P) t u df hb hu ht hj h1
 unfold Oper.wp execOp
 simp only [ho, lL, hx, Sem.run_bind, Sem.run_pure, Result.andThen_ok, hrun]
 show K (a.put o.dst undef) _
 rw [hN]
 exact hK a _ (h _ h2 (grown_below HB h3 hbg hbs) h3)
theorem FD {W : World} (t : TypeId) (p x : Operand) (ho : o.op = .store t p x) {g j : Nat} {cs : Array Value} {t0 : TypeId} {u : Value} {df : List Value}
  (lL : a.eval p = .pointer (some ⟨g, j, none⟩)) (hx : a.eval x = u) (hu : u.cells.toList = df) (ht : (P.info? t).map (·.size) = some df.length) (h1 : ∀ q ∈ df, q.oneCell' = true)
  (hb : W.heap[g]? = some (.cells cs t0 (0, 0))) (hj : j + df.length ≤ cs.size) : (execOp a.eval o).run P W = .ok .skip (W.setCells g j df) := by
 have hrun := FY (P := P) t u df hb hu ht hj h1
 unfold execOp
 simp only [ho, lL, hx, Sem.run_bind, Sem.run_pure, Result.andThen_ok, hrun]
end
theorem Qh {α : Type} {d : Kd α} {e base b c : Nat} {P : Nat → Prop} {W w1 : World} {v : Value} {xs : List α} (h : Kd.N d e w1 W.heap.size (fun k => ((P k ∧ k ≠ b) ∧ k ≠ c) ∨ W.heap.size ≤ k) v xs) (hb : b < W.heap.size) (hc : c < W.heap.size) (hs : base ≤ W.heap.size) :
  Kd.N d e w1 base (fun k => ((P k ∨ base ≤ k) ∧ k ≠ b) ∧ k ≠ c) v xs :=
 Kd.vU (Kd.iZ h (fun k hk => hk.elim (fun q => ⟨⟨.inl q.1.1, q.1.2⟩, q.2⟩) (fun q => ⟨⟨.inr (by omega), by omega⟩, by omega⟩))) hs
def keys (bs : List (Option Nat × Obj)) (ow : List (Value × List ai)) : List Nat := bs.filterMap (·.1) ++ ow.flatMap (fun r => r.1.ownBlock.toList)
def Ok (w : World) (P : Nat → Prop) (ks : List Nat) (k : Nat) : Prop := (P k ∨ w.heap.size ≤ k) ∧ k ∉ ks
structure St (w : World) (P : Nat → Prop) (bs : List (Option Nat × Obj)) (ow : List (Value × List ai)) (ts : List (Value × List ai)) (ro : List (Addr × Value)) (W : World) : Prop where
 below : Below w.heap.size w W
 blk : ∀ p, p ∈ bs → ∀ g, p.1 = some g → W.heap[g]? = some p.2
 new : ∀ k, k ∈ keys bs ow → w.heap.size ≤ k ∧ k < W.heap.size
 nd : (keys bs ow).Nodup
 tree : ∀ t, t ∈ ts → Kd.V k26 26 W 0 (Ok w P (keys bs ow)) t.1 t.2
 own : ∀ r, r ∈ ow → Kd.N k26 26 W w.heap.size (fun k => Ok w P (keys bs ow) k ∨ r.1.ownBlock = some k) r.1 r.2
 cell : ∀ c, c ∈ ro → W.cell? c.1 = some c.2 ∧ c.1.block ∉ keys bs ow
section
variable {w : World} {P : Nat → Prop} {bs : List (Option Nat × Obj)} {ow : List (Value × List ai)} {ts : List (Value × List ai)} {ro : List (Addr × Value)} {W W1 : World} {g b0 cap : Nat} {o o' : Obj} {v : Value} {l : List ai}
theorem d_ {α : Type} {d : Kd α} {e base base' : Nat} {ok : Nat → Prop} {W : World} {v : Value} {xs : List α} (h : Kd.V d e W base ok v xs) : Kd.V d e W base' ok v xs := Kd.yh h (fun _ hf => hf)
theorem St.start (h : ∀ t, t ∈ ts → Kd.V k26 26 w b0 P t.1 t.2) : St w P [] [] ts [] w where
 below := Below.refl _ _
 blk := fun _ h => by cases h
 new := fun _ h => by cases h
 nd := List.nodup_nil
 tree := fun t ht => d_ (Kd.iw (h t ht) (fun k hk => ⟨.inl hk, by simp [keys]⟩))
 own := fun _ h => by cases h
 cell := fun _ h => by cases h
theorem St.adg (S : St w P [] [] ts ro W) {a : Addr} {u : Value} (h : W.cell? a = some u) : St w P [] [] ts ((a, u) :: ro) W :=
 ⟨S.below, S.blk, S.new, S.nd, S.tree, S.own, fun c hc => by
  rcases List.mem_cons.1 hc with rfl | hc
  ·exact ⟨h, by simp [keys]⟩
  ·exact S.cell c hc⟩
theorem St.lt (S : St w P bs ow ts ro W) {k : Nat} (h : k ∈ keys bs ow) : k < W.heap.size := (S.new k h).2
theorem St.box (S : St w P bs ow ts ro W) (hg : g = W.heap.size) (hbox : W1.heap[g]? = some o) (hb : Below W.heap.size W W1) : St w P ((some g, o) :: bs) ow ts ro W1 where
 below := au S.below hb
 blk := fun p hp q hq => by
  rcases List.mem_cons.1 hp with rfl | hp
  ·rw [← Option.some.inj hq]; exact hbox
  ·exact aW (S.blk p hp q hq) hb
 new := fun k hk => by
  rcases List.mem_cons.1 (show k ∈ g :: keys bs ow from hk) with rfl | hk
  ·exact ⟨by rw [hg]; exact S.below.size, gU hbox⟩
  ·exact ⟨(S.new k hk).1, Nat.lt_of_lt_of_le (S.new k hk).2 hb.size⟩
 nd := show (g :: keys bs ow).Nodup from List.nodup_cons.2 ⟨fun h => by have := (S.new g h).2; omega, S.nd⟩
 tree := fun t ht => Kd.iw (Kd.kH (Kd.qh (S.tree t ht) g (Nat.le_of_eq hg.symm)) hb) (fun k hk => ⟨hk.1.1, fun h => (List.mem_cons.1 (show k ∈ g :: keys bs ow from h)).elim hk.2 hk.1.2⟩)
 own := fun r hr => Kd.iZ (Kd.pX (Kd.EH (S.own r hr) g (Nat.le_of_eq hg.symm)) hb) (fun k hk => hk.1.elim (fun h1 => .inl ⟨h1.1, fun h => (List.mem_cons.1 (show k ∈ g :: keys bs ow from h)).elim hk.2 h1.2⟩) .inr)
 cell := fun c hc => ⟨(hb.cell (World.block_lt_of_cell? W _ (S.cell c hc).1)).trans (S.cell c hc).1, fun h => (List.mem_cons.1 (show c.1.block ∈ g :: keys bs ow from h)).elim (fun he => by have := World.block_lt_of_cell? W _ (S.cell c hc).1; omega) (S.cell c hc).2⟩
theorem St.call (S : St w P bs ow ts ro W) (hb : Below W.heap.size W W1) : St w P bs ow ts ro W1 where
 below := au S.below hb
 blk := fun p hp q hq => aW (S.blk p hp q hq) hb
 new := fun k hk => ⟨(S.new k hk).1, Nat.lt_of_lt_of_le (S.new k hk).2 hb.size⟩
 nd := S.nd
 tree := fun t ht => Kd.kH (S.tree t ht) hb
 own := fun r hr => Kd.pX (S.own r hr) hb
 cell := fun c hc => ⟨(hb.cell (World.block_lt_of_cell? W _ (S.cell c hc).1)).trans (S.cell c hc).1, (S.cell c hc).2⟩
theorem St.add (S : St w P bs ow ts ro W) (h : Kd.V k26 26 W b0 (Ok w P (keys bs ow)) v l) : St w P bs ow ((v, l) :: ts) ro W :=
 ⟨S.below, S.blk, S.new, S.nd, fun t ht => by
  rcases List.mem_cons.1 ht with rfl | ht
  ·exact d_ h
  ·exact S.tree t ht, S.own, S.cell⟩
theorem St.res (S : St w P bs ow ts ro W) (h : Kd.V k26 26 W1 b0 (fun k => Ok w P (keys bs ow) k ∨ W.heap.size ≤ k) v l) (hb : Below W.heap.size W W1) : St w P bs ow ((v, l) :: ts) ro W1 :=
 (S.call hb).add (Kd.iw h (fun k hk => hk.elim id (fun h1 => ⟨.inr (Nat.le_trans S.below.size h1), fun h2 => by have := S.lt h2; omega⟩)))
theorem jm {k : Nat} : k ∈ keys bs [(v, l)] ↔ k ∈ keys bs [] ∨ v.ownBlock = some k := by
 simp only [keys, List.flatMap_cons, List.flatMap_nil, List.append_nil, List.mem_append, Option.mem_toList]
theorem St.CO (S : St w P bs [] ts ro W) (h : Kd.N k26 26 W1 W.heap.size (fun k => Ok w P (keys bs []) k ∨ W.heap.size ≤ k) v l) (hb : Below W.heap.size W W1) : St w P bs [(v, l)] ts ro W1 := by
 have hgb : ∀ g, v.ownBlock = some g → W.heap.size ≤ g := Kd.uY h
 have hgl : ∀ g, v.ownBlock = some g → g < W1.heap.size := Kd.Gi h
 have hlt : ∀ k, k < W.heap.size → v.ownBlock ≠ some k := fun k hk e => by have := hgb k e; omega
 refine ⟨au S.below hb, fun p hp q hq => aW (S.blk p hp q hq) hb, fun k hk => ?_, ?_, fun t ht => ?_, fun r hr => ?_, fun c hc => ?_⟩
 ·rcases jm.1 hk with h1 | h1
  ·exact ⟨(S.new k h1).1, Nat.lt_of_lt_of_le (S.new k h1).2 hb.size⟩
  ·exact ⟨Nat.le_trans S.below.size (hgb k h1), hgl k h1⟩
 ·have h1 := S.nd
  simp only [keys, List.flatMap_nil, List.append_nil] at h1
  simp only [keys, List.flatMap_cons, List.flatMap_nil, List.append_nil]
  refine List.nodup_append.2 ⟨h1, by cases v.ownBlock <;> simp, fun a ha b hb2 => ?_⟩
  rintro rfl
  exact hlt a (S.lt (by simpa [keys] using ha)) (by simpa using hb2)
 ·exact Kd.iw (Kd.kH (Kd.Ea (S.tree t ht)) hb) (fun k hk => ⟨hk.1.1, fun h2 => (jm.1 h2).elim hk.1.2 (hlt k hk.2)⟩)
 ·rw [List.mem_singleton] at hr
  subst hr
  refine Kd.vU (Kd.iZ h (fun k hk => ?_)) S.below.size
  by_cases hkg : v.ownBlock = some k
  ·exact .inr hkg
  ·refine .inl ?_
   rcases hk with h1 | h1
   ·exact ⟨h1.1, fun h2 => (jm.1 h2).elim h1.2 hkg⟩
   ·exact ⟨.inr (Nat.le_trans S.below.size h1), fun h2 => (jm.1 h2).elim (fun h3 => by have := S.lt h3; omega) hkg⟩
 ·exact ⟨(hb.cell (World.block_lt_of_cell? W _ (S.cell c hc).1)).trans (S.cell c hc).1, fun h2 => (jm.1 h2).elim (S.cell c hc).2 (hlt _ (World.block_lt_of_cell? W _ (S.cell c hc).1))⟩
theorem Rh {W W1 : World} {g : Nat} (hg : W.grownBy W1 (some g)) {a : Addr} {u : Value} (h : W.cell? a = some u) (hn : a.block ≠ g) : W1.cell? a = some u := cell_grown hg h (fun e => hn (Option.some.inj e))
theorem aa0 {i : Nat} : ∀ {bs : List (Option Nat × Obj)} (ow : List (Value × List ai)) (_ : bs[i]? = some (some g, o)), keys (bs.set i (some g, o')) ow = keys bs ow := by
 induction i with
 | zero => intro bs ow h; cases bs with
  | nil => simp at h
  | cons b bs => simp at h; subst h; rfl
 | succ i ih => intro bs ow h; cases bs with
  | nil => simp at h
  | cons b bs =>
   have := ih (bs := bs) ow (by simpa using h)
   unfold keys at this ⊢
   have h2 := List.append_cancel_right this
   rw [List.set_cons_succ, List.filterMap_cons, List.filterMap_cons, h2]
theorem mem_keys {bs : List (Option Nat × Obj)} {ow : List (Value × List ai)} {p : Option Nat × Obj} {g : Nat} (hp : p ∈ bs) (hg : p.1 = some g) : g ∈ keys bs ow := List.mem_append.2 (.inl (List.mem_filterMap.2 ⟨p, hp, hg⟩))
theorem ali {p q : Option Nat × Obj} {g : Nat} : ∀ {bs : List (Option Nat × Obj)} {i j : Nat}, (bs.filterMap (·.1)).Nodup → bs[i]? = some p → bs[j]? = some q → i ≠ j → p.1 = some g → q.1 = some g → False := by
 intro bs
 induction bs with
 | nil => intro i j _ hi; simp at hi
 | cons b bs ih =>
  intro i j hn hi hj hij hp hq
  have hn' : (bs.filterMap (·.1)).Nodup := by
   rw [List.filterMap_cons] at hn
   split at hn
   ·exact hn
   ·exact (List.nodup_cons.1 hn).2
  cases i with
  | zero =>
   cases j with
   | zero => exact hij rfl
   | succ j =>
    simp at hi hj
    subst hi
    rw [List.filterMap_cons, hp] at hn
    exact (List.nodup_cons.1 hn).1 (List.mem_filterMap.2 ⟨q, List.mem_of_getElem? hj, hq⟩)
  | succ i =>
   cases j with
   | zero =>
    simp at hi hj
    subst hj
    rw [List.filterMap_cons, hq] at hn
    exact (List.nodup_cons.1 hn).1 (List.mem_filterMap.2 ⟨p, List.mem_of_getElem? hi, hp⟩)
   | succ j => exact ih hn' (by simpa using hi) (by simpa using hj) (by omega) hp hq
theorem St.put (S : St w P bs ow ts ro W) (i : Nat) (hi : bs[i]? = some (some g, o)) (hbk : W1.heap[g]? = some o') (hb : Below w.heap.size w W1) (hg : W.grownBy W1 (some g)) : St w P (bs.set i (some g, o')) ow ts ro W1 := by
 have hk := aa0 (o' := o') ow hi
 have hm : g ∈ keys bs ow := mem_keys (List.mem_of_getElem? hi) rfl
 refine ⟨hb, fun p hp q hq => ?_, by rw [hk]; exact fun k h => ⟨(S.new k h).1, Nat.lt_of_lt_of_le (S.new k h).2 hg.size⟩, by rw [hk]; exact S.nd, fun t ht => ?_, fun r hr => ?_, fun c hc => ?_⟩
 ·obtain ⟨j, hj⟩ := List.mem_iff_getElem?.1 hp
  rw [List.getElem?_set] at hj
  by_cases hij : i = j
  ·subst hij
   rw [if_pos rfl] at hj
   split at hj
   ·injection hj with e; subst e; rw [← Option.some.inj hq]; exact hbk
   ·cases hj
  ·rw [if_neg hij] at hj
   exact dH (S.blk p (List.mem_of_getElem? hj) q hq) hg (fun e => ali (List.nodup_append.1 S.nd).1 hi hj hij rfl (by rw [hq]; exact e))
 ·rw [hk]; exact Kd.xM (S.tree t ht) hg (fun k h e => h.2 (by rw [Option.some.inj e]; exact hm))
 ·rw [hk]
  have hrg : r.1.ownBlock ≠ some g := fun e => (List.nodup_append.1 S.nd).2.2 g (List.mem_filterMap.2 ⟨_, List.mem_of_getElem? hi, rfl⟩) g (List.mem_flatMap.2 ⟨r, hr, by simp [e]⟩) rfl
  exact Kd.xK (S.own r hr) hg (fun k h e => h.elim (fun h1 => h1.2 (by rw [Option.some.inj e]; exact hm)) (fun h1 => hrg (by rw [h1]; exact e)))
 ·rw [hk]; exact ⟨Rh hg (S.cell c hc).1 (fun e => (S.cell c hc).2 (by rw [e]; exact hm)), (S.cell c hc).2⟩
def iy (x : ai) (A : Option Addr) (c : Nat) : List Value := [.int .u8 x.f0, .int .i64 x.f1.f0, .int .i64 x.f1.f1, .int .i64 x.f1.f2, .int .i64 x.f1.f3, .int .i64 x.f2, .slice A x.f3.length c]
theorem St.df {n : Nat} (S : St w P bs [(.slice (some ⟨g, 0, none⟩) n cap, l)] ts ro W) (i : Int) (h0 : 0 ≤ i) (h1 : i < l.length) (x : ai) {A : Option Addr} {c : Nat} (hm : (.slice A x.f3.length c, x.f3) ∈ ts) (hW : W1 = W.setCells g (i.toNat * 7 + 0) (iy x A c)) :
  St w P bs [(.slice (some ⟨g, 0, none⟩) n cap, l.set i.toNat x)] ts ro W1 ∧ W.grownBy W1 (some g) := by
 have hN := S.own _ (List.mem_singleton.2 rfl)
 have hob : (Value.slice (some ⟨g, 0, none⟩) n cap).ownBlock = some g := by simp [Value.ownBlock]
 have hmem : g ∈ keys bs [(.slice (some ⟨g, 0, none⟩) n cap, l)] := jm.2 (.inr hob)
 have hn : n = l.length := (Kd.jw hN).1
 obtain ⟨c0, hcl, hM, hcc, hfr⟩ := Kd.zM hN z26 i h0 (by rw [hn]; exact h1)
 obtain ⟨hl1, hl2, hF⟩ := Kd.DK (S.tree _ hm)
 have OL := pY W _ x hl2 hF
 have hseg := Kd.Vz hN i h0 (by rw [hn]; exact h1) (df := iy x A c) (j := 0) hcl hcc (show 0 + 7 ≤ 7 from by decide) (x' := x) (gz := Ok w P (keys bs [(.slice (some ⟨g, 0, none⟩) n cap, l)])) (by
  have e : c0.take 0 ++ iy x A c ++ c0.drop (0 + (iy x A c).length) = iy x A c := by
   rw [show (0 + (iy x A c).length) = c0.length by rw [hcl]; rfl, List.drop_length, List.take_zero, List.nil_append, List.append_nil]
  rw [e]; exact OL) (fun k hk => ⟨.inl hk, fun e => hk.2 (by rw [e]; exact hmem)⟩)
 have EW : Kd.N k26 26 W1 w.heap.size (fun k => Ok w P (keys bs [(.slice (some ⟨g, 0, none⟩) n cap, l)]) k ∨ (Value.slice (some ⟨g, 0, none⟩) n cap).ownBlock = some k) (.slice (some ⟨g, 0, none⟩) n cap) (l.set i.toNat x) ∧ W.grownBy W1 (some g) := by rw [hW]; exact hseg
 have hne : ∀ p, p ∈ bs → p.1 ≠ some g := fun p hp e => (List.nodup_append.1 S.nd).2.2 g (List.mem_filterMap.2 ⟨p, hp, e⟩) g (by simp [hob]) rfl
 refine ⟨⟨grown_below S.below EW.2 (S.new g hmem).1 S.below.size, fun p hp q hq => dH (S.blk p hp q hq) EW.2 (fun e => hne p hp (by rw [hq]; exact e)), fun k h => ⟨(S.new k h).1, Nat.lt_of_lt_of_le (S.new k h).2 EW.2.size⟩, S.nd, fun t ht => ?_, fun r hr => ?_, fun c hc => ?_⟩, EW.2⟩
 ·exact Kd.xM (S.tree t ht) EW.2 (fun k h e => h.2 (by rw [Option.some.inj e]; exact hmem))
 ·rw [List.mem_singleton] at hr
  subst hr
  exact EW.1
 ·exact ⟨Rh EW.2 (S.cell c hc).1 (fun e => (S.cell c hc).2 (by rw [e]; exact hmem)), (S.cell c hc).2⟩
theorem St.free (S : St w P bs [(v, l)] ts ro W) : St w P bs [] ((v, l) :: ts) ro W := by
 have hk : ∀ k, k ∈ keys bs [] → k ∈ keys bs [(v, l)] := fun k h => jm.2 (.inl h)
 have hne : ∀ k, k ∈ keys bs [] → v.ownBlock ≠ some k := fun k h e => (List.nodup_append.1 S.nd).2.2 k (by simpa [keys] using h) k (by simp [e]) rfl
 refine ⟨S.below, S.blk, fun k h => S.new k (hk k h), ?_, fun t ht => ?_, fun _ h => (by cases h), fun c hc => ⟨(S.cell c hc).1, fun h => (S.cell c hc).2 (hk _ h)⟩⟩
 ·simp only [keys, List.flatMap_nil, List.append_nil]; exact (List.nodup_append.1 S.nd).1
 ·rcases List.mem_cons.1 ht with rfl | ht
  ·exact Kd.iw (Kd.qY (S.own _ (List.mem_singleton.2 rfl))) (fun k h => h.elim (fun h1 => ⟨h1.1, fun h2 => h1.2 (hk k h2)⟩) (fun h1 => ⟨.inr (S.new k (jm.2 (.inr h1))).1, fun h2 => hne k h2 h1⟩))
  ·exact Kd.iw (S.tree t ht) (fun k h => ⟨h.1, fun h2 => h.2 (hk k h2)⟩)
theorem St.uI (S : St w P bs [(v, l)] ts ro W) : Kd.N k26 26 W w.heap.size (fun k => P k ∨ w.heap.size ≤ k) v l :=
 Kd.iZ (S.own _ (List.mem_singleton.2 rfl)) (fun k h => h.elim (fun h1 => h1.1) (fun h1 => .inr (S.new k (jm.2 (.inr h1))).1))
theorem St.SQ (S : St w P bs ow ts ro W) (hm : (v, l) ∈ ts) : Kd.V k26 26 W b0 (fun k => P k ∨ w.heap.size ≤ k) v l := d_ (Kd.iw (S.tree _ hm) (fun _ h => h.1))
theorem St.at (S : St w P bs ow ts ro W) {cs : Array Value} {t : TypeId} (hm : (some g, .cells cs t (0, 0)) ∈ bs) (j : Nat) : W.cell? ⟨g, j, none⟩ = cs[j]? := af (S.blk _ hm g rfl) j
theorem St.elem (S : St w P bs ow ts ro W) {A : Option Addr} {n c : Nat} (hm : (.slice A n c, l) ∈ ts) (i : Int) (h0 : 0 ≤ i) (h1 : i < l.length) :
  ∃ ad ua uc, A = some ad ∧ St w P bs ow ((.slice ua (aj l i).f3.length uc, (aj l i).f3) :: ts) ((ad.add (i.toNat * 7), .int .u8 (aj l i).f0) :: (⟨(ad.add (i.toNat * 7)).block, (ad.add (i.toNat * 7)).off + 1, none⟩, .int .i64 (aj l i).f1.f0) :: (⟨(ad.add (i.toNat * 7)).block, (ad.add (i.toNat * 7)).off + 2, none⟩, .int .i64 (aj l i).f1.f1) :: (⟨(ad.add (i.toNat * 7)).block, (ad.add (i.toNat * 7)).off + 3, none⟩, .int .i64 (aj l i).f1.f2) :: (⟨(ad.add (i.toNat * 7)).block, (ad.add (i.toNat * 7)).off + 4, none⟩, .int .i64 (aj l i).f1.f3) :: (⟨(ad.add (i.toNat * 7)).block, (ad.add (i.toNat * 7)).off + 5, none⟩, .int .i64 (aj l i).f2) :: (⟨(ad.add (i.toNat * 7)).block, (ad.add (i.toNat * 7)).off + 6, none⟩, .slice ua (aj l i).f3.length uc) :: ro) W := by
 have hV := S.tree _ hm
 obtain ⟨hn, hl, hF⟩ := Kd.DK hV
 obtain ⟨ad, ua, uc, ek, y0, y1, y2, y3, y4, y5, y6, OT, hgu⟩ := qi (Kd.JQ hF) i h0 h1
 subst ek
 obtain ⟨ad2, ce, e2, hcl, hFK, hcc, hok⟩ := Kd.Vq hF z26 i h0 h1
 injection e2 with e2
 subst e2
 obtain ⟨ub, ud, rfl, lub, fub⟩ := oK hFK
 have e6 := hcc 6 _ rfl
 rw [show k26.sz = 7 from rfl, lG _ _ 6 (by omega)] at e6
 have e7 := Option.some.inj (e6.symm.trans y6)
 injection e7 with ea en ec
 subst ea
 subst ec
 have hO := (hok (by decide)).2
 have RF : (ad.add (i.toNat * 7)).block ∉ keys bs ow := by rw [add_block]; exact hO
 refine ⟨ad, ub, ud, rfl, (S.add (Kd.wR (base := 0) lub fub)).below, S.blk, S.new, S.nd, (S.add (Kd.wR (base := 0) lub fub)).tree, S.own, ?_⟩
 intro c hc
 rcases List.mem_cons.1 hc with rfl | hc
 ·exact ⟨y0, RF⟩
 rcases List.mem_cons.1 hc with rfl | hc
 ·exact ⟨y1, RF⟩
 rcases List.mem_cons.1 hc with rfl | hc
 ·exact ⟨y2, RF⟩
 rcases List.mem_cons.1 hc with rfl | hc
 ·exact ⟨y3, RF⟩
 rcases List.mem_cons.1 hc with rfl | hc
 ·exact ⟨y4, RF⟩
 rcases List.mem_cons.1 hc with rfl | hc
 ·exact ⟨y5, RF⟩
 rcases List.mem_cons.1 hc with rfl | hc
 ·exact ⟨y6, RF⟩
 exact S.cell c hc
end
section
variable {Pr : Program} {ops : Array Oper} {rest : List Oper} {op : Oper} {a : Act} {Q : Exit → Act → World → Prop} {w W : World} {P : Nat → Prop} {bs : List (Option Nat × Obj)} {ow : List (Value × List ai)} {ts : List (Value × List ai)} {ro : List (Addr × Value)}
theorem ahf {N : Tmp} (hd : op.dst = some N) (hgd : op.guard = none) (cs : Array Value) (t : TypeId) (S : St w P bs ow ts ro W)
  (hr : (execOp a.eval op).run Pr W = .ok (.value (.pointer (some ⟨W.heap.size, 0, none⟩))) (W.alloc (.cells cs t (0, 0))))
  (h : ∀ g w1, St w P ((some g, .cells cs t (0, 0)) :: bs) ow ts ro w1 → wpList Pr ops Q rest (a.put op.dst (.pointer (some ⟨g, 0, none⟩))) w1) : wpList Pr ops Q (op :: rest) a W :=
 aV hgd hd hr (fun g hg w1 hbox hb => h g w1 (S.box hg hbox hb))
theorem ai' (i : Nat) {g : Nat} {cs : Array Value} {t0 : TypeId} (hi : bs[i]? = some (some g, .cells cs t0 (0, 0))) (t : TypeId) (p x : Operand) (ho : op.op = .store t p x) {j : Nat} (cs' : Array Value) {u : Value} {df : List Value} (S : St w P bs ow ts ro W)
  (lL : a.eval p = .pointer (some ⟨g, j, none⟩)) (hx : a.eval x = u) (hu : u.cells.toList = df) (ht : (Pr.info? t).map (·.size) = some df.length) (h1 : ∀ q ∈ df, q.oneCell' = true) (hj : j + df.length ≤ cs.size)
  (he : cs.toList.take j ++ df ++ cs.toList.drop (j + df.length) = cs'.toList) (hN : op.dst = none) (hgd : op.guard = none)
  (h : ∀ w1, St w P (bs.set i (some g, .cells cs' t0 (0, 0))) ow ts ro w1 → wpList Pr ops Q rest a w1) : wpList Pr ops Q (op :: rest) a W := by
 have hm : g ∈ keys bs ow := mem_keys (List.mem_of_getElem? hi) rfl
 exact iO hN hgd t p x ho cs' lL hx hu ht h1 (S.blk _ (List.mem_of_getElem? hi) g rfl) hj he S.below S.below.size (S.new g hm).1 (fun w1 h2 h3 h4 => h w1 (S.put i hi h2 h3 h4))
theorem afm (i : Nat) {g : Nat} {cs : Array Value} {t0 : TypeId} (hi : bs[i]? = some (some g, .cells cs t0 (0, 0))) (t : TypeId) (p x : Operand) (ho : op.op = .store t p x) {j : Nat} (cs' : Array Value) {u : Value} {df : List Value} (S : St w P bs ow ts ro W)
  (lL : a.eval p = .pointer (some ⟨g, j, none⟩)) (hx : a.eval x = u) (hu : u.cells.toList = df) (ht : (Pr.info? t).map (·.size) = some df.length) (h1 : ∀ q ∈ df, q.oneCell' = true) (hj : j + df.length ≤ cs.size)
  (he : cs.toList.take j ++ df ++ cs.toList.drop (j + df.length) = cs'.toList) :
  (execOp a.eval op).run Pr W = .ok .skip (W.setCells g j df) ∧ St w P (bs.set i (some g, .cells cs' t0 (0, 0))) ow ts ro (W.setCells g j df) := by
 have hm : g ∈ keys bs ow := mem_keys (List.mem_of_getElem? hi) rfl
 have hb := S.blk _ (List.mem_of_getElem? hi) g rfl
 have hc := tK hb hj he
 exact ⟨FD t p x ho lL hx hu ht h1 hb hj, S.put i hi hc.1 (grown_below S.below hc.2 (S.new g hm).1 S.below.size) hc.2⟩
theorem Vb {g n cap : Nat} {l : List ai} (i : Int) (x : ai) {A : Option Addr} {c : Nat} (p y : Operand) (ho : op.op = .store 26 p y) (S : St w P bs [(.slice (some ⟨g, 0, none⟩) n cap, l)] ts ro W) (h0 : 0 ≤ i) (h1 : i < l.length)
  (lL : a.eval p = .pointer (some ⟨g, i.toNat * 7, none⟩)) (hx : a.eval y = .agg (iy x A c).toArray) (hsz : (Pr.info? 26).map (·.size) = some 7) (hm : (.slice A x.f3.length c, x.f3) ∈ ts) :
  ∃ w1, (execOp a.eval op).run Pr W = .ok .skip w1 ∧ St w P bs [(.slice (some ⟨g, 0, none⟩) n cap, l.set i.toNat x)] ts ro w1 := by
 obtain ⟨h2, h3⟩ := S.df i h0 h1 x hm rfl
 obtain ⟨cells, hcells⟩ := Kd.ac_ (S.own _ (List.mem_singleton.2 rfl)) g (by simp [Value.ownBlock])
 have hN := S.own _ (List.mem_singleton.2 rfl)
 obtain ⟨c0, hcl, hM, hcc, hfr⟩ := Kd.zM hN z26 i h0 (by rw [(Kd.jw hN).1]; exact h1)
 have hcl : c0.length = 7 := hcl
 have hlt : i.toNat * 7 + 7 ≤ cells.size := by
  have h4 := hcc 6 _ (List.getElem?_eq_getElem (by omega))
  have h5 := af hcells (i.toNat * 7 + 6)
  have h6 : W.cell? ⟨g, i.toNat * k26.sz + 6, none⟩ = W.cell? ⟨g, i.toNat * 7 + 6, none⟩ := rfl
  rw [h6, h5] at h4
  by_cases h7 : i.toNat * 7 + 6 < cells.size
  ·omega
  ·rw [Array.getElem?_eq_none (by omega)] at h4; cases h4
 refine ⟨_, ?_, h2⟩
 rw [show i.toNat * 7 + 0 = i.toNat * 7 from rfl]
 exact FD 26 p y ho lL hx (by rfl) hsz (by simp [iy, Value.oneCell']) hcells (by simpa [iy] using hlt)
theorem vZ {K : Act → World → Prop} (i : Nat) {g : Nat} {cs : Array Value} {t0 : TypeId} (hi : bs[i]? = some (some g, .cells cs t0 (0, 0))) (t : TypeId) (p x : Operand) (ho : op.op = .store t p x) {j : Nat} (cs' : Array Value) {u : Value} {df : List Value} (S : St w P bs ow ts ro W)
  (hw : Region.wanted op (yielded ops a.tmps) = true) (hN : op.dst = none)
  (lL : a.eval p = .pointer (some ⟨g, j, none⟩)) (hx : a.eval x = u) (hu : u.cells.toList = df) (ht : (Pr.info? t).map (·.size) = some df.length) (h1 : ∀ q ∈ df, q.oneCell' = true) (hj : j + df.length ≤ cs.size)
  (he : cs.toList.take j ++ df ++ cs.toList.drop (j + df.length) = cs'.toList) (h : ∀ w1, St w P (bs.set i (some g, .cells cs' t0 (0, 0))) ow ts ro w1 → K a w1) :
  if Region.wanted op (yielded ops a.tmps) = true then Oper.wp Pr op a W K Q else K (a.put none undef) W := by
 obtain ⟨h2, h3⟩ := afm (a := a) (Pr := Pr) i hi t p x ho cs' S lL hx hu ht h1 hj he
 exact Lt hw hN h2 (h _ h3)
theorem NW {K : Act → World → Prop} {g n cap : Nat} {l : List ai} (i : Int) (x : ai) {A : Option Addr} {c : Nat} (p y : Operand) (ho : op.op = .store 26 p y) (S : St w P bs [(.slice (some ⟨g, 0, none⟩) n cap, l)] ts ro W)
  (hw : Region.wanted op (yielded ops a.tmps) = true) (hN : op.dst = none) (h0 : 0 ≤ i) (h1 : i < l.length)
  (lL : a.eval p = .pointer (some ⟨g, i.toNat * 7, none⟩)) (hx : a.eval y = .agg (iy x A c).toArray) (hsz : (Pr.info? 26).map (·.size) = some 7) (hm : (.slice A x.f3.length c, x.f3) ∈ ts) (h : ∀ w1, St w P bs [(.slice (some ⟨g, 0, none⟩) n cap, l.set i.toNat x)] ts ro w1 → K a w1) :
  if Region.wanted op (yielded ops a.tmps) = true then Oper.wp Pr op a W K Q else K (a.put none undef) W := by
 obtain ⟨w1, hr, S1⟩ := Vb (a := a) (Pr := Pr) i x p y ho S h0 h1 lL hx hsz hm
 exact Lt hw hN hr (h _ S1)
theorem St.eP {k : Option Nat} {o : Obj} (S : St w P ((k, o) :: bs) ow ts ro W) : St w P bs ow ts ro W := by
 have hin : ∀ x, x ∈ keys bs ow → x ∈ keys ((k, o) :: bs) ow := fun x h => by
  unfold keys at h ⊢
  rw [List.filterMap_cons]
  cases k with
  | none => exact h
  | some g => exact List.mem_cons_of_mem _ h
 refine ⟨S.below, fun p hp => S.blk p (List.mem_cons_of_mem _ hp), fun x hx => S.new x (hin x hx), ?_, fun t ht => Kd.iw (S.tree t ht) (fun x h => ⟨h.1, fun h2 => h.2 (hin x h2)⟩), fun r hr => Kd.iZ (S.own r hr) (fun x h => h.elim (fun h1 => .inl ⟨h1.1, fun h2 => h1.2 (hin x h2)⟩) .inr), fun c hc => ⟨(S.cell c hc).1, fun h2 => (S.cell c hc).2 (hin _ h2)⟩⟩
 have h := S.nd
 unfold keys at h ⊢
 rw [List.filterMap_cons] at h
 cases k with
 | none => exact h
 | some g => exact (List.nodup_cons.1 h).2
theorem St.bD {t : Value × List ai} (S : St w P bs ow (t :: ts) ro W) : St w P bs ow ts ro W :=
 ⟨S.below, S.blk, S.new, S.nd, fun t ht => S.tree t (List.mem_cons_of_mem _ ht), S.own, S.cell⟩
theorem St.alk {t : Value × List ai} (S : St w P bs ow ts ro W) (hm : t ∈ ts) : St w P bs ow [t] ro W :=
 ⟨S.below, S.blk, S.new, S.nd, fun x hx => by rw [List.mem_singleton.1 hx]; exact S.tree t hm, S.own, S.cell⟩
theorem St.aG {c : Addr × Value} (S : St w P bs ow ts (c :: ro) W) : St w P bs ow ts ro W :=
 ⟨S.below, S.blk, S.new, S.nd, S.tree, S.own, fun c hc => S.cell c (List.mem_cons_of_mem _ hc)⟩
theorem Tz {g n cap : Nat} {l : List ai} (i : Int) (x : ai) {A : Option Addr} {c : Nat} (p y : Operand) (ho : op.op = .store 26 p y) (S : St w P bs [(.slice (some ⟨g, 0, none⟩) n cap, l)] ts ro W) (h0 : 0 ≤ i) (h1 : i < l.length)
  (lL : a.eval p = .pointer (some ⟨g, i.toNat * 7, none⟩)) (hx : a.eval y = .agg (iy x A c).toArray) (hsz : (Pr.info? 26).map (·.size) = some 7) (hm : (.slice A x.f3.length c, x.f3) ∈ ts) (hN : op.dst = none) (hgd : op.guard = none)
  (h : ∀ w1, St w P bs [(.slice (some ⟨g, 0, none⟩) n cap, l.set i.toNat x)] ts ro w1 → wpList Pr ops Q rest a w1) : wpList Pr ops Q (op :: rest) a W := by
 obtain ⟨w1, hr, S1⟩ := Vb (a := a) (Pr := Pr) i x p y ho S h0 h1 lL hx hsz hm
 refine wpList_plain hgd fun K hK => ?_
 unfold Oper.wp
 rw [hr]
 show K (a.put op.dst undef) _
 rw [hN]
 exact hK a _ (h _ S1)
end
section
variable {Pr : Program} {ops : Array Oper} {rest : List Oper} {op : Oper} {a : Act} {Q : Exit → Act → World → Prop} {w W W1 : World} {P : Nat → Prop} {bs : List (Option Nat × Obj)} {ts : List (Value × List ai)} {ro : List (Addr × Value)} {v v1 : Value} {xs ys : List ai}
theorem St.Ze (S : St w P bs [(v, xs)] ts ro W) (hb : Below w.heap.size w W1) (hg : W.grownBy W1 v.ownBlock) (hat : v1.ownBlock = v.ownBlock ∨ ∃ b, v1.ownBlock = some b ∧ W.heap.size ≤ b) (hN : Kd.N k26 26 W1 w.heap.size (Ok w P (keys bs [])) v1 ys) :
  St w P bs [(v1, ys)] ts ro W1 := by
 have hkeep : ∀ k, k ∉ keys bs [(v, xs)] → k < W.heap.size → k ∉ keys bs [(v1, ys)] := fun k h1 h2 h3 => by
  rcases jm.1 h3 with h4 | h4
  ·exact h1 (jm.2 (.inl h4))
  ·rcases hat with e | ⟨b, e, hle⟩
   ·exact h1 (jm.2 (.inr (by rw [← e]; exact h4)))
   ·rw [e] at h4; injection h4 with h4; omega
 have hin : ∀ k, k ∈ keys bs [] → k ∈ keys bs [(v, xs)] := fun k h => jm.2 (.inl h)
 have hnb : ∀ k, k ∈ keys bs [] → v1.ownBlock ≠ some k := fun k h e => (hN.1 k e).2 h
 refine ⟨hb, fun p hp q hq => dH (S.blk p hp q hq) hg (fun e => (List.nodup_append.1 S.nd).2.2 q (List.mem_filterMap.2 ⟨p, hp, hq⟩) q (by simp [← e]) rfl), fun k hk => ?_, ?_, fun t ht => ?_, fun r hr => ?_, fun c hc => ?_⟩
 ·rcases jm.1 hk with h1 | h1
  ·exact ⟨(S.new k (hin k h1)).1, Nat.lt_of_lt_of_le (S.new k (hin k h1)).2 hg.size⟩
  ·exact ⟨Kd.uY hN k h1, Kd.Gi hN k h1⟩
 ·simp only [keys, List.flatMap_cons, List.flatMap_nil, List.append_nil]
  refine List.nodup_append.2 ⟨(List.nodup_append.1 S.nd).1, by cases v1.ownBlock <;> simp, fun q hq b hb2 => ?_⟩
  rintro rfl
  exact hnb q (by simpa [keys] using hq) (by simpa using hb2)
 ·exact Kd.iw (Kd.xM (Kd.Ea (S.tree t ht)) hg (fun k h e => h.1.2 (jm.2 (.inr e.symm)))) (fun k h => ⟨h.1.1, hkeep k h.1.2 h.2⟩)
 ·rw [List.mem_singleton] at hr
  subst hr
  refine Kd.iZ hN (fun k h => ?_)
  by_cases hk : v1.ownBlock = some k
  ·exact .inr hk
  ·exact .inl ⟨h.1, fun h2 => (jm.1 h2).elim h.2 hk⟩
 ·exact ⟨cell_grown hg (S.cell c hc).1 (fun e => (S.cell c hc).2 (jm.2 (.inr e.symm))), hkeep _ (S.cell c hc).2 (World.block_lt_of_cell? W _ (S.cell c hc).1)⟩
theorem St.Wi (S : St w P bs [(v, xs)] ts ro W) : Kd.N k26 26 W w.heap.size (Ok w P (keys bs [])) v xs :=
 Kd.iZ (S.own _ (List.mem_singleton.2 rfl)) (fun k h => h.elim (fun h1 => ⟨h1.1, fun h2 => h1.2 (jm.2 (.inl h2))⟩) (fun h1 => ⟨.inr (S.new k (jm.2 (.inr h1))).1, fun h2 => (List.nodup_append.1 S.nd).2.2 k (by simpa [keys] using h2) k (by simp [h1]) rfl⟩))
theorem vC {W W1 : World} (hg : W.grownBy W1 none) : Below W.heap.size W W1 := ⟨hg.os, hg.tape, hg.output, hg.size, fun k hk => hg.block k hk (by simp)⟩
theorem La {N : Tmp} (hd : op.dst = some N) (hgd : op.guard = none) (S : St w P bs [] ts ro W) (hrun : (execOp a.eval op).run Pr W = .ok (.value (.slice (some ⟨W.heap.size, 0, none⟩) 0 0)) (W.alloc (.cells #[] 26)))
  (h : ∀ A c w1, St w P bs [(.slice A 0 c, [])] ts ro w1 → wpList Pr ops Q rest (a.put op.dst (.slice A 0 c)) w1) : wpList Pr ops Q (op :: rest) a W :=
 Kd.Bd k26 (w0 := W) W.heap.size 26 hgd hd (xs := []) (inner := []) (ok := fun k => Ok w P (keys bs []) k ∨ W.heap.size ≤ k) (gz := fun _ => False) hrun (dC.none _ _) (fun _ h => h.elim) (.inr (Nat.le_refl _)) (Below.refl _ _) (Nat.le_refl _) (by simp) (fun v1 w1 hN _ hg _ => by
  obtain ⟨A, c, rfl⟩ := Kd.jO hN
  exact h A c w1 (S.CO hN (vC hg)))
end
section
variable {w : World} {P : Nat → Prop} {bs bs' : List (Option Nat × Obj)} {ow : List (Value × List ai)} {ts : List (Value × List ai)} {ro : List (Addr × Value)} {W W1 : World} {b0 : Nat} {o o1 : Obj} {v v1 : Value} {xs : List Int} {ok : Nat → Prop}
def IR (base : Nat) (v : Value) (xs : List Int) (o : Obj) : Prop := ∀ W : World, (∀ g, v.ownBlock = some g → W.heap[g]? = some o) → (Kd.int .i64).R 3 W base (fun k => some k = v.ownBlock) v xs
theorem Vx {b' : Nat} (h : (Kd.int .i64).R 3 W1 b0 ok v xs) (hb : b' ≤ b0) : ∃ o, (∀ g, v.ownBlock = some g → W1.heap[g]? = some o) ∧ IR b' v xs o := by
 have ht := Kd.oQ (Kd.H9 rfl h) hb
 cases hv : v.ownBlock with
 | none => exact ⟨.cells #[] 0 (0, 0), fun g hg => (by cases hg), fun W hW => Kd.zO ht (fun k hk => (by rw [hv] at hk; cases hk))⟩
 | some g =>
  obtain ⟨cells, hc⟩ := Kd.Mc h g hv
  refine ⟨_, fun g' hg => (by injection hg with hg; rw [← hg]; exact hc), fun W hW => Kd.zO ht (fun k hk _ => ?_)⟩
  rw [hv] at hk
  injection hk with hk
  rw [hk, hc]
  exact hW g hv
theorem ac7 {base n c : Nat} {ad : Addr} (h : IR base (.slice (some ad) n c) xs o) (hW : ∀ g, (Value.slice (some ad) n c).ownBlock = some g → W.heap[g]? = some o) (i : Int) (h0 : 0 ≤ i) (h1 : i < xs.length) : W.cell? (ad.add i.toNat) = some (.int .i64 (rd xs i)) := by
 have hC := (Kd.eX (h W hW)).2.2
 obtain ⟨ad', he, hc⟩ := Kd.ja hC i h0 h1
 injection he with he
 rw [he]
 exact hc
theorem xy {base n c : Nat} {ad : Addr} (h : IR base (.slice (some ad) n c) xs o) (hW : ∀ g, (Value.slice (some ad) n c).ownBlock = some g → W.heap[g]? = some o) (i : Nat) (h1 : (i : Int) < xs.length) : W.cell? (ad.add i) = some (.int .i64 (rd xs (i : Int))) := ac7 h hW (i : Int) (Int.natCast_nonneg _) h1
theorem St.aaf (S : St w P bs ow ts ro W) (k : Option Nat) (hk : ∀ g, k = some g → W.heap.size ≤ g ∧ W1.heap[g]? = some o) (hb : Below W.heap.size W W1) : St w P ((k, o) :: bs) ow ts ro W1 := by
 cases k with
 | none =>
  have S1 := S.call hb
  exact ⟨S1.below, fun p hp q hq => by
   rcases List.mem_cons.1 hp with rfl | hp
   ·cases hq
   ·exact S1.blk p hp q hq, S1.new, S1.nd, S1.tree, S1.own, S1.cell⟩
 | some g =>
  obtain ⟨hg, hbox⟩ := hk g rfl
  refine ⟨au S.below hb, fun p hp q hq => ?_, fun k hk => ?_, List.nodup_cons.2 ⟨fun h => by have := (S.new g h).2; omega, S.nd⟩, fun t ht => ?_, fun r hr => ?_, fun c hc => ?_⟩
  ·rcases List.mem_cons.1 hp with rfl | hp
   ·rw [← Option.some.inj hq]; exact hbox
   ·exact aW (S.blk p hp q hq) hb
  ·rcases List.mem_cons.1 (show k ∈ g :: keys bs ow from hk) with rfl | hk
   ·exact ⟨Nat.le_trans S.below.size hg, gU hbox⟩
   ·exact ⟨(S.new k hk).1, Nat.lt_of_lt_of_le (S.new k hk).2 hb.size⟩
  ·exact Kd.iw (Kd.kH (Kd.qh (S.tree t ht) g hg) hb) (fun k hk => ⟨hk.1.1, fun h => (List.mem_cons.1 (show k ∈ g :: keys bs ow from h)).elim hk.2 hk.1.2⟩)
  ·exact Kd.iZ (Kd.pX (Kd.EH (S.own r hr) g hg) hb) (fun k hk => hk.1.elim (fun h1 => .inl ⟨h1.1, fun h => (List.mem_cons.1 (show k ∈ g :: keys bs ow from h)).elim hk.2 h1.2⟩) .inr)
  ·exact ⟨(hb.cell (World.block_lt_of_cell? W _ (S.cell c hc).1)).trans (S.cell c hc).1, fun h => (List.mem_cons.1 (show c.1.block ∈ g :: keys bs ow from h)).elim (fun he => by have := World.block_lt_of_cell? W _ (S.cell c hc).1; omega) (S.cell c hc).2⟩
theorem St.NV (S : St w P bs ow ts ro W) (h : (Kd.int .i64).R 3 W1 W.heap.size ok v xs) (hb : Below W.heap.size W W1) : ∃ o, St w P ((v.ownBlock, o) :: bs) ow ts ro W1 ∧ IR w.heap.size v xs o := by
 obtain ⟨o, h1, h2⟩ := Vx h S.below.size
 exact ⟨o, S.aaf v.ownBlock (fun g hg => ⟨Kd.D_ h g hg, h1 g hg⟩) hb, h2⟩
theorem St.noI (S : St w P bs ow ts ro W) : ∃ o, St w P (((Value.slice none 0 0).ownBlock, o) :: bs) ow ts ro W ∧ IR w.heap.size (.slice none 0 0) [] o :=
 S.NV (ok := fun _ => True) (Kd.t_ _ _ _ _ _) (Below.refl _ _)
theorem St.Lu {p q : Option Nat × Obj} (S : St w P (p :: q :: bs) ow ts ro W) : St w P (q :: p :: bs) ow ts ro W := by
 have hp : (keys (q :: p :: bs) ow).Perm (keys (p :: q :: bs) ow) := by
  unfold keys
  refine List.Perm.append_right _ ?_
  rw [List.filterMap_cons, List.filterMap_cons, List.filterMap_cons, List.filterMap_cons]
  cases p.1 <;> cases q.1 <;> simp
  exact List.Perm.swap _ _ _
 have hm : ∀ k, k ∈ keys (q :: p :: bs) ow ↔ k ∈ keys (p :: q :: bs) ow := fun k => hp.mem_iff
 have hO : ∀ k, Ok w P (keys (p :: q :: bs) ow) k → Ok w P (keys (q :: p :: bs) ow) k := fun k h => ⟨h.1, fun h2 => h.2 ((hm k).1 h2)⟩
 exact ⟨S.below, fun x hx => S.blk x (by simp only [List.mem_cons] at hx ⊢; rcases hx with h | h | h <;> simp [h]), fun k hk => S.new k ((hm k).1 hk), hp.nodup_iff.2 S.nd, fun t ht => Kd.iw (S.tree t ht) hO, fun r hr => Kd.iZ (S.own r hr) (fun k h => h.imp (hO k) id), fun c hc => ⟨(S.cell c hc).1, fun h => (S.cell c hc).2 ((hm _).1 h)⟩⟩
theorem St.Eu (S : St w P ((v.ownBlock, o) :: bs) ow ts ro W) (hb : Below w.heap.size w W1) (hg : W.grownBy W1 v.ownBlock) (hat : v1.ownBlock = v.ownBlock ∨ ∃ b, v1.ownBlock = some b ∧ W.heap.size ≤ b) (ho : ∀ g, v1.ownBlock = some g → W1.heap[g]? = some o1) :
  St w P ((v1.ownBlock, o1) :: bs) ow ts ro W1 := by
 have kc : ∀ (x : Value) (o : Obj) k, k ∈ keys ((x.ownBlock, o) :: bs) ow ↔ x.ownBlock = some k ∨ k ∈ keys bs ow := fun x o k => by
  unfold keys
  rw [List.filterMap_cons]
  cases x.ownBlock with
  | none => simp
  | some g => simp [eq_comm]
 have hnv : ∀ k, k ∈ keys bs ow → v.ownBlock ≠ some k := fun k hk e => by
  have h := S.nd
  unfold keys at h hk
  rw [List.filterMap_cons, e] at h
  exact (List.nodup_cons.1 h).1 hk
 have hnb : (keys bs ow).Nodup := by
  have h := S.nd
  unfold keys at h ⊢
  rw [List.filterMap_cons] at h
  split at h
  ·exact h
  ·exact (List.nodup_cons.1 h).2
 have hin : ∀ k, k ∈ keys bs ow → k ∈ keys ((v.ownBlock, o) :: bs) ow := fun k h => (kc v o k).2 (.inr h)
 have hnew : ∀ k, k ∈ keys bs ow → v1.ownBlock ≠ some k := fun k hk e => by
  rcases hat with h | ⟨b, h, hle⟩
  ·exact hnv k hk (by rw [← h]; exact e)
  ·rw [h] at e; injection e with e; have := S.lt (hin k hk); omega
 have hkeep : ∀ k, k ∉ keys ((v.ownBlock, o) :: bs) ow → k < W.heap.size → k ∉ keys ((v1.ownBlock, o1) :: bs) ow := fun k h1 h2 h3 => by
  rcases (kc v1 o1 k).1 h3 with h4 | h4
  ·rcases hat with h | ⟨b, h, hle⟩
   ·exact h1 ((kc v o k).2 (.inl (by rw [← h]; exact h4)))
   ·rw [h] at h4; injection h4 with h4; omega
  ·exact h1 (hin k h4)
 refine ⟨hb, fun p hp q hq => ?_, fun k hk => ?_, ?_, fun t ht => ?_, fun r hr => ?_, fun c hc => ?_⟩
 ·rcases List.mem_cons.1 hp with rfl | hp
  ·exact ho q hq
  ·exact dH (S.blk p (List.mem_cons_of_mem _ hp) q hq) hg (fun e => hnv q (mem_keys hp hq) e.symm)
 ·rcases (kc v1 o1 k).1 hk with h1 | h1
  ·rcases hat with h | ⟨b, h, hle⟩
   ·have := S.new k ((kc v o k).2 (.inl (by rw [← h]; exact h1)))
    exact ⟨this.1, Nat.lt_of_lt_of_le this.2 hg.size⟩
   ·rw [h] at h1
    injection h1 with h1
    subst h1
    exact ⟨Nat.le_trans S.below.size hle, gU (ho b h)⟩
  ·exact ⟨(S.new k (hin k h1)).1, Nat.lt_of_lt_of_le (S.new k (hin k h1)).2 hg.size⟩
 ·unfold keys
  rw [List.filterMap_cons]
  cases hv1 : v1.ownBlock with
  | none => exact hnb
  | some g => exact List.nodup_cons.2 ⟨fun h => hnew g h hv1, hnb⟩
 ·exact Kd.iw (Kd.xM (Kd.Ea (S.tree t ht)) hg (fun k h e => h.1.2 ((kc v o k).2 (.inl e.symm)))) (fun k h => ⟨h.1.1, hkeep k h.1.2 h.2⟩)
 ·have hrv : ∀ k, r.1.ownBlock = some k → some k ≠ v.ownBlock := fun k h1 e => hnv k (List.mem_append.2 (.inr (List.mem_flatMap.2 ⟨r, hr, by simp [h1]⟩))) e.symm
  exact Kd.iZ (Kd.xK (Kd.D9 (S.own r hr)) hg (fun k h e => h.1.elim (fun h1 => h1.2 ((kc v o k).2 (.inl e.symm))) (fun h1 => hrv k h1 e))) (fun k h => h.1.imp (fun h1 => ⟨h1.1, hkeep k h1.2 h.2⟩) id)
 ·exact ⟨cell_grown hg (S.cell c hc).1 (fun e => (S.cell c hc).2 ((kc v o _).2 (.inl e.symm))), hkeep _ (S.cell c hc).2 (World.block_lt_of_cell? W _ (S.cell c hc).1)⟩
end
section
variable {Pr : Program} {ops : Array Oper} {rest : List Oper} {op : Oper} {a : Act} {Q : Exit → Act → World → Prop} {w W : World} {P : Nat → Prop} {bs : List (Option Nat × Obj)} {ow : List (Value × List ai)} {ts : List (Value × List ai)} {ro : List (Addr × Value)} {v : Value} {xs : List Int} {o : Obj}
theorem adn (s x : Operand) (hgd : op.guard = none) (ho : op.op = .call { callee := .builtin .append, args := #[s, x], argTypes := #[41, 41] }) (ht : Pr.underlying 41 = some (.slice 3)) (hinfo : (Pr.info? 3).map (fun i => (i.zero, i.size, i.bytes)) = some (some (.int .i64 0), 1, 8))
  (S : St w P ((v.ownBlock, o) :: bs) ow ts ro W) (hI : IR w.heap.size v xs o) (y : Int) (hs : a.eval s = v) (hx : a.eval x = .slice (some ⟨W.heap.size, 0, none⟩) 1 1) (hl : xs.length ≤ 1000000000)
  (h : ∀ A1 c1 o1 w1, St w P (((Value.slice A1 (xs ++ [y]).length c1).ownBlock, o1) :: bs) ow ts ro w1 → IR w.heap.size (.slice A1 (xs ++ [y]).length c1) (xs ++ [y]) o1 → wpList Pr ops Q rest (a.put op.dst (.slice A1 (xs ++ [y]).length c1)) w1) :
  wpList Pr ops Q (op :: rest) a (W.alloc (.cells #[.int .i64 y] 3)) := by
 have hR := hI W (S.blk _ List.mem_cons_self)
 refine Kd.BB (Kd.int .i64) (w0 := w) w.heap.size hgd s x 41 3 (.int .i64 0) 8 ho ht hinfo rfl (by decide) (by omega) v xs y [.int .i64 y] (fun _ => True) (fun _ => False) hs hx rfl (fun _ hk => hk.elim) (fun _ _ => trivial) (Kd.l_ hR (fun _ _ => trivial)) S.below S.below.size (by omega) ?_
 intro v1 w1 hr hb hg hat
 obtain ⟨A1, c1, rfl⟩ := Kd.ig hr
 obtain ⟨o1, h1, h2⟩ := Vx hr (Nat.le_refl _)
 exact h A1 c1 o1 w1 (S.Eu hb hg hat h1) h2
end
section
variable {w : World} {P : Nat → Prop} {bs : List (Option Nat × Obj)} {ts : List (Value × List ai)} {ro : List (Addr × Value)} {W : World} {l : List ai} {g n cap : Nat}
theorem St.yU (S : St w P bs [(.slice (some ⟨g, 0, none⟩) n cap, l)] ts ro W) (i : Int) (h0 : 0 ≤ i) (h1 : i < l.length) :
  ∃ ua uc, St w P bs [(.slice (some ⟨g, 0, none⟩) n cap, l)] ((.slice ua (aj l i).f3.length uc, (aj l i).f3) :: ts) ro W ∧ ∀ (j : Nat) (u : Value), (iy (aj l i) ua uc)[j]? = some u → W.cell? ⟨g, i.toNat * 7 + j, none⟩ = some u := by
 have hN := S.own _ (List.mem_singleton.2 rfl)
 have hob : (Value.slice (some ⟨g, 0, none⟩) n cap).ownBlock = some g := by simp [Value.ownBlock]
 obtain ⟨c0, hcl, hM, hcc, hfr⟩ := Kd.zM hN z26 i h0 (by rw [(Kd.jw hN).1]; exact h1)
 obtain ⟨A6, c6, rfl, l6, g6⟩ := oK hM
 have l6 : (aj l i).f3.length ≤ c6 := l6
 have g6 : Kd.F k26 W _ A6 (aj l i).f3.length (aj l i).f3 := g6
 exact ⟨A6, c6, S.add (b0 := 0) (Kd.wR l6 (Kd.uo g6 (fun k hk => hk.1.elim id (fun e => absurd (by rw [hob] at e; exact (Option.some.inj e).symm) hk.2)))), fun j u h => hcc j u h⟩
end
section
variable {Pr : Program} {ops : Array Oper} {rest : List Oper} {op : Oper} {a : Act} {Q : Exit → Act → World → Prop} {Kc : Act → World → Prop} {w W : World} {P : Nat → Prop} {bs : List (Option Nat × Obj)} {ts : List (Value × List ai)} {ro : List (Addr × Value)}
theorem Z7 {ow : List (Value × List ai)} {v : Value} {xs : List Int} {o : Obj} (s x : Operand) (hw : Region.wanted op (yielded ops a.tmps) = true) (ho : op.op = .call { callee := .builtin .append, args := #[s, x], argTypes := #[41, 41] }) (ht : Pr.underlying 41 = some (.slice 3)) (hinfo : (Pr.info? 3).map (fun i => (i.zero, i.size, i.bytes)) = some (some (.int .i64 0), 1, 8))
  (S : St w P ((v.ownBlock, o) :: bs) ow ts ro W) (hI : IR w.heap.size v xs o) (y : Int) (hs : a.eval s = v) (hx : a.eval x = .slice (some ⟨W.heap.size, 0, none⟩) 1 1) (hl : xs.length ≤ 1000000000)
  (h : ∀ A1 c1 o1 w1, St w P (((Value.slice A1 (xs ++ [y]).length c1).ownBlock, o1) :: bs) ow ts ro w1 → IR w.heap.size (.slice A1 (xs ++ [y]).length c1) (xs ++ [y]) o1 → Kc (a.put op.dst (.slice A1 (xs ++ [y]).length c1)) w1) :
  if Region.wanted op (yielded ops a.tmps) = true then Oper.wp Pr op a (W.alloc (.cells #[.int .i64 y] 3)) Kc Q else Kc (a.put op.dst undef) (W.alloc (.cells #[.int .i64 y] 3)) := by
 have hR := hI W (S.blk _ List.mem_cons_self)
 refine Kd.FQ (Kd.int .i64) (w0 := w) w.heap.size hw s x 41 3 (.int .i64 0) 8 ho ht hinfo rfl (by decide) (by omega) v xs y [.int .i64 y] (fun _ => True) (fun _ => False) hs hx rfl (fun _ hk => hk.elim) (fun _ _ => trivial) (Kd.l_ hR (fun _ _ => trivial)) S.below S.below.size (by omega) ?_
 intro v1 w1 hr hb hg hat
 obtain ⟨A1, c1, rfl⟩ := Kd.ig hr
 obtain ⟨o1, h1, h2⟩ := Vx hr (Nat.le_refl _)
 exact h A1 c1 o1 w1 (S.Eu hb hg hat h1) h2
theorem yR {v : Value} {xs : List ai} (s x : Operand) (hgd : op.guard = none) (ho : op.op = .call { callee := .builtin .append, args := #[s, x], argTypes := #[24, 24] }) (ht : Pr.underlying 24 = some (.slice 26)) (hinfo : (Pr.info? 26).map (fun i => (i.zero, i.size, i.bytes)) = some (some (.agg #[(.int .u8 0), (.int .i64 0), (.int .i64 0), (.int .i64 0), (.int .i64 0), (.int .i64 0), (.slice none 0 0)]), 7, 72))
  (S : St w P bs [(v, xs)] ts ro W) (y : ai) {A : Option Addr} {c : Nat} (hm : (.slice A y.f3.length c, y.f3) ∈ ts) (hs : a.eval s = v) (hx : a.eval x = .slice (some ⟨W.heap.size, 0, none⟩) 1 1) (hl : xs.length ≤ 1000000000)
  (h : ∀ A1 c1 w1, St w P bs [(.slice A1 (xs ++ [y]).length c1, xs ++ [y])] ts ro w1 → wpList Pr ops Q rest (a.put op.dst (.slice A1 (xs ++ [y]).length c1)) w1) :
  wpList Pr ops Q (op :: rest) a (W.alloc (.cells (iy y A c).toArray 26)) := by
 obtain ⟨_, hl2, hF⟩ := Kd.DK (S.tree _ hm)
 exact Kd.Qe k26 (w0 := w) w.heap.size hgd s x 24 26 _ 72 ho ht hinfo rfl (by decide) (by omega) v xs y (iy y A c) (Ok w P (keys bs [])) (Ok w P (keys bs [(v, xs)])) hs hx (pY W _ y hl2 hF)
  (fun k h => ⟨⟨h.1, fun h2 => h.2 (jm.2 (.inl h2))⟩, fun e => h.2 (jm.2 (.inr e.symm))⟩) (fun k h => ⟨.inr (Nat.le_trans S.below.size h), fun h2 => by have := S.lt ((jm (v := v) (l := xs)).2 (.inl h2)); omega⟩) S.Wi S.below S.below.size (by omega)
  (fun v1 w1 hN hb hg hat => by
   obtain ⟨A1, c1, rfl⟩ := Kd.jO hN
   exact h A1 c1 w1 (S.Ze hb hg hat hN))
end
section
variable {Pr : Program} {ops : Array Oper} {md : Region.Mode} {Q : Exit → Act → World → Prop} {S : World → Prop} {ds : List Nat} {T : Bool × List (List Nat × List Nat)} {B : List Nat} {fuel : Nat} {l : Array Bool} {a a' : Act} {w : World} {v : Value} {oi : Oper}
def bA (n m : Nat) : Array Bool := ((List.range n).map fun i => m.testBit i).toArray
theorem ay (i : Nat) (N : Tmp) (l' : Array Bool) (HT : ae (je md ops = T)) (h : di Pr md ops Q S ds fuel l' a' w) (hi : ops[i]? = some oi := by rfl) (hN : oi.dst = some N := by rfl) (hc : Z5 T l.toList l'.toList i = true := by kernel_rfl)
  (hQ : ∀ c a w, Q (.panic c) (a.put oi.dst v) w → Q (.panic c) a w := by exact fun _ _ _ h => h) (hw : Region.wanted oi (yielded ops a.tmps) = true := by rfl) (hv : ∀ w, (execOp a.eval oi).run Pr w = .ok (.value v) w := by intro w'; go_simp; with_reducible rfl)
  (ha : a.put (some N) v = a' := by simp only [Act.put, List.setIfInBounds_toArray, List.set_cons_zero, List.set_cons_succ, lD, lC]; rfl) : di Pr md ops Q S ds (fuel + 1) l a w :=
 uS l' hi hN (qZ HT.out hc) hQ (.inl ⟨hw, hv⟩) ha h
theorem dM (i : Nat) (N : Tmp) (l' : Array Bool) (HT : ae (je md ops = T)) (HW : ae (iM T.2 B = true)) (hS : S w) (h : di Pr md ops Q S ds fuel l' a' w) (hi : ops[i]? = some oi := by rfl) (hN : oi.dst = some N := by rfl)
  (hc : WN T B ds l.toList l'.toList i = true := by kernel_rfl) (hQ : ∀ c a w, Q (.panic c) (a.put oi.dst v) w → Q (.panic c) a w := by exact fun _ _ _ h => h) (hw : Region.wanted oi (yielded ops a.tmps) = true := by rfl) (hv : ∀ w, S w → (execOp a.eval oi).run Pr w = .ok (.value v) w)
  (ha : a.put (some N) v = a' := by simp only [Act.put, List.setIfInBounds_toArray, List.set_cons_zero, List.set_cons_succ, lD, lC]; rfl) : di Pr md ops Q S ds (fuel + 1) l a w :=
 Bg l' hi hN (xE HT.out HW.out hc) hQ (.inl ⟨hw, hv⟩) hS ha h
end
theorem bf {α : Type} {a0 x : α} {l : List α} : x ∈ a0 :: x :: l := (.tail _ (.head _))
theorem gy {α : Type} {a0 a1 x : α} {l : List α} : x ∈ a0 :: a1 :: x :: l := (.tail _ (.tail _ (.head _)))
theorem jy {α : Type} {a0 a1 a2 x : α} {l : List α} : x ∈ a0 :: a1 :: a2 :: x :: l := (.tail _ (.tail _ (.tail _ (.head _))))
theorem su {α : Type} {a0 a1 a2 a3 x : α} {l : List α} : x ∈ a0 :: a1 :: a2 :: a3 :: x :: l := (.tail _ (.tail _ (.tail _ (.tail _ (.head _)))))
theorem vH {α : Type} {a0 a1 a2 a3 a4 x : α} {l : List α} : x ∈ a0 :: a1 :: a2 :: a3 :: a4 :: x :: l := (.tail _ (.tail _ (.tail _ (.tail _ (.tail _ (.head _))))))
theorem yM {α : Type} {a0 a1 a2 a3 a4 a5 x : α} {l : List α} : x ∈ a0 :: a1 :: a2 :: a3 :: a4 :: a5 :: x :: l := (.tail _ (.tail _ (.tail _ (.tail _ (.tail _ (.tail _ (.head _)))))))
theorem YV {α : Type} {a0 a1 a2 a3 a4 a5 a6 x : α} {l : List α} : x ∈ a0 :: a1 :: a2 :: a3 :: a4 :: a5 :: a6 :: x :: l := (.tail _ (.tail _ (.tail _ (.tail _ (.tail _ (.tail _ (.tail _ (.head _))))))))
theorem mm8 {α : Type} {a0 a1 a2 a3 a4 a5 a6 a7 x : α} {l : List α} : x ∈ a0 :: a1 :: a2 :: a3 :: a4 :: a5 :: a6 :: a7 :: x :: l := (.tail _ (.tail _ (.tail _ (.tail _ (.tail _ (.tail _ (.tail _ (.tail _ (.head _)))))))))
theorem wM {α : Type} {a0 a1 a2 a3 a4 a5 a6 a7 a8 x : α} {l : List α} : x ∈ a0 :: a1 :: a2 :: a3 :: a4 :: a5 :: a6 :: a7 :: a8 :: x :: l := (.tail _ (.tail _ (.tail _ (.tail _ (.tail _ (.tail _ (.tail _ (.tail _ (.tail _ (.head _))))))))))
theorem yB {a b : Int} (h : a = b) : (a == b) = true ∧ (a != b) = false ∧ decide (a = b) = true := ⟨beq_iff_eq.mpr h, bne_eq_false_iff_eq.mpr h, decide_eq_true h⟩
theorem eqF {a b : Int} (h : a ≠ b) : (a == b) = false ∧ (a != b) = true ∧ decide (a = b) = false := ⟨beq_eq_false_iff_ne.mpr h, bne_iff_ne.mpr h, decide_eq_false h⟩
theorem wL {a b : Int} (h : a < b) : decide (a < b) = true ∧ decide (b > a) = true := ⟨decide_eq_true h, decide_eq_true h⟩
theorem vF {a b : Int} (h : ¬ a < b) : decide (a < b) = false ∧ decide (b > a) = false := ⟨decide_eq_false h, decide_eq_false h⟩
end Go.Proofs.YtfdmfgaiblfbhaaGreat.P
namespace Go.Proofs.YtfdmfgaiblfbhaaGreat.P
open Go.RowKit Go.Proofs.ag.aU Go.Proofs.ag.bK Go.Proofs.ag.cO
attribute [local go_sem] jG jR kQ lq jJ jK kT kU
mutual
def bz.l0 : Nat → Int → List Int → List Int → Option (List Int)
 | 0, _, _, _ => none
 | k + 1, x0, x1, x5 => if x0 > 0 then (bz.l1 k x0 x1 x5 0 x0 x1 (x1.length : Int) 0) else (some x5)
def bz.l1 : Nat → Int → List Int → List Int → Int → Int → List Int → Int → Int → Option (List Int)
 | 0, _, _, _, _, _, _, _, _ => none
 | k + 1, x0, x1, x5, x6, x7, x20, x21, I7 => if I7 < x21 then (if 0 ≤ I7 then (if I7 < (x20.length : Int) then (if I7 < (x5.length : Int) then (if (wrap64 ((rd x20 I7) + (rd x5 I7))) > 0 then (bz.l1 k x0 x1 x5 (wrap64 (x6 + 1)) (mn x7 (wrap64 ((rd x20 I7) + (rd x5 I7)))) x20 x21 (wrap64 (I7 + 1))) else (bz.l1 k x0 x1 x5 x6 x7 x20 x21 (wrap64 (I7 + 1)))) else (none)) else (none)) else (none)) else (if x6 = 0 then (none) else (bz.l2 k x0 x1 x5 (mx 1 (mn x7 (wrap64 (Int.tdiv x0 x6)))) x1 (x1.length : Int) 0))
def bz.l2 : Nat → Int → List Int → List Int → Int → List Int → Int → Int → Option (List Int)
 | 0, _, _, _, _, _, _, _ => none
 | k + 1, x0, x1, x5, x10, ZH, x52, Hw => if Hw < x52 then (if 0 ≤ Hw then (if Hw < (ZH.length : Int) then (if Hw < (x5.length : Int) then (if (wrap64 ((rd ZH Hw) + (rd x5 Hw))) > 0 then (if x0 > 0 then (bz.l2 k (wrap64 (x0 - (mn x10 x0))) x1 (x5.set (Hw : Int).toNat (wrap64 ((rd x5 Hw) - (mn x10 x0)))) x10 ZH x52 (wrap64 (Hw + 1))) else (bz.l2 k x0 x1 x5 x10 ZH x52 (wrap64 (Hw + 1)))) else (bz.l2 k x0 x1 x5 x10 ZH x52 (wrap64 (Hw + 1)))) else (none)) else (none)) else (none)) else (bz.l0 k x0 x1 x5)
end
def bz.f (k : Nat) (a0 : Int) (l1 : List Int) : Option (List Int) := if 0 ≤ (l1.length : Int) then (if ((l1.length : Int) : Int).toNat ≤ 35184372088832 then (bz.l0 k a0 l1 (List.replicate ((l1.length : Int) : Int).toNat 0)) else (none)) else (none)
theorem bz.calls (k : Nat) (a0 : Int) (A1 : Option Addr) (c1 : Nat) (l1 : List Int) (r : List Int) (w : World) (hr1 : Kd.C (Kd.int .i64) w A1 l1.length l1) (hc1 : l1.length ≤ c1) (h : bz.f k a0 l1 = some r) :
  Calls Tryz.prog 74 #[.int .i64 a0, .slice A1 l1.length c1] w fun e w' => ∃ rP : Value, e = .returned (rP) ∧ Kd.R (Kd.int .i64) 3 w' w.heap.size (fun _ => True) rP r ∧ Below w.heap.size w w' := by
 have HR1 := ae.mk hr1
 clear hr1 hc1
 have HB := ae.mk (Below.refl w.heap.size w)
 have H : (if 0 ≤ (l1.length : Int) then (if ((l1.length : Int) : Int).toNat ≤ 35184372088832 then (bz.l0 k a0 l1 (List.replicate ((l1.length : Int) : Int).toNat 0)) else (none)) else (none)) = some r := h
 clear h
 by_cases c3 : 0 ≤ (l1.length : Int)
 ·rw [if_pos c3] at H
  have sU := eq_true c3
  have BG : decide (0 ≤ (l1.length : Int)) = true := decide_eq_true c3
  clear c3
  by_cases c4 : ((l1.length : Int) : Int).toNat ≤ 35184372088832
  ·rw [if_pos c4] at H
   have uH := eq_true c4
   have QD : decide (((l1.length : Int) : Int).toNat ≤ 35184372088832) = true := decide_eq_true c4
   clear c4
   obtain ⟨ajM, VZ⟩ : ∃ y_ : List Int, y_ = (List.replicate ((l1.length : Int) : Int).toNat 0) := ⟨_, rfl⟩
   replace H : (bz.l0 k a0 l1 ajM) = some r := by (rw [VZ]; with_reducible exact H)
   have akf := ae.mk VZ
   clear VZ
   have H' := ae.mk H
   clear H
   go_enter Tryz.func74, Tryz.ntmps74
   go_wp2_with (((with_reducible refine aA (N := 16) rfl ?_); refine Kd.agY (Kd.int .i64) _ 3 rfl (N := 16) rfl 41 _ _ rfl (l1.length : Int) rfl rfl Tryz.underlying41 (.int .i64 0) 8 info3 rfl (by decide) (by omega) 0 (ok := fun _ => True) (gz := fun _ => True) rfl (fun _ hk => hk) trivial (of_decide_eq_true (by (with_reducible assumption))) (Nat.le_trans (Nat.mul_le_mul_right _ (of_decide_eq_true (by (with_reducible assumption)) : (l1.length : Int).toNat ≤ 35184372088832)) (by omega)) (Below.refl _ _) (Nat.le_refl _) ?_; intro abL w5 ho6 hb pG jZ; clear pG jZ; (rw [← akf.out] at ho6); have aj1 := ae.mk (Kd.oQ ho6 (dE (by repeat ((with_reducible exact HB.out))))); replace HB := ae.mk (au (by repeat ((with_reducible exact HB.out))) hb); clear hb ho6))
   go_loopg [0] k (fun kq v0 w' => ∃ (xH : Int) (nK : List Int), v0 = .int .i64 xH ∧ ae (bz.l0 kq xH l1 nK = some r) ∧ ae (kq ≤ k) ∧ ae (Kd.R (Kd.int .i64) 3 w' w.heap.size (fun _ => True) abL nK) ∧ ae (Below w.heap.size w w'))
   case atStart => exact ⟨(a0), (ajM), (by rfl), H', ⟨Nat.le_refl _⟩, ⟨by exact aj1.out⟩, ⟨by repeat ((with_reducible exact HB.out))⟩⟩
   case round =>
    clear H'
    clear sU BG uH QD
    obtain ⟨xH, nK, rfl, HA, lh, nT, HB⟩ := hrel
    cases gk with
    | zero => exact absurd HA.out (by simp [bz.l0])
    | succ k1 =>
     have H := HA.out
     clear HA
     simp only [bz.l0] at H
     by_cases c7 : xH > 0
     ·rw [if_pos c7] at H
      have yT : decide (0 < xH) = true := decide_eq_true c7
      clear c7
      have H' := ae.mk H
      clear H
      go_wp2
      go_loopg [6, 7, 22] k1 (fun kq v6 v7 v22 w' => ∃ (AZ : Int) (DW : Int) (iI : Int), v6 = .int .i64 AZ ∧ v7 = .int .i64 DW ∧ v22 = .int .i64 iI ∧ ae (bz.l1 kq xH l1 nK AZ DW l1 (l1.length : Int) iI = some r) ∧ ae (kq ≤ k1) ∧ ae (Kd.R (Kd.int .i64) 3 w' w.heap.size (fun _ => True) abL nK) ∧ ae (Below w.heap.size w w'))
      case atStart => exact ⟨(0), (xH), (0), (by rfl), (by rfl), (by rfl), H', ⟨Nat.le_refl _⟩, ⟨by exact nT.out⟩, ⟨by repeat ((with_reducible exact HB.out))⟩⟩
      case round =>
       clear H'
       clear yT
       obtain ⟨AZ, DW, iI, rfl, rfl, rfl, HA, CY, nT, HB⟩ := hrel
       cases gk with
       | zero => exact absurd HA.out (by simp [bz.l1])
       | succ k2 =>
        have H := HA.out
        clear HA
        simp only [bz.l1] at H
        by_cases c8 : iI < (l1.length : Int)
        ·rw [if_pos c8] at H
         have DL : decide (iI < (l1.length : Int)) = true := decide_eq_true c8
         clear c8
         by_cases c9 : 0 ≤ iI
         ·rw [if_pos c9] at H
          have Jh : decide (0 ≤ iI) = true := decide_eq_true c9
          clear c9
          by_cases c10 : iI < (l1.length : Int)
          ·rw [if_pos c10] at H
           have PG : decide (iI < (l1.length : Int)) = true := decide_eq_true c10
           clear c10
           by_cases c11 : iI < (nK.length : Int)
           ·rw [if_pos c11] at H
            have Ic : decide (iI < (nK.length : Int)) = true := decide_eq_true c11
            clear c11
            by_cases c12 : (wrap64 ((rd l1 iI) + (rd nK iI))) > 0
            ·rw [if_pos c12] at H
             have EN : decide (0 < (wrap64 ((rd l1 iI) + (rd nK iI)))) = true := decide_eq_true c12
             clear c12
             obtain ⟨aaY, acw⟩ : ∃ j_ : Int, (mn DW (wrap64 ((rd l1 iI) + (rd nK iI)))) = j_ := ⟨_, rfl⟩
             replace H : (bz.l1 k2 xH l1 nK (wrap64 (AZ + 1)) aaY l1 (l1.length : Int) (wrap64 (iI + 1))) = some r := by (rw [acw] at H; exact H)
             have aqg : (if (wrap64 ((rd l1 iI) + (rd nK iI))) < DW then (wrap64 ((rd l1 iI) + (rd nK iI))) else DW) = aaY := acw
             have H' := ae.mk H
             clear H
             have Jw : 0 ≤ (iI : Int) := of_decide_eq_true (by (with_reducible assumption))
             have JA : iI < (l1.length : Int) := of_decide_eq_true (by (with_reducible assumption))
             obtain ⟨akv, aax, yX⟩ := Kd.ja HR1.out iI Jw JA
             cases aax
             replace yX := (HB.out.cell (World.block_lt_of_cell? w _ yX)).trans yX
             replace Jw := eq_true Jw
             replace JA := eq_true JA
             obtain ⟨arf, arz, am6⟩ := Kd.ig nT.out
             subst am6
             have Jy : 0 ≤ (iI : Int) := of_decide_eq_true (by (with_reducible assumption))
             have JB : iI < (nK.length : Int) := of_decide_eq_true (by (with_reducible assumption))
             obtain ⟨acd, aay, ae7⟩ := Kd.ja (Kd.eX nT.out).2.2 iI Jy JB
             cases aay
             replace Jy := eq_true Jy
             replace JB := eq_true JB
             have abj : 0 ≤ (iI : Int) := of_decide_eq_true (by (with_reducible assumption))
             have abp : iI < (nK.length : Int) := of_decide_eq_true (by (with_reducible assumption))
             obtain ⟨akw, am1, aoB⟩ := Kd.ja (Kd.eX nT.out).2.2 iI abj abp
             obtain rfl : acd = akw := (by injection am1)
             replace abj := eq_true abj
             replace abp := eq_true abp
             go_wp2
             go_roundg k2
             case measure => have := lh.out; have := CY.out; omega
             case rel => exact ⟨(wrap64 (AZ + 1)), (aaY), (wrap64 (iI + 1)), (by rfl), (by rfl), (by rfl), H', ⟨by have := lh.out; have := CY.out; omega⟩, ⟨by exact nT.out⟩, ⟨by repeat ((with_reducible exact HB.out))⟩⟩
            ·rw [if_neg c12] at H
             have EN : decide (0 < (wrap64 ((rd l1 iI) + (rd nK iI)))) = false := decide_eq_false c12
             clear c12
             have H' := ae.mk H
             clear H
             have Jw : 0 ≤ (iI : Int) := of_decide_eq_true (by (with_reducible assumption))
             have JA : iI < (l1.length : Int) := of_decide_eq_true (by (with_reducible assumption))
             obtain ⟨akv, aax, yX⟩ := Kd.ja HR1.out iI Jw JA
             cases aax
             replace yX := (HB.out.cell (World.block_lt_of_cell? w _ yX)).trans yX
             replace Jw := eq_true Jw
             replace JA := eq_true JA
             obtain ⟨LM, MG, Ry⟩ := Kd.ig nT.out
             subst Ry
             have Jy : 0 ≤ (iI : Int) := of_decide_eq_true (by (with_reducible assumption))
             have JB : iI < (nK.length : Int) := of_decide_eq_true (by (with_reducible assumption))
             obtain ⟨acd, aay, ae7⟩ := Kd.ja (Kd.eX nT.out).2.2 iI Jy JB
             cases aay
             replace Jy := eq_true Jy
             replace JB := eq_true JB
             go_wp2
             go_roundg k2
             case measure => have := lh.out; have := CY.out; omega
             case rel => exact ⟨(AZ), (DW), (wrap64 (iI + 1)), (by rfl), (by rfl), (by rfl), H', ⟨by have := lh.out; have := CY.out; omega⟩, ⟨by exact nT.out⟩, ⟨by repeat ((with_reducible exact HB.out))⟩⟩
           ·rw [if_neg c11] at H
            exact absurd H (by simp)
          ·rw [if_neg c10] at H
           exact absurd H (by simp)
         ·rw [if_neg c9] at H
          exact absurd H (by simp)
        ·rw [if_neg c8] at H
         have DL : decide (iI < (l1.length : Int)) = false := decide_eq_false c8
         clear c8
         by_cases c16 : AZ = 0
         ·rw [if_pos c16] at H
          exact absurd H (by simp)
         ·rw [if_neg c16] at H
          have VI : (AZ == 0) = false := beq_eq_false_iff_ne.mpr c16
          have akI : (AZ != 0) = true := bne_iff_ne.mpr c16
          obtain ⟨Sv, acx⟩ : ∃ j_ : Int, (mn DW (wrap64 (Int.tdiv xH AZ))) = j_ := ⟨_, rfl⟩
          replace H : (bz.l2 k2 xH l1 nK (mx 1 (Sv)) l1 (l1.length : Int) 0) = some r := by (rw [acx] at H; exact H)
          have aqh : (if (wrap64 (Int.tdiv xH AZ)) < DW then (wrap64 (Int.tdiv xH AZ)) else DW) = Sv := acx
          obtain ⟨Gx, acy⟩ : ∃ j_ : Int, (mx 1 (Sv)) = j_ := ⟨_, rfl⟩
          replace H : (bz.l2 k2 xH l1 nK Gx l1 (l1.length : Int) 0) = some r := by (rw [acy] at H; exact H)
          have aqi : (if 1 < (Sv) then (Sv) else 1) = Gx := acy
          have H' := ae.mk H
          clear H
          go_wp2
          go_loopg [0, 53] k2 (fun kq v0 v53 w' => ∃ (xI : Int) (qA : List Int) (fV : Int), v0 = .int .i64 xI ∧ v53 = .int .i64 fV ∧ ae (bz.l2 kq xI l1 qA Gx l1 (l1.length : Int) fV = some r) ∧ ae (kq ≤ k2) ∧ ae (Kd.R (Kd.int .i64) 3 w' w.heap.size (fun _ => True) abL qA) ∧ ae (Below w.heap.size w w'))
          case atStart => exact ⟨(xH), (nK), (0), (by rfl), (by rfl), H', ⟨Nat.le_refl _⟩, ⟨by exact nT.out⟩, ⟨by repeat ((with_reducible exact HB.out))⟩⟩
          case round =>
           clear H'
           clear DL c16 VI akI
           obtain ⟨xI, qA, fV, rfl, rfl, HA, Oz, nT, HB⟩ := hrel
           cases gk with
           | zero => exact absurd HA.out (by simp [bz.l2])
           | succ k3 =>
            have H := HA.out
            clear HA
            simp only [bz.l2] at H
            by_cases c19 : fV < (l1.length : Int)
            ·rw [if_pos c19] at H
             have akL : decide (fV < (l1.length : Int)) = true := decide_eq_true c19
             clear c19
             by_cases c20 : 0 ≤ fV
             ·rw [if_pos c20] at H
              have aqR : decide (0 ≤ fV) = true := decide_eq_true c20
              clear c20
              by_cases c21 : fV < (l1.length : Int)
              ·rw [if_pos c21] at H
               have aqS : decide (fV < (l1.length : Int)) = true := decide_eq_true c21
               clear c21
               by_cases c22 : fV < (qA.length : Int)
               ·rw [if_pos c22] at H
                have aqT : decide (fV < (qA.length : Int)) = true := decide_eq_true c22
                clear c22
                by_cases c23 : (wrap64 ((rd l1 fV) + (rd qA fV))) > 0
                ·rw [if_pos c23] at H
                 have akM : decide (0 < (wrap64 ((rd l1 fV) + (rd qA fV)))) = true := decide_eq_true c23
                 clear c23
                 by_cases c24 : xI > 0
                 ·rw [if_pos c24] at H
                  have akN : decide (0 < xI) = true := decide_eq_true c24
                  clear c24
                  obtain ⟨Gy, acz⟩ : ∃ j_ : Int, (mn Gx xI) = j_ := ⟨_, rfl⟩
                  replace H : (bz.l2 k3 (wrap64 (xI - (Gy))) l1 (qA.set (fV : Int).toNat (wrap64 ((rd qA fV) - (Gy)))) Gx l1 (l1.length : Int) (wrap64 (fV + 1))) = some r := by (rw [acz] at H; exact H)
                  have aqj : (if xI < Gx then xI else Gx) = Gy := acz
                  obtain ⟨abS, V3⟩ : ∃ y_ : List Int, y_ = (qA.set (fV : Int).toNat (wrap64 ((rd qA fV) - (Gy)))) := ⟨_, rfl⟩
                  replace H : (bz.l2 k3 (wrap64 (xI - (Gy))) l1 abS Gx l1 (l1.length : Int) (wrap64 (fV + 1))) = some r := by (rw [V3]; with_reducible exact H)
                  have akg := ae.mk V3
                  clear V3
                  have H' := ae.mk H
                  clear H
                  have Ci : 0 ≤ (fV : Int) := of_decide_eq_true (by (with_reducible assumption))
                  have CB : fV < (l1.length : Int) := of_decide_eq_true (by (with_reducible assumption))
                  obtain ⟨ace, Ru, sV⟩ := Kd.ja HR1.out fV Ci CB
                  cases Ru
                  replace sV := (HB.out.cell (World.block_lt_of_cell? w _ sV)).trans sV
                  replace Ci := eq_true Ci
                  replace CB := eq_true CB
                  obtain ⟨arh, amX, am9⟩ := Kd.ig nT.out
                  subst am9
                  have Cj : 0 ≤ (fV : Int) := of_decide_eq_true (by (with_reducible assumption))
                  have CE : fV < (qA.length : Int) := of_decide_eq_true (by (with_reducible assumption))
                  obtain ⟨VD, Rw, NH⟩ := Kd.ja (Kd.eX nT.out).2.2 fV Cj CE
                  cases Rw
                  replace Cj := eq_true Cj
                  replace CE := eq_true CE
                  have abk : 0 ≤ (fV : Int) := of_decide_eq_true (by (with_reducible assumption))
                  have abq : fV < (qA.length : Int) := of_decide_eq_true (by (with_reducible assumption))
                  obtain ⟨akx, am2, ae8⟩ := Kd.ja (Kd.eX nT.out).2.2 fV abk abq
                  obtain rfl : VD = akx := (by injection am2)
                  replace abk := eq_true abk
                  replace abq := eq_true abq
                  have p26 : 0 ≤ (fV : Int) := of_decide_eq_true (by (with_reducible assumption))
                  have q26 : (fV : Int) < ((qA.length : Int) : Int) := of_decide_eq_true (by (with_reducible assumption))
                  obtain ⟨aaE, arA, am8, ahQ, ane, ars, amC⟩ := Kd.Xt nT.out (by omega)
                  (cases am8)
                  have amA := ae.mk ahQ
                  clear ahQ ane amC
                  (simp only [add_plain] at NH)
                  (simp only [add_plain] at ae8)
                  obtain ⟨aql, aqc⟩ := Kd.ac' 0 nT.out (fV : Int) p26 q26
                  replace p26 := eq_true p26
                  replace q26 := eq_true q26
                  have ZQ := Kd.agZ nT.out (fV : Int) (wrap64 ((rd qA fV) - (Gy)))
                  go_wp2_with (((with_reducible refine VR (t := 3) (p := 78) rfl ?_); refine TY (t := 3) (p := 78) (v := ?aqy) (w1 := (wr.setCell ⟨aaE, (fV : Int).toNat, none⟩ (.int .i64 (wrap64 ((rd qA fV) - (Gy)))))) ?hg ?ho ?hn ?hr ?_; (case ho => rfl); (case hg => rfl); (case hn => rfl); (case hr => (go_simp; done)); intro Pg hw; have hg : wr.grownBy Pg (some aaE) := (by rw [hw]; exact ZQ.2); have hp_ : Kd.R (Kd.int .i64) 3 Pg w.heap.size (fun _ => True) (.slice (some ⟨aaE, 0, none⟩) qA.length amX) abS := (by rw [hw, akg.out]; exact ZQ.1); clear ZQ; replace nT := ae.mk (hp_); replace HB := ae.mk ((by rw [hw]; exact eY (HB.out) amA.out : Below w.heap.size w Pg)); clear hg hw hp_))
                  go_roundg k3
                  case measure => have := lh.out; have := CY.out; have := Oz.out; omega
                  case rel => exact ⟨(wrap64 (xI - (Gy))), (abS), (wrap64 (fV + 1)), (by rfl), (by rfl), H', ⟨by have := lh.out; have := CY.out; have := Oz.out; omega⟩, ⟨by exact nT.out⟩, ⟨by repeat ((with_reducible exact HB.out))⟩⟩
                 ·rw [if_neg c24] at H
                  have akN : decide (0 < xI) = false := decide_eq_false c24
                  clear c24
                  have H' := ae.mk H
                  clear H
                  have Ci : 0 ≤ (fV : Int) := of_decide_eq_true (by (with_reducible assumption))
                  have CB : fV < (l1.length : Int) := of_decide_eq_true (by (with_reducible assumption))
                  obtain ⟨ace, Ru, sV⟩ := Kd.ja HR1.out fV Ci CB
                  cases Ru
                  replace sV := (HB.out.cell (World.block_lt_of_cell? w _ sV)).trans sV
                  replace Ci := eq_true Ci
                  replace CB := eq_true CB
                  obtain ⟨ari, arB, am_⟩ := Kd.ig nT.out
                  subst am_
                  have Cj : 0 ≤ (fV : Int) := of_decide_eq_true (by (with_reducible assumption))
                  have CE : fV < (qA.length : Int) := of_decide_eq_true (by (with_reducible assumption))
                  obtain ⟨VD, Rw, NH⟩ := Kd.ja (Kd.eX nT.out).2.2 fV Cj CE
                  cases Rw
                  replace Cj := eq_true Cj
                  replace CE := eq_true CE
                  go_wp2
                  go_roundg k3
                  case measure => have := lh.out; have := CY.out; have := Oz.out; omega
                  case rel => exact ⟨(xI), (qA), (wrap64 (fV + 1)), (by rfl), (by rfl), H', ⟨by have := lh.out; have := CY.out; have := Oz.out; omega⟩, ⟨by exact nT.out⟩, ⟨by repeat ((with_reducible exact HB.out))⟩⟩
                ·rw [if_neg c23] at H
                 have akM : decide (0 < (wrap64 ((rd l1 fV) + (rd qA fV)))) = false := decide_eq_false c23
                 clear c23
                 have H' := ae.mk H
                 clear H
                 have Ci : 0 ≤ (fV : Int) := of_decide_eq_true (by (with_reducible assumption))
                 have CB : fV < (l1.length : Int) := of_decide_eq_true (by (with_reducible assumption))
                 obtain ⟨ace, Ru, sV⟩ := Kd.ja HR1.out fV Ci CB
                 cases Ru
                 replace sV := (HB.out.cell (World.block_lt_of_cell? w _ sV)).trans sV
                 replace Ci := eq_true Ci
                 replace CB := eq_true CB
                 obtain ⟨arj, arC, am'⟩ := Kd.ig nT.out
                 subst am'
                 have Cj : 0 ≤ (fV : Int) := of_decide_eq_true (by (with_reducible assumption))
                 have CE : fV < (qA.length : Int) := of_decide_eq_true (by (with_reducible assumption))
                 obtain ⟨VD, Rw, NH⟩ := Kd.ja (Kd.eX nT.out).2.2 fV Cj CE
                 cases Rw
                 replace Cj := eq_true Cj
                 replace CE := eq_true CE
                 go_wp2
                 go_roundg k3
                 case measure => have := lh.out; have := CY.out; have := Oz.out; omega
                 case rel => exact ⟨(xI), (qA), (wrap64 (fV + 1)), (by rfl), (by rfl), H', ⟨by have := lh.out; have := CY.out; have := Oz.out; omega⟩, ⟨by exact nT.out⟩, ⟨by repeat ((with_reducible exact HB.out))⟩⟩
               ·rw [if_neg c22] at H
                exact absurd H (by simp)
              ·rw [if_neg c21] at H
               exact absurd H (by simp)
             ·rw [if_neg c20] at H
              exact absurd H (by simp)
            ·rw [if_neg c19] at H
             have akL : decide (fV < (l1.length : Int)) = false := decide_eq_false c19
             clear c19
             have H' := ae.mk H
             clear H
             go_wp2
             go_roundg k3
             case measure => have := lh.out; have := CY.out; have := Oz.out; omega
             case rel => exact ⟨(xI), (qA), (by rfl), H', ⟨by have := lh.out; have := CY.out; have := Oz.out; omega⟩, ⟨by exact nT.out⟩, ⟨by repeat ((with_reducible exact HB.out))⟩⟩
     ·rw [if_neg c7] at H
      have yT : decide (0 < xH) = false := decide_eq_false c7
      clear c7
      obtain rfl := Option.some.inj H
      go_wp2
      go_ret
      exact ⟨_, by rfl, by exact nT.out, by repeat ((with_reducible exact HB.out))⟩
  ·rw [if_neg c4] at H
   exact absurd H (by simp)
 ·rw [if_neg c3] at H
  exact absurd H (by simp)
end Go.Proofs.YtfdmfgaiblfbhaaGreat.P
namespace Go.Proofs.YtfdmfgaiblfbhaaGreat.P
open Go.RowKit Go.Proofs.ag.aU Go.Proofs.ag.bK Go.Proofs.ag.cO
def lS (a n : Int) (i : Int) : Int := a / n + if i < a % n then 1 else 0
def moreL (a : Int) (n : Nat) : List Int := (List.range n).map fun i => lS a n (i : Nat)
theorem vI (a : Int) (n : Nat) : (moreL a n).length = n := by simp [moreL]
theorem YW (a : Int) (n k : Nat) (h : k < n) : (moreL a n)[k]? = some (lS a n k) := by simp [moreL, h]
theorem abE {α : Type} (L : List α) (x z : α) (k : Nat) (hx : L[k]? = some x) : (L.take k ++ List.replicate (L.length - k) z).set k x = L.take (k + 1) ++ List.replicate (L.length - (k + 1)) z := by
 obtain ⟨h, rfl⟩ := List.getElem?_eq_some_iff.1 hx
 obtain ⟨m, hm⟩ : ∃ m, L.length - k = m + 1 := ⟨L.length - k - 1, by omega⟩
 rw [List.set_append_right _ _ (by simp; omega), List.length_take, show k - min k L.length = 0 by omega, hm, List.replicate_succ, List.set_cons_zero, List.take_succ_eq_append_getElem h, List.append_assoc, show L.length - (k + 1) = m by omega]
 rfl
theorem Lc (a : Int) (n k : Nat) (h : k < n) : ((moreL a n).take k ++ List.replicate (n - k) 0).set k (lS a n k) = (moreL a n).take (k + 1) ++ List.replicate (n - (k + 1)) 0 := by
 have := abE (moreL a n) (lS a n k) 0 k (YW a n k h)
 rwa [vI] at this
theorem aa_ (a : Int) (n : Nat) (w : World) (h0 : 0 ≤ a) (h1 : a ≤ 9000000000000000000) (h2 : 1 ≤ n) (h3 : n ≤ 100000) :
  Calls Tryz.prog 73 #[.int .i64 a, .int .i64 n] w fun e w' => ∃ rP : Value, e = .returned rP ∧ Kd.R (Kd.int .i64) 3 w' w.heap.size (fun _ => True) rP (moreL a n) ∧ Below w.heap.size w w' := by
 have hmk := Lh (P := Tryz.prog) 41 3 .i64 8 Tryz.underlying41 info3 (by decide) n (by omega)
 have hs := SS w w.heap.size 3 .i64 n (Nat.le_refl _) (by omega)
 have hq0 : 0 ≤ a / (n : Int) := Int.ediv_nonneg h0 (by omega)
 have hq1 : a / (n : Int) ≤ a := Int.ediv_le_self _ h0
 have HS := ae.mk hs
 clear hs
 go_enter Tryz.func73, Tryz.ntmps73
 go_wp2
 go_loopw [11] (fun v11 wr => ∃ k : Nat, k ≤ n ∧ v11 = .int .i64 k ∧ ae (wr.ownsRow w.heap.size 3 1 (.slice (some ⟨w.heap.size, 0, none⟩) n n) n (nums .i64 ((moreL a n).take k ++ List.replicate (n - k) 0))) ∧ ae (Below w.heap.size w wr)) (fun v11 _ => n - (intOf v11).toNat)
 case atStart => exact ⟨0, by omega, rfl, ⟨by simpa using HS.out⟩, ⟨aY (Below.refl _ _) _⟩⟩
 case round =>
  obtain ⟨k, hk, rfl, HO, HB⟩ := hrel
  clear hmk HS
  by_cases hlt : k < n
  ·have hlt' : (k : Int) < (n : Int) := by omega
   obtain ⟨hc, hf⟩ := Y5 HO.out (k : Int) (by omega) (by omega)
   simp only [Int.toNat_natCast] at hc hf
   by_cases hr : (k : Int) < a % (n : Int)
   ·have HK := ae.mk (Lc a n k hlt)
    have HR := ae.mk hr
    go_wp2
    go_roundw
    case rel =>
     obtain ⟨s1, _⟩ := Dv HO.out (k : Int) (a / n)
     obtain ⟨s2, _⟩ := Dv s1 (k : Int) (a / n + 1)
     simp only [Int.toNat_natCast, List.set_set] at s1 s2
     have e : lS a n k = a / n + 1 := by unfold lS; rw [if_pos HR.out]
     rw [← e, HK.out] at s2
     exact ⟨k + 1, by omega, by go_num, ⟨by rw [← e]; exact s2⟩, ⟨eY (eY HB.out (Nat.le_refl _)) (Nat.le_refl _)⟩⟩
    case measure => simp [intOf]; omega
   ·have HK := ae.mk (Lc a n k hlt)
    have HR := ae.mk hr
    go_wp2
    go_roundw
    case rel =>
     obtain ⟨s1, _⟩ := Dv HO.out (k : Int) (a / n)
     simp only [Int.toNat_natCast] at s1
     have e : lS a n k = a / n := by unfold lS; rw [if_neg HR.out]; omega
     rw [← e, HK.out] at s1
     exact ⟨k + 1, by omega, by go_num, ⟨by rw [← e]; exact s1⟩, ⟨eY HB.out (Nat.le_refl _)⟩⟩
    case measure => simp [intOf]; omega
  ·obtain rfl : k = n := by omega
   go_wp2
   go_ret
   refine ⟨_, rfl, ?_, HB.out⟩
   have h := HO.out
   rw [List.take_of_length_le (by rw [vI]; omega), Nat.sub_self] at h
   simp only [List.replicate_zero, List.append_nil] at h
   exact Kd.uZ (enc := Value.int .i64) (h1 := fun _ => rfl) (by rw [vI]; exact h) (fun _ _ => trivial)
def rU.f (a0 a1 : Int) : Option (List Int) := if 0 ≤ a0 ∧ a0 ≤ 9000000000000000000 ∧ 1 ≤ a1 ∧ a1 ≤ 100000 then some (moreL a0 a1.toNat) else none
theorem rU.calls (a0 a1 : Int) (r : List Int) (w : World) (h : rU.f a0 a1 = some r) : Calls Tryz.prog 73 #[.int .i64 a0, .int .i64 a1] w fun e w' => ∃ rP : Value, e = .returned (rP) ∧ Kd.R (Kd.int .i64) 3 w' w.heap.size (fun _ => True) rP r ∧ Below w.heap.size w w' := by
 unfold rU.f at h
 split at h
 ·rename_i hc
  obtain ⟨n, rfl⟩ := Int.eq_ofNat_of_zero_le (show 0 ≤ a1 by omega)
  obtain rfl := Option.some.inj h
  exact aa_ a0 n w hc.1 hc.2.1 (by omega) (by omega)
 ·exact absurd h (by simp)
end Go.Proofs.YtfdmfgaiblfbhaaGreat.P
namespace Go.Proofs.YtfdmfgaiblfbhaaGreat.P
open Go.RowKit Go.Proofs.ag.aU Go.Proofs.ag.bK Go.Proofs.ag.cO
attribute [local go_sem] jG jR kQ lq jJ jK kT kU
mutual
def bW.l0 : Nat → Int → List Int → Int → List Int → Int → Int → Option (List Int × Bool)
 | 0, _, _, _, _, _, _ => none
 | k + 1, x0, x1, x6, x9, x10, x11 => if x11 < x10 then (if 0 ≤ x11 then (if x11 < (x9.length : Int) then (if (rd x9 x11) < 0 then (some (([] : List Int), false)) else (if (rd x9 x11) > 2147483647 then (some (([] : List Int), false)) else (bW.l0 k x0 x1 (mn 2147483647 (wrap64 (x6 + (rd x9 x11)))) x9 x10 (wrap64 (x11 + 1))))) else (none)) else (none)) else (if (x1.length : Int) = 0 then (bW.j1 k x0 x1 true) else (if x0 < (wrap64 (-x6)) then (bW.j1 k x0 x1 true) else (bW.j1 k x0 x1 (decide (x0 > 2147483647)))))
def bW.j1 : Nat → Int → List Int → Bool → Option (List Int × Bool)
 | 0, _, _, _ => none
 | k + 1, x0, x1, x26 => if x26 = true then (some (([] : List Int), false)) else (if x0 ≥ 0 then ((rU.f x0 (x1.length : Int)).bind fun NZ => (some (NZ, true))) else ((bz.f k (wrap64 (-x0)) x1).bind fun N7 => (some (N7, true))))
end
def bW.f (k : Nat) (a0 : Int) (l1 : List Int) : Option (List Int × Bool) := bW.l0 k a0 l1 0 l1 (l1.length : Int) 0
theorem bW.calls (k : Nat) (a0 : Int) (A1 : Option Addr) (c1 : Nat) (l1 : List Int) (r1 : List Int) (r2 : Bool) (w : World) (hr1 : Kd.C (Kd.int .i64) w A1 l1.length l1) (hc1 : l1.length ≤ c1) (h : bW.f k a0 l1 = some (r1, r2)) :
  Calls Tryz.prog 56 #[.int .i64 a0, .slice A1 l1.length c1] w fun e w' => ∃ rP : Value, e = .returned (.tuple #[rP, .bool r2]) ∧ Kd.R (Kd.int .i64) 3 w' w.heap.size (fun _ => True) rP r1 ∧ Below w.heap.size w w' := by
 have HR1 := ae.mk hr1
 have uq := ae.mk hc1
 clear hr1 hc1
 have HB := ae.mk (Below.refl w.heap.size w)
 have H : (bW.l0 k a0 l1 0 l1 (l1.length : Int) 0) = some (r1, r2) := h
 clear h
 have H' := ae.mk H
 clear H
 go_enter Tryz.func56, Tryz.ntmps56
 go_wp2
 go_loopg [6, 11] k (fun kq v6 v11 w' => ∃ (FN : Int) (bM : Int), v6 = .int .i64 FN ∧ v11 = .int .i64 bM ∧ ae (bW.l0 kq a0 l1 FN l1 (l1.length : Int) bM = some (r1, r2)) ∧ ae (kq ≤ k) ∧ ae (Below w.heap.size w w'))
 case atStart => exact ⟨(0), (0), (by rfl), (by rfl), H', ⟨Nat.le_refl _⟩, ⟨by repeat ((with_reducible exact HB.out))⟩⟩
 case round =>
  clear H'
  obtain ⟨FN, bM, rfl, rfl, HA, lh, HB⟩ := hrel
  cases gk with
  | zero => exact absurd HA.out (by simp [bW.l0])
  | succ k1 =>
   have H := HA.out
   clear HA
   simp only [bW.l0] at H
   by_cases c3 : bM < (l1.length : Int)
   ·rw [if_pos c3] at H
    have sU : decide (bM < (l1.length : Int)) = true := decide_eq_true c3
    clear c3
    by_cases c4 : 0 ≤ bM
    ·rw [if_pos c4] at H
     have uH : decide (0 ≤ bM) = true := decide_eq_true c4
     clear c4
     by_cases c5 : bM < (l1.length : Int)
     ·rw [if_pos c5] at H
      have EP : decide (bM < (l1.length : Int)) = true := decide_eq_true c5
      clear c5
      by_cases c6 : (rd l1 bM) < 0
      ·rw [if_pos c6] at H
       have BH : decide ((rd l1 bM) < 0) = true := decide_eq_true c6
       clear c6
       simp only [Option.some.injEq, Prod.mk.injEq] at H
       obtain ⟨rfl, rfl⟩ := H
       have Cm : 0 ≤ (bM : Int) := of_decide_eq_true (by (with_reducible assumption))
       have CG : bM < (l1.length : Int) := of_decide_eq_true (by (with_reducible assumption))
       obtain ⟨acf, Rx, sW⟩ := Kd.ja HR1.out bM Cm CG
       cases Rx
       replace sW := (HB.out.cell (World.block_lt_of_cell? w _ sW)).trans sW
       replace Cm := eq_true Cm
       replace CG := eq_true CG
       go_wp2
       go_ret2
       exact ⟨_, by rfl, by exact Kd.t_ _ _ _ _ _, by repeat ((with_reducible exact HB.out))⟩
      ·rw [if_neg c6] at H
       have BH : decide ((rd l1 bM) < 0) = false := decide_eq_false c6
       clear c6
       by_cases c7 : (rd l1 bM) > 2147483647
       ·rw [if_pos c7] at H
        have yT : decide (2147483647 < (rd l1 bM)) = true := decide_eq_true c7
        clear c7
        simp only [Option.some.injEq, Prod.mk.injEq] at H
        obtain ⟨rfl, rfl⟩ := H
        have Cm : 0 ≤ (bM : Int) := of_decide_eq_true (by (with_reducible assumption))
        have CG : bM < (l1.length : Int) := of_decide_eq_true (by (with_reducible assumption))
        obtain ⟨acf, Rx, sW⟩ := Kd.ja HR1.out bM Cm CG
        cases Rx
        replace sW := (HB.out.cell (World.block_lt_of_cell? w _ sW)).trans sW
        replace Cm := eq_true Cm
        replace CG := eq_true CG
        go_wp2
        go_ret2
        exact ⟨_, by rfl, by exact Kd.t_ _ _ _ _ _, by repeat ((with_reducible exact HB.out))⟩
       ·rw [if_neg c7] at H
        have yT : decide (2147483647 < (rd l1 bM)) = false := decide_eq_false c7
        clear c7
        obtain ⟨ji8, aix⟩ : ∃ j_ : Int, (mn 2147483647 (wrap64 (FN + (rd l1 bM)))) = j_ := ⟨_, rfl⟩
        replace H : (bW.l0 k1 a0 l1 ji8 l1 (l1.length : Int) (wrap64 (bM + 1))) = some (r1, r2) := by (rw [aix] at H; exact H)
        have aq1 : (if (wrap64 (FN + (rd l1 bM))) < 2147483647 then (wrap64 (FN + (rd l1 bM))) else 2147483647) = ji8 := aix
        have H' := ae.mk H
        clear H
        have Cm : 0 ≤ (bM : Int) := of_decide_eq_true (by (with_reducible assumption))
        have CG : bM < (l1.length : Int) := of_decide_eq_true (by (with_reducible assumption))
        obtain ⟨acf, Rx, sW⟩ := Kd.ja HR1.out bM Cm CG
        cases Rx
        replace sW := (HB.out.cell (World.block_lt_of_cell? w _ sW)).trans sW
        replace Cm := eq_true Cm
        replace CG := eq_true CG
        go_wp2
        go_roundg k1
        case measure => have := lh.out; omega
        case rel => exact ⟨(ji8), (wrap64 (bM + 1)), (by rfl), (by rfl), H', ⟨by have := lh.out; omega⟩, ⟨by repeat ((with_reducible exact HB.out))⟩⟩
     ·rw [if_neg c5] at H
      exact absurd H (by simp)
    ·rw [if_neg c4] at H
     exact absurd H (by simp)
   ·rw [if_neg c3] at H
    have sU : decide (bM < (l1.length : Int)) = false := decide_eq_false c3
    clear c3
    have HC9 := ae.mk H
    clear H
    go_upto_region 9 with (fail)
    go_cut [26] (fun v26 wc => ∃ (kq : Nat) (PM : Bool), v26 = .bool PM ∧ ae (bW.j1 kq a0 l1 PM = some (r1, r2)) ∧ ae (kq ≤ k1) ∧ ae (Below w.heap.size w wc))
    case first =>
     have H := HC9.out
     clear HC9
     by_cases c10 : (l1.length : Int) = 0
     ·rw [if_pos c10] at H
      have PG : ((l1.length : Int) == 0) = true := beq_iff_eq.mpr c10
      have akE : ((l1.length : Int) != 0) = false := bne_eq_false_iff_eq.mpr c10
      clear c10
      (skip)
      have H' := ae.mk H
      clear H
      go_wp2
      go_meet
      case rel => exact ⟨_, (true), (by rfl), H', ⟨by have := lh.out; omega⟩, ⟨by repeat ((with_reducible exact HB.out))⟩⟩
     ·rw [if_neg c10] at H
      have PG : ((l1.length : Int) == 0) = false := beq_eq_false_iff_ne.mpr c10
      have akE : ((l1.length : Int) != 0) = true := bne_iff_ne.mpr c10
      have aqQ : ¬ (l1 = []) := fun h_ => c10 (by rw [h_]; rfl)
      (skip)
      by_cases c11 : a0 < (wrap64 (-FN))
      ·rw [if_pos c11] at H
       have Ic : decide (a0 < (wrap64 (-FN))) = true := decide_eq_true c11
       clear c11
       have H' := ae.mk H
       clear H
       go_wp2
       go_meet
       case rel => exact ⟨_, (true), (by rfl), H', ⟨by have := lh.out; omega⟩, ⟨by repeat ((with_reducible exact HB.out))⟩⟩
      ·rw [if_neg c11] at H
       have Ic : decide (a0 < (wrap64 (-FN))) = false := decide_eq_false c11
       clear c11
       have H' := ae.mk H
       clear H
       go_wp2
       go_meet
       case rel => exact ⟨_, (decide (a0 > 2147483647)), (by rfl), H', ⟨by have := lh.out; omega⟩, ⟨by repeat ((with_reducible exact HB.out))⟩⟩
    case rest =>
     clear HC9
     clear sU
     obtain ⟨kq, PM, rfl, HA, HJ8, HB⟩ := hcut
     cases kq with
     | zero => exact absurd HA.out (by simp [bW.j1])
     | succ kj8 =>
      have H := HA.out
      clear HA
      simp only [bW.j1] at H
      by_cases c12 : PM = true
      ·subst c12
       have H1 : (some (([] : List Int), false)) = some (r1, r2) := by rw [if_pos rfl] at H; exact H
       clear H
       have H := H1
       clear H1
       simp only [Option.some.injEq, Prod.mk.injEq] at H
       obtain ⟨rfl, rfl⟩ := H
       go_wp2
       go_ret2
       exact ⟨_, by rfl, by exact Kd.t_ _ _ _ _ _, by repeat ((with_reducible exact HB.out))⟩
      ·replace c12 := Bool.eq_false_iff.mpr c12
       subst c12
       have H1 : (if a0 ≥ 0 then ((rU.f a0 (l1.length : Int)).bind fun NZ => (some (NZ, true))) else ((bz.f kj8 (wrap64 (-a0)) l1).bind fun N7 => (some (N7, true)))) = some (r1, r2) := by rw [if_neg (show ¬ (false = true) by decide)] at H; exact H
       clear H
       have H := H1
       clear H1
       by_cases c13 : a0 ≥ 0
       ·rw [if_pos c13] at H
        have akF : decide (0 ≤ a0) = true := decide_eq_true c13
        clear c13
        replace H := Option.bind_eq_some_iff.mp H
        obtain ⟨NZ, af7, H⟩ := H
        replace H : (some (NZ, true)) = some (r1, r2) := H
        have A14 := ae.mk af7
        clear af7
        simp only [Option.some.injEq, Prod.mk.injEq] at H
        obtain ⟨rfl, rfl⟩ := H
        go_wp2_with (((with_reducible refine jF (f := 73) rfl ?_); refine mf (some 46) rfl rfl Tryz.func73 (by kernel_rfl) rfl #[.int .i64 a0, .int .i64 (l1.length : Int)] rfl (by (try simp only [List.map_toArray, List.map_cons, List.map_nil]); rfl) ?_; (with_reducible refine (rU.calls a0 (l1.length : Int) NZ _ A14.out).mono ?_); rintro e wP ⟨arQ, rfl, ho0, hb⟩; refine ⟨_, rfl, ?_⟩; have aj2 := ae.mk (Kd.oQ ho0 (dE (by repeat ((with_reducible exact HB.out))))); replace HB := ae.mk (au (by repeat ((with_reducible exact HB.out))) hb); (try clear hb); (try clear ho0)))
        go_ret2
        exact ⟨_, by rfl, by exact aj2.out, by repeat ((with_reducible exact HB.out))⟩
       ·rw [if_neg c13] at H
        have akF : decide (0 ≤ a0) = false := decide_eq_false c13
        clear c13
        replace H := Option.bind_eq_some_iff.mp H
        obtain ⟨N7, F6, H⟩ := H
        replace H : (some (N7, true)) = some (r1, r2) := H
        have WX := ae.mk F6
        clear F6
        simp only [Option.some.injEq, Prod.mk.injEq] at H
        obtain ⟨rfl, rfl⟩ := H
        go_wp2_with (((with_reducible refine jF (f := 74) rfl ?_); refine mf (some 50) rfl rfl Tryz.func74 (by kernel_rfl) rfl #[.int .i64 (wrap64 (-a0)), .slice A1 l1.length c1] rfl (by (try simp only [List.map_toArray, List.map_cons, List.map_nil]); rfl) ?_; (with_reducible refine (bz.calls kj8 (wrap64 (-a0)) _ _ l1 N7 _ ?nH ?rJ WX.out).mono ?_); (case nH => repeat (exact (Kd.g_ HR1.out HB.out))); (case rJ => exact uq.out); rintro e ZF ⟨arR, rfl, ho0, hb⟩; refine ⟨_, rfl, ?_⟩; have aj3 := ae.mk (Kd.oQ ho0 (dE (by repeat ((with_reducible exact HB.out))))); replace HB := ae.mk (au (by repeat ((with_reducible exact HB.out))) hb); (try clear hb); (try clear ho0)))
        go_ret2
        exact ⟨_, by rfl, by exact aj3.out, by repeat ((with_reducible exact HB.out))⟩
def n_.l0 : Nat → List Int → List Int → Int → Int → Option (Bool)
 | 0, _, _, _, _ => none
 | k + 1, x0, x1, x12, EC => if EC < x12 then (if 0 ≤ EC then (if EC < (x0.length : Int) then (if EC < (x1.length : Int) then (if (rd x0 EC) = (rd x1 EC) then (n_.l0 k x0 x1 x12 (wrap64 (EC + 1))) else (some false)) else (none)) else (none)) else (none)) else (some true)
def n_.f (k : Nat) (l0 : List Int) (l1 : List Int) : Option (Bool) := if (l0.length : Int) = (l1.length : Int) then (n_.l0 k l0 l1 (l0.length : Int) 0) else (some false)
def acN.f (k : Nat)  : Option (Bool) := (bW.f k 5 (([0, 0, 0] : List Int))).bind fun ach => ((bW.f k (-5) (([1, 9, 2] : List Int))).bind fun aci => (if ach.2 = true then ((n_.f k ach.1 (([2, 2, 1] : List Int))).bind fun anw => (if anw = true then (if aci.2 = true then ((n_.f k aci.1 (([(-1), (-2), (-2)] : List Int))).bind fun anx => (some anx)) else (some false)) else (some false))) else (some false)))
end Go.Proofs.YtfdmfgaiblfbhaaGreat.P
namespace Go.Proofs.YtfdmfgaiblfbhaaGreat.P
open Go.RowKit Go.Proofs.ag.aU Go.Proofs.ag.bK Go.Proofs.ag.cO
def qM (left : Int) (p : Int × Int) : Int × (Int × Int) := if left > 0 then (left - 1, (p.1, p.2 + 1)) else if left < 0 ∧ p.1 + p.2 > 0 then (left + 1, (p.1, p.2 - 1)) else (left, p)
def kC : Int → List (Int × Int) → Int × List (Int × Int)
 | l, [] => (l, [])
 | l, p :: ps => ((kC (qM l p).1 ps).1, (qM l p).2 :: (kC (qM l p).1 ps).2)
def mX : Nat → Int → List (Int × Int) → Option (List Int × Bool)
 | 0, _, _ => none
 | k + 1, l, ps => if l = 0 then some (ps.map Prod.snd, true) else if (kC l ps).1 = l then some ([], false) else mX k (kC l ps).1 (kC l ps).2
def oh.f (k : Nat) (a0 : Int) (l1 : List Int) : Option (List Int × Bool) :=
 if -100000 ≤ a0 ∧ a0 ≤ 100000 ∧ l1.length ≤ 100000 then
  if l1 = [] then some ([], false)
  else if ∀ g, g ∈ l1 → 0 ≤ g ∧ g ≤ 2147483647 then mX k a0 (l1.map fun g => (g, 0)) else some ([], false)
 else none
def RB (l : Int) (ps : List (Int × Int)) : Prop := ∀ p, p ∈ ps → 0 ≤ p.1 ∧ p.1 ≤ 2147483647 ∧ p.2 + l ≤ 100000 ∧ p.2 - l ≤ 100000 ∧ -100000 ≤ p.2 + l ∧ -100000 ≤ p.2 - l
theorem CP (l : Int) (p : Int × Int) : (¬ 0 < l ∧ ¬ (l < 0 ∧ 0 < p.1 + p.2) ∧ qM l p = (l, p)) ∨ (0 < l ∧ (qM l p) = (l - 1, (p.1, p.2 + 1))) ∨ (l < 0 ∧ 0 < p.1 + p.2 ∧ (qM l p) = (l + 1, (p.1, p.2 - 1))) := by
 unfold qM
 split
 ·rename_i h; exact .inr (.inl ⟨h, rfl⟩)
 ·rename_i h0
  split
  ·rename_i h; exact .inr (.inr ⟨h.1, h.2, rfl⟩)
  ·rename_i h; exact .inl ⟨h0, h, rfl⟩
theorem Za {α : Type} (f : α → Int) (pre : List α) (p : α) (rest : List α) : rd ((pre ++ p :: rest).map f) (pre.length : Int) = f p := by
 simp [rd, List.getD_eq_getElem?_getD]
theorem set_mid {α β : Type} (f : α → β) (pre : List α) (p : α) (rest : List α) (q : α) : ((pre ++ p :: rest).map f).set pre.length (f q) = ((pre ++ [q]) ++ rest).map f := by
 simp
theorem Bf {M M' L : Int} {p p' : Int × Int} {pre rest ps : List (Int × Int)} {l1 : List Int} (e : qM M p = (M', p')) (HF : (pre ++ p :: rest).map Prod.fst = l1) (HB : RB M (pre ++ p :: rest)) (HD : -100000 ≤ M ∧ M ≤ 100000)
  (HE : (kC L ps).1 = (kC M (p :: rest)).1 ∧ (kC L ps).2 = pre ++ (kC M (p :: rest)).2) :
  ((pre ++ [p']) ++ rest).map Prod.fst = l1 ∧ RB M' ((pre ++ [p']) ++ rest) ∧ (-100000 ≤ M' ∧ M' ≤ 100000) ∧ ((kC L ps).1 = (kC M' rest).1 ∧ (kC L ps).2 = (pre ++ [p']) ++ (kC M' rest).2) := by
 have hp : p'.1 = p.1 := by
  rcases CP M p with ⟨_, _, h⟩ | ⟨_, h⟩ | ⟨_, _, h⟩ <;> rw [e] at h <;> injection h with h1 h2 <;> rw [h2]
 have hb := HB p (by simp)
 refine ⟨?_, ?_, ?_, ?_, ?_⟩
 ·rw [← HF]; simp [hp]
 ·have key : ∀ q, q ∈ pre ++ p :: rest → 0 ≤ q.1 ∧ q.1 ≤ 2147483647 ∧ q.2 + M' ≤ 100000 ∧ q.2 - M' ≤ 100000 ∧ -100000 ≤ q.2 + M' ∧ -100000 ≤ q.2 - M' := fun q hq => by
   have h := HB q hq
   rcases CP M p with ⟨_, _, h'⟩ | ⟨_, h'⟩ | ⟨_, _, h'⟩ <;> rw [e] at h' <;> injection h' with h1 h2 <;> omega
  intro q hq
  simp only [List.append_assoc, List.mem_append, List.mem_cons, List.not_mem_nil, or_false] at hq
  rcases hq with hq | rfl | hq
  ·exact key q (by simp [hq])
  ·rcases CP M p with ⟨_, _, h'⟩ | ⟨_, h'⟩ | ⟨_, _, h'⟩ <;> rw [e] at h' <;> injection h' with h1 h2 <;> subst h1 h2 <;> (try simp only) <;> omega
  ·exact key q (by simp [hq])
 ·rcases CP M p with ⟨_, _, h'⟩ | ⟨_, h'⟩ | ⟨_, _, h'⟩ <;> rw [e] at h' <;> injection h' with h1 h2 <;> omega
 ·rw [HE.1]; simp only [kC, e]
 ·rw [HE.2]; simp only [kC, e, List.append_assoc, List.cons_append, List.nil_append]
theorem oh.calls (k : Nat) (a0 : Int) (A1 : Option Addr) (c1 : Nat) (l1 : List Int) (r1 : List Int) (r2 : Bool) (w : World) (hr1 : Kd.C (Kd.int .i64) w A1 l1.length l1) (hc1 : l1.length ≤ c1) (h : oh.f k a0 l1 = some (r1, r2)) :
  Calls Tryz.prog 79 #[.int .i64 a0, .slice A1 l1.length c1] w fun e w' => ∃ rP : Value, e = .returned (.tuple #[rP, .bool r2]) ∧ Kd.R (Kd.int .i64) 3 w' w.heap.size (fun _ => True) rP r1 ∧ Below w.heap.size w w' := by
 unfold oh.f at h
 split at h
 ·rename_i hd
  obtain ⟨hd1, hd2, hd3⟩ := hd
  have hmk := Lh (P := Tryz.prog) 41 3 .i64 8 Tryz.underlying41 info3 (by decide) l1.length (by omega)
  have hs := SS w w.heap.size 3 .i64 l1.length (Nat.le_refl _) (by omega)
  have HS := ae.mk hs
  have HR := ae.mk hr1
  clear hs hr1 hc1
  split at h
  ·rename_i he
   injection h with h
   injection h with h1 h2
   subst h1 h2
   have hn0 : ((l1.length : Int) == 0) = true := by simp [he]
   have HE := ae.mk he
   clear he
   go_enter Tryz.func79, Tryz.ntmps79
   go_wp2
   go_ret2
   refine ⟨_, rfl, Kd.uZ (enc := Value.int .i64) (h1 := fun _ => rfl) ?_ (fun _ _ => trivial), aY (Below.refl _ _) _⟩
   have h := HS.out
   rw [HE.out] at h ⊢
   exact h
  ·rename_i hne
   have hpos : 0 < l1.length := List.length_pos_iff.2 hne
   have hn0 : ((l1.length : Int) == 0) = false := by simp; omega
   have H := ae.mk h
   clear h
   go_enter Tryz.func79, Tryz.ntmps79
   go_wp2
   clear hmk hne hn0
   have HR2 := ae.mk (Kd.g_ HR.out (aY (Below.refl w.heap.size w) (Obj.cells (madeCells #[Value.int IntKind.i64 0] l1.length) 3)))
   go_loop [21] (fun v21 => ∃ i : Nat, i ≤ l1.length ∧ v21 = .int .i64 i ∧ ae (∀ j, j < i → 0 ≤ rd l1 (j : Int) ∧ rd l1 (j : Int) ≤ 2147483647)) (fun v21 => l1.length - (intOf v21).toNat)
   case atStart => exact ⟨0, by omega, rfl, ⟨fun j hj => absurd hj (by omega)⟩⟩
   case round =>
    obtain ⟨i, hi, rfl, HI⟩ := hrel
    by_cases hlt : i < l1.length
    ·have hlt' : (i : Int) < (l1.length : Int) := by omega
     obtain ⟨ad, rfl, hc⟩ := Kd.ja HR2.out (i : Int) (by omega) (by omega)
     simp only [Int.toNat_natCast] at hc
     have hmem : rd l1 (i : Int) ∈ l1 := by
      simp only [rd, Int.toNat_natCast, List.getD_eq_getElem?_getD, List.getElem?_eq_getElem hlt, Option.getD_some]
      exact List.getElem_mem hlt
     generalize hx : rd l1 (i : Int) = x at hc hmem
     by_cases hx0 : x < 0 ∨ 2147483647 < x
     ·have hbad : ¬ ∀ g, g ∈ l1 → 0 ≤ g ∧ g ≤ 2147483647 := fun hall => by have := hall x hmem; omega
      have h := H.out
      rw [if_neg hbad] at h
      injection h with h
      injection h with h1 h2
      subst h1 h2
      clear hbad hmem
      by_cases hx1 : x < 0
      all_goals
       go_wp2
       go_ret2
       have ho := U5 (w.alloc (Obj.cells (madeCells #[Value.int IntKind.i64 0] l1.length) 3)) w.heap.size 3 .i64 [] (by simp) (by simp)
       simp only [World.size_alloc, nums, List.map_nil] at ho
       exact ⟨_, rfl, Kd.uZ (enc := Value.int .i64) (h1 := fun _ => rfl) ho (fun _ _ => trivial), aY (aY (Below.refl _ _) _) _⟩
     ·have hx1 : 0 ≤ x := by omega
      have hx2 : x ≤ 2147483647 := by omega
      clear hx0 hmem
      have HX := ae.mk hx
      clear hx
      go_wp2
      go_round
      case rel =>
       refine ⟨i + 1, by omega, by go_num, ⟨fun j hj => ?_⟩⟩
       by_cases e : j = i
       ·subst e; rw [HX.out]; exact ⟨hx1, hx2⟩
       ·exact HI.out j (by omega)
      case measure => simp [intOf]; omega
    ·obtain rfl : i = l1.length := by omega
     have hall : ∀ g, g ∈ l1 → 0 ≤ g ∧ g ≤ 2147483647 := fun g hg => by
      obtain ⟨j, hj, rfl⟩ := List.getElem_of_mem hg
      have := HI.out j hj
      simp only [rd, Int.toNat_natCast, List.getD_eq_getElem?_getD, List.getElem?_eq_getElem hj, Option.getD_some] at this
      exact this
     have h := H.out
     rw [if_pos hall] at h
     have HA := ae.mk hall
     have HL := ae.mk h
     clear HI hall h H
     go_wp2
     clear HR2
     go_loopg [7] k (fun gk v7 wr => ∃ (L : Int) (ps : List (Int × Int)), v7 = .int .i64 L ∧ ae (mX gk L ps = some (r1, r2)) ∧ ae (ps.map Prod.fst = l1) ∧ ae (RB L ps) ∧ ae (-100000 ≤ L ∧ L ≤ 100000) ∧ ae (wr.ownsRow w.heap.size 3 1 (.slice (some ⟨w.heap.size, 0, none⟩) l1.length l1.length) l1.length (nums .i64 (ps.map Prod.snd))) ∧ ae (Below w.heap.size w wr))
     case atStart =>
      refine ⟨a0, l1.map fun g => (g, 0), rfl, HL, ⟨by simp [List.map_map, Function.comp_def]⟩, ⟨?_⟩, ⟨hd1, hd2⟩, ⟨?_⟩, ⟨aY (Below.refl _ _) _⟩⟩
      ·intro p hp
       obtain ⟨g, hg, rfl⟩ := List.mem_map.1 hp
       have := HA.out g hg
       simp only
       omega
      ·have h := HS.out
       rw [show (l1.map fun g => (g, (0 : Int))).map Prod.snd = List.replicate l1.length 0 by simp [List.map_map, Function.comp_def, List.map_const']]
       exact h
     case round =>
      clear HL HA HS
      obtain ⟨L, ps, rfl, HL, HF, HB, HD, HO, AO⟩ := hrel
      cases gk with
      | zero => exact absurd HL.out (by simp [mX])
      | succ kk =>
       have h := HL.out
       clear HL
       simp only [mX] at h
       by_cases hL : L = 0
       ·rw [if_pos hL] at h
        injection h with h
        injection h with h1 h2
        subst h1 h2 hL
        go_wp2
        go_ret2
        refine ⟨_, rfl, Kd.uZ (enc := Value.int .i64) (h1 := fun _ => rfl) ?_ (fun _ _ => trivial), AO.out⟩
        have e : ps.length = l1.length := by rw [← HF.out]; simp
        rw [List.length_map, e]
        exact HO.out
       ·rw [if_neg hL] at h
        have H2 := ae.mk h
        clear h
        have hne0 : (L != 0) = true := by simpa using hL
        have hne1 : (L == 0) = false := by simpa using hL
        clear hL
        go_wp2
        clear hne0
        obtain ⟨wo, rfl⟩ : ∃ wo : World, wo = wr := ⟨_, rfl⟩
        go_loopg [7, 50] l1.length (fun g v7 v50 w2 => ∃ (M : Int) (pre rest : List (Int × Int)), v7 = .int .i64 M ∧ v50 = .int .i64 (pre.length : Nat) ∧ ae (rest.length ≤ g) ∧ ae ((pre ++ rest).map Prod.fst = l1) ∧ ae (RB M (pre ++ rest)) ∧ ae (-100000 ≤ M ∧ M ≤ 100000) ∧ ae ((kC L ps).1 = (kC M rest).1 ∧ (kC L ps).2 = pre ++ (kC M rest).2) ∧ ae (w2.ownsRow w.heap.size 3 1 (.slice (some ⟨w.heap.size, 0, none⟩) l1.length l1.length) l1.length (nums .i64 ((pre ++ rest).map Prod.snd))) ∧ ae (Below w.heap.size w w2))
        case atStart =>
         refine ⟨L, [], ps, rfl, rfl, ⟨?_⟩, HF, HB, HD, ⟨rfl, rfl⟩, HO, AO⟩
         have : ps.length = l1.length := by rw [← HF.out]; simp
         omega
        case round =>
         clear HO AO HB HD HF
         obtain ⟨M, pre, rest, rfl, rfl, HG, HF, HB, HD, HE, HO, AO⟩ := hrel
         cases rest with
         | nil =>
          have hlen : pre.length = l1.length := by rw [← HF.out]; simp
          have hnl : ¬ (pre.length : Int) < (l1.length : Int) := by omega
          clear hlen
          simp only [List.append_nil, kC] at HF HB HE HO
          by_cases Ux : M = L
          ·have anf : (M == L) = true := by simpa using Ux
           have h := H2.out
           rw [if_pos (by rw [HE.out.1]; exact Ux)] at h
           injection h with h
           injection h with h1 h2
           subst h1 h2
           clear Ux
           go_wp2
           go_ret2
           have ho := U5 wr w.heap.size 3 .i64 [] AO.out.size (by simp)
           simp only [nums, List.map_nil] at ho
           exact ⟨_, rfl, Kd.uZ (enc := Value.int .i64) (h1 := fun _ => rfl) ho (fun _ _ => trivial), aY AO.out _⟩
          ·have anf : (M == L) = false := by simpa using Ux
           have h := H2.out
           rw [if_neg (by rw [HE.out.1]; exact Ux), HE.out.1, HE.out.2] at h
           have H3 := ae.mk h
           clear h Ux H2
           go_wp2
           go_roundg kk
           case measure => omega
           case rel => exact ⟨M, pre, rfl, H3, HF, HB, HD, HO, AO⟩
         | cons p rest =>
          have hlen : pre.length + (rest.length + 1) = l1.length := by rw [← HF.out]; simp
          have hlt : (pre.length : Int) < (l1.length : Int) := by omega
          have HR2 := Kd.g_ HR.out AO.out
          obtain ⟨ad, rfl, hc⟩ := Kd.ja HR2 (pre.length : Int) (by omega) (by omega)
          simp only [Int.toNat_natCast] at hc
          rw [show rd l1 (pre.length : Int) = p.1 by rw [← HF.out]; exact Za Prod.fst pre p rest] at hc
          obtain ⟨hc2, hf2⟩ := Y5 HO.out (pre.length : Int) (by omega) (by omega)
          simp only [Int.toNat_natCast] at hc2 hf2
          rw [show rd ((pre ++ p :: rest).map Prod.snd) (pre.length : Int) = p.2 from Za Prod.snd pre p rest] at hc2
          have hpb := HB.out p (by simp)
          obtain ⟨b1, b2, b3, b4, b5, b6⟩ := hpb
          clear HR2 hlen
          obtain ⟨d1, d2⟩ := HD.out
          have s1 := fun x => (Dv HO.out (pre.length : Int) x).1
          simp only [Int.toNat_natCast] at s1
          have S1 := ae.mk s1
          clear s1
          rcases CP M p with ⟨h1, h2, e⟩ | ⟨hM, e⟩ | ⟨hM, hg, e⟩
          ·have HE2 := ae.mk e
           clear e
           by_cases h3 : M < 0
           ·have hs : ¬ 0 < p.1 + p.2 := fun hh => h2 ⟨h3, hh⟩
            clear h2
            go_wp2
            go_quiet (fail)
            go_wp2
            go_roundg rest.length
            case measure => have := HG.out; simp at this; omega
            case rel =>
             obtain ⟨n1, n2, n3, n4⟩ := Bf HE2.out HF.out HB.out HD.out HE.out
             exact ⟨M, pre ++ [p], rest, rfl, by simp, ⟨by omega⟩, ⟨n1⟩, ⟨n2⟩, ⟨n3⟩, ⟨n4⟩, ⟨by rw [List.append_assoc]; exact HO.out⟩, ⟨aT AO.out _⟩⟩
           ·clear h2
            have h4 : decide (M < 0) = false := by simp; omega
            go_wp2
            go_quiet (fail)
            go_wp2
            go_roundg rest.length
            case measure => have := HG.out; simp at this; omega
            case rel =>
             obtain ⟨n1, n2, n3, n4⟩ := Bf HE2.out HF.out HB.out HD.out HE.out
             exact ⟨M, pre ++ [p], rest, rfl, by simp, ⟨by omega⟩, ⟨n1⟩, ⟨n2⟩, ⟨n3⟩, ⟨n4⟩, ⟨by rw [List.append_assoc]; exact HO.out⟩, ⟨aT AO.out _⟩⟩
          ·have HE2 := ae.mk e
           clear e
           have hz2 : decide (M - 1 < 0) = false := by simp; omega
           go_wp2
           go_quiet (fail)
           go_wp2
           go_roundg rest.length
           case measure => have := HG.out; simp at this; omega
           case rel =>
            obtain ⟨n1, n2, n3, n4⟩ := Bf HE2.out HF.out HB.out HD.out HE.out
            exact ⟨M - 1, pre ++ [(p.1, p.2 + 1)], rest, rfl, by simp, ⟨by omega⟩, ⟨n1⟩, ⟨n2⟩, ⟨n3⟩, ⟨n4⟩, ⟨by rw [← set_mid Prod.snd pre p rest (p.1, p.2 + 1)]; exact S1.out (p.2 + 1)⟩, ⟨aT (eY AO.out (Nat.le_refl _)) _⟩⟩
          ·have HE2 := ae.mk e
           clear e
           go_wp2
           go_quiet (fail)
           go_wp2
           go_roundg rest.length
           case measure => have := HG.out; simp at this; omega
           case rel =>
            obtain ⟨n1, n2, n3, n4⟩ := Bf HE2.out HF.out HB.out HD.out HE.out
            exact ⟨M + 1, pre ++ [(p.1, p.2 - 1)], rest, rfl, by simp, ⟨by omega⟩, ⟨n1⟩, ⟨n2⟩, ⟨n3⟩, ⟨n4⟩, ⟨by rw [← set_mid Prod.snd pre p rest (p.1, p.2 - 1)]; exact S1.out (p.2 - 1)⟩, ⟨eY (aT AO.out _) (Nat.le_refl _)⟩⟩
 ·exact absurd h (by simp)
theorem wp {x : Int} (h0 : -9223372036854775808 ≤ x) (h1 : x ≤ 9223372036854775807) : wrap64 x = x := by unfold wrap64; omega
def lQ (m : Int) : Int → List (Int × Int) → Int × List (Int × Int)
 | b, [] => (b, [])
 | b, p :: ps => if p.1 + p.2 > 0 then (if b > 0 then ((lQ m (b - mn m b) ps).1, (p.1, p.2 - mn m b) :: (lQ m (b - mn m b) ps).2) else ((lQ m b ps).1, p :: (lQ m b ps).2)) else ((lQ m b ps).1, p :: (lQ m b ps).2)
def able : List (Int × Int) → Int
 | [] => 0
 | p :: ps => (if p.1 + p.2 > 0 then 1 else 0) + able ps
def lst : Int → List (Int × Int) → Int
 | m, [] => m
 | m, p :: ps => lst (if p.1 + p.2 > 0 then mn m (p.1 + p.2) else m) ps
def ug : List (Int × Int) → Int
 | [] => 0
 | p :: ps => (p.1 + p.2) + ug ps
def outs : List (Int × Int) → Int
 | [] => 0
 | p :: ps => p.2 + outs ps
def Good (ps : List (Int × Int)) : Prop := ∀ p, p ∈ ps → 0 ≤ p.1 ∧ p.1 ≤ 2147483647 ∧ -p.1 ≤ p.2 ∧ p.2 ≤ 0
def pg (m : Int) (ps : List (Int × Int)) : List (Int × Int) := ps.map fun p => (p.1, p.2 - if p.1 + p.2 > 0 then m else 0)
def HY (ps : List (Int × Int)) : Prop := ∀ p, p ∈ ps → ∀ q, q ∈ ps → p.2 > q.2 → p.1 + p.2 = 0
def Pv (ps : List (Int × Int)) : Prop := ∀ p, p ∈ ps → ∀ q, q ∈ ps → p.2 > q.2 + 1 → p.2 = -p.1
theorem Good.tail {p : Int × Int} {ps : List (Int × Int)} (h : Good (p :: ps)) : Good ps := fun q hq => h q (List.mem_cons_of_mem _ hq)
theorem Good.head {p : Int × Int} {ps : List (Int × Int)} (h : Good (p :: ps)) : 0 ≤ p.1 ∧ p.1 ≤ 2147483647 ∧ -p.1 ≤ p.2 ∧ p.2 ≤ 0 := h p List.mem_cons_self
theorem yl (ps : List (Int × Int)) : 0 ≤ able ps ∧ able ps ≤ ps.length := by
 induction ps with
 | nil => simp [able]
 | cons p ps ih => simp only [able, List.length_cons]; split <;> omega
theorem ZV {ps : List (Int × Int)} (hg : Good ps) (h : 0 < ug ps) : 0 < able ps := by
 induction ps with
 | nil => simp [ug] at h
 | cons p ps ih =>
  have hr := yl ps
  simp only [ug] at h
  simp only [able]
  split
  ·omega
  ·rename_i hp
   have := ih hg.tail (by omega)
   omega
theorem YS (ps : List (Int × Int)) : ∀ m, lst m ps ≤ m := by
 induction ps with
 | nil => intro m; simp [lst]
 | cons p ps ih =>
  intro m
  simp only [lst]
  have h1 := ih (if p.1 + p.2 > 0 then mn m (p.1 + p.2) else m)
  have h2 : (if p.1 + p.2 > 0 then mn m (p.1 + p.2) else m) ≤ m := by
   split
   ·unfold mn; split <;> omega
   ·exact Int.le_refl _
  omega
theorem afe (ps : List (Int × Int)) : ∀ m, ∀ p, p ∈ ps → p.1 + p.2 > 0 → lst m ps ≤ p.1 + p.2 := by
 induction ps with
 | nil => intro m p hp; cases hp
 | cons q ps ih =>
  intro m p hp h
  simp only [lst]
  rcases List.mem_cons.1 hp with rfl | hp
  ·rw [if_pos h]
   have h1 := YS ps (mn m (p.1 + p.2))
   have h2 : mn m (p.1 + p.2) ≤ p.1 + p.2 := by unfold mn; split <;> omega
   omega
  ·exact ih _ p hp h
theorem aff (ps : List (Int × Int)) : ∀ m, 0 < m → 0 < lst m ps := by
 induction ps with
 | nil => intro m h; simpa [lst] using h
 | cons q ps ih =>
  intro m h
  simp only [lst]
  apply ih
  unfold mn
  split
  ·split <;> omega
  ·exact h
theorem EM {m : Int} (hm : 0 < m) : ∀ (ps : List (Int × Int)) (b : Int), m * able ps ≤ b → lQ m b ps = (b - m * able ps, pg m ps) := by
 intro ps
 induction ps with
 | nil => intro b _; simp [lQ, able, pg]
 | cons p ps ih =>
  intro b hb
  have hr := yl ps
  have hmn : 0 ≤ m * able ps := Int.mul_nonneg (by omega) hr.1
  simp only [able] at hb ⊢
  by_cases hp : p.1 + p.2 > 0
  ·simp only [if_pos hp] at hb ⊢
   rw [Int.mul_add, Int.mul_one] at hb ⊢
   have h1 : mn m b = m := by unfold mn; split <;> omega
   have h2 := ih (b - m) (by omega)
   simp only [lQ]
   rw [if_pos hp, if_pos (by omega), h1, h2]
   simp only [pg, List.map_cons, if_pos hp, Prod.mk.injEq, and_true]
   omega
  ·simp only [if_neg hp] at hb ⊢
   rw [Int.zero_add] at hb ⊢
   simp only [lQ]
   rw [if_neg hp, ih b hb]
   simp only [pg, List.map_cons, if_neg hp, Int.sub_zero]
theorem aac : ∀ (ps : List (Int × Int)) (b : Int), 0 ≤ b → b ≤ able ps → (lQ 1 b ps).1 = 0 := by
 intro ps
 induction ps with
 | nil => intro b h0 h; simp only [able] at h; simp only [lQ]; omega
 | cons p ps ih =>
  intro b h0 h
  simp only [able] at h
  simp only [lQ]
  by_cases hp : p.1 + p.2 > 0
  ·rw [if_pos hp] at h ⊢
   by_cases hb : b > 0
   ·rw [if_pos hb]
    have h1 : mn 1 b = 1 := by unfold mn; split <;> omega
    rw [h1]
    exact ih (b - 1) (by omega) (by omega)
   ·rw [if_neg hb]
    exact ih b h0 (by have := yl ps; omega)
  ·rw [if_neg hp] at h ⊢
   exact ih b h0 (by omega)
theorem adr (m : Int) : ∀ (ps : List (Int × Int)) (b : Int), (lQ m b ps).2.map Prod.fst = ps.map Prod.fst := by
 intro ps
 induction ps with
 | nil => intro b; simp [lQ]
 | cons p ps ih =>
  intro b
  simp only [lQ]
  split
  ·split <;> simp [ih]
  ·simp [ih]
theorem Me : ∀ (ps : List (Int × Int)) (b : Int) (q : Int × Int), q ∈ (lQ 1 b ps).2 → ∃ p, p ∈ ps ∧ q.1 = p.1 ∧ (q.2 = p.2 ∨ (p.1 + p.2 > 0 ∧ q.2 = p.2 - 1)) := by
 intro ps
 induction ps with
 | nil => intro b q hq; simp [lQ] at hq
 | cons p ps ih =>
  intro b q hq
  simp only [lQ] at hq
  have key : ∀ b' , q ∈ (lQ 1 b' ps).2 → ∃ U6, U6 ∈ p :: ps ∧ q.1 = U6.1 ∧ (q.2 = U6.2 ∨ (U6.1 + U6.2 > 0 ∧ q.2 = U6.2 - 1)) := fun b' h => by
   obtain ⟨p', h1, h2⟩ := ih b' q h
   exact ⟨p', List.mem_cons_of_mem _ h1, h2⟩
  split at hq
  ·rename_i hp
   split at hq
   ·rename_i hb
    simp only [List.mem_cons] at hq
    rcases hq with rfl | hq
    ·refine ⟨p, List.mem_cons_self, rfl, .inr ⟨hp, ?_⟩⟩
     have h1 : mn 1 b = 1 := by unfold mn; split <;> omega
     simp only [h1]
    ·exact key _ hq
   ·simp only [List.mem_cons] at hq
    rcases hq with rfl | hq
    ·exact ⟨_, List.mem_cons_self, rfl, .inl rfl⟩
    ·exact key _ hq
  ·simp only [List.mem_cons] at hq
   rcases hq with rfl | hq
   ·exact ⟨_, List.mem_cons_self, rfl, .inl rfl⟩
   ·exact key _ hq
theorem Qx (m : Int) : ∀ (ps : List (Int × Int)) (b : Int), outs (lQ m b ps).2 - (lQ m b ps).1 = outs ps - b := by
 intro ps
 induction ps with
 | nil => intro b; simp [lQ]
 | cons p ps ih =>
  intro b
  simp only [lQ]
  split
  ·split
   ·have := ih (b - mn m b); simp only [outs]; omega
   ·have := ih b; simp only [outs]; omega
  ·have := ih b; simp only [outs]; omega
theorem aau (m : Int) (ps : List (Int × Int)) : (pg m ps).map Prod.fst = ps.map Prod.fst := by simp [pg, List.map_map, Function.comp_def]
theorem OE {m : Int} {ps : List (Int × Int)} (hm : 0 ≤ m) (hg : Good ps) (hl : ∀ p, p ∈ ps → p.1 + p.2 > 0 → m ≤ p.1 + p.2) : Good (pg m ps) := by
 intro q hq
 obtain ⟨p, hp, rfl⟩ := List.mem_map.1 hq
 have h1 := hg p hp
 have h2 := hl p hp
 simp only
 split <;> omega
theorem KA (m : Int) (ps : List (Int × Int)) : ug (pg m ps) = ug ps - m * able ps := by
 induction ps with
 | nil => simp [pg, ug, able]
 | cons p ps ih =>
  have e : pg m (p :: ps) = (p.1, p.2 - if p.1 + p.2 > 0 then m else 0) :: pg m ps := rfl
  rw [e]
  simp only [ug, able, ih]
  rw [Int.mul_add]
  split
  ·rw [Int.mul_one]; omega
  ·rw [Int.mul_zero]; omega
theorem XL {m : Int} {ps : List (Int × Int)} (hg : Good ps) (he : HY ps) (hm : 0 ≤ m) : HY (pg m ps) := by
 intro p' hp' q' hq' h
 obtain ⟨p, hp, rfl⟩ := List.mem_map.1 hp'
 obtain ⟨q, hq, rfl⟩ := List.mem_map.1 hq'
 have h1 := he p hp q hq
 have h2 := hg p hp
 have h3 := hg q hq
 simp only at h ⊢
 by_cases c1 : p.1 + p.2 > 0
 ·rw [if_pos c1] at h ⊢
  by_cases c2 : q.1 + q.2 > 0
  ·rw [if_pos c2] at h; omega
  ·rw [if_neg c2] at h; omega
 ·rw [if_neg c1] at h ⊢
  by_cases c2 : q.1 + q.2 > 0
  ·rw [if_pos c2] at h; omega
  ·rw [if_neg c2] at h; omega
theorem XM {m : Int} {ps : List (Int × Int)} (hm : 0 < m) (hl : ∀ p, p ∈ ps → p.1 + p.2 > 0 → m + 1 ≤ p.1 + p.2) : pg (m + 1) ps = pg m (pg 1 ps) ∧ able (pg 1 ps) = able ps := by
 constructor
 ·simp only [pg, List.map_map]
  apply List.map_congr_left
  intro p hp
  have := hl p hp
  simp only [Function.comp_def, Prod.mk.injEq, true_and]
  by_cases h : p.1 + p.2 > 0
  ·rw [if_pos h, if_pos h, if_pos (by omega)]; omega
  ·rw [if_neg h, if_neg h, if_neg (by omega)]; omega
 ·induction ps with
  | nil => rfl
  | cons p ps ih =>
   have e : pg 1 (p :: ps) = (p.1, p.2 - if p.1 + p.2 > 0 then 1 else 0) :: pg 1 ps := rfl
   rw [e]
   simp only [able]
   rw [ih fun q hq => hl q (List.mem_cons_of_mem _ hq)]
   have := hl p List.mem_cons_self
   by_cases h : p.1 + p.2 > 0
   ·rw [if_pos h, if_pos (by omega)]
   ·rw [if_neg h, if_neg (by omega)]
theorem Z_ {ps : List (Int × Int)} {b : Int} (he : HY ps) : Pv (lQ 1 b ps).2 := by
 intro p' hp' q' hq' h
 obtain ⟨p, hp, e1, e2⟩ := Me ps b p' hp'
 obtain ⟨q, hq, e3, e4⟩ := Me ps b q' hq'
 have h1 := he p hp q hq
 omega
theorem ahN {ps : List (Int × Int)} (he : HY ps) : Pv ps := by
 intro p hp q hq h
 have := he p hp q hq
 omega
theorem aab {ps : List (Int × Int)} {b : Int} (hg : Good ps) : Good (lQ 1 b ps).2 := by
 intro p' hp'
 obtain ⟨p, hp, e1, e2⟩ := Me ps b p' hp'
 have := hg p hp
 omega
theorem Ev.sZ {α : Type} {c : Prop} [Decidable c] {g f : Nat → Option α} {r : α} (hc : c) (h : Ev g r) : Ev (fun k => if c then g k else f k) r := by simp only [if_pos hc]; exact h
theorem Ev.uA {α : Type} {c : Prop} [Decidable c] {g f : Nat → Option α} {r : α} (hc : ¬c) (h : Ev f r) : Ev (fun k => if c then g k else f k) r := by simp only [if_neg hc]; exact h
theorem Lp {α : Type} (f : α → Int) (pre : List α) (p : α) (rest : List α) : rd ((pre ++ p :: rest).map f) (pre.length : Int) = f p := by
 simp [rd, List.getD_eq_getElem?_getD]
theorem NU (pre : List Int) (p : Int) (rest : List Int) : rd (pre ++ p :: rest) (pre.length : Int) = p := by
 simp [rd, List.getD_eq_getElem?_getD]
theorem afc (b : Int) (q : Int) (r : List Int) (hb0 : 0 < b) (hb1 : b ≤ 2147483647) : ∀ (rest pre : List (Int × Int)) (A L : Int), Good (pre ++ rest) → (pre ++ rest).length ≤ 100000 → 0 ≤ A → A ≤ pre.length →
  A + able rest ≠ 0 → q = mx 1 (mn (lst L rest) (b / (A + able rest))) →
  Ev (fun k => bz.l2 k b ((pre ++ rest).map Prod.fst) ((pre ++ rest).map Prod.snd) q ((pre ++ rest).map Prod.fst) ((pre ++ rest).length : Int) 0) r →
  Ev (fun k => bz.l1 k b ((pre ++ rest).map Prod.fst) ((pre ++ rest).map Prod.snd) A L ((pre ++ rest).map Prod.fst) ((pre ++ rest).length : Int) (pre.length : Int)) r := by
 intro rest
 induction rest with
 | nil =>
  intro pre A L hg hl h0 h1 hne hq h
  refine Ev.step (f := fun k => bz.l2 k b ((pre ++ []).map Prod.fst) ((pre ++ []).map Prod.snd) q ((pre ++ []).map Prod.fst) ((pre ++ []).length : Int) 0) (fun k => ?_) h
  simp only [bz.l1]
  simp only [able, Int.add_zero, lst] at hne hq
  have hdiv : wrap64 (Int.tdiv b A) = b / A := by
   rw [Int.tdiv_eq_ediv_of_nonneg (by omega)]
   have h2 : 0 ≤ b / A := Int.ediv_nonneg (by omega) h0
   have h3 : b / A ≤ b := Int.ediv_le_self _ (by omega)
   exact wp (by omega) (by omega)
  rw [if_neg (by simp), if_neg hne, hdiv, ← hq]
  simp
 | cons p rest ih =>
  intro pre A L hg hl h0 h1 hne hq h
  have hp := hg p (by simp)
  have hlen : ((pre ++ p :: rest).length : Int) = pre.length + (rest.length + 1) := by simp
  have hl' : (pre.length : Int) + (rest.length + 1) ≤ 100000 := by omega
  have hw : wrap64 ((pre.length : Int) + 1) = ((pre ++ [p]).length : Int) := by rw [wp (by omega) (by omega)]; simp
  have e : pre ++ p :: rest = (pre ++ [p]) ++ rest := by simp
  have hsum : wrap64 (p.1 + p.2) = p.1 + p.2 := wp (by omega) (by omega)
  refine Ev.step (f := fun k => bz.l1 k b (((pre ++ [p]) ++ rest).map Prod.fst) (((pre ++ [p]) ++ rest).map Prod.snd) (A + if p.1 + p.2 > 0 then 1 else 0) (if p.1 + p.2 > 0 then mn L (p.1 + p.2) else L) (((pre ++ [p]) ++ rest).map Prod.fst) (((pre ++ [p]) ++ rest).length : Int) ((pre ++ [p]).length : Int)) (fun k => ?_) (ih (pre ++ [p]) _ _ (by rw [← e]; exact hg) (by rw [← e]; exact hl) (by split <;> omega) (by simp; split <;> omega) (by simp only [able] at hne; omega) (by simp only [able, lst] at hq; rw [hq, Int.add_assoc]) (by rw [← e]; exact h))
  simp only [bz.l1]
  rw [Lp, Lp, hsum, if_pos (by omega), if_pos (by omega), if_pos (by simp; omega), if_pos (by simp; omega), hw, ← e]
  by_cases hc : p.1 + p.2 > 0
  ·rw [if_pos hc, if_pos hc, if_pos hc, wp (by omega) (by omega)]
  ·rw [if_neg hc, if_neg hc, if_neg hc, Int.add_zero]
theorem afd (m : Int) (r : List Int) (hm : 0 < m) : ∀ (rest pre : List (Int × Int)) (b : Int), 0 ≤ b → b ≤ 2147483647 → Good (pre ++ rest) → (∀ p, p ∈ rest → p.1 + p.2 > 0 → m ≤ p.1 + p.2) → (pre ++ rest).length ≤ 100000 →
  Ev (fun k => bz.l0 k (lQ m b rest).1 ((pre ++ rest).map Prod.fst) ((pre ++ (lQ m b rest).2).map Prod.snd)) r →
  Ev (fun k => bz.l2 k b ((pre ++ rest).map Prod.fst) ((pre ++ rest).map Prod.snd) m ((pre ++ rest).map Prod.fst) ((pre ++ rest).length : Int) (pre.length : Int)) r := by
 intro rest
 induction rest with
 | nil =>
  intro pre b h0 h1 hg hl hlen h
  simp only [lQ] at h
  refine Ev.step (fun k => ?_) h
  simp only [bz.l2]
  rw [if_neg (by simp)]
 | cons p rest ih =>
  intro pre b h0 h1 hg hl hlen h
  have hp := hg p (by simp)
  have hlen' : ((pre ++ p :: rest).length : Int) = pre.length + (rest.length + 1) := by simp
  have hl' : (pre.length : Int) + (rest.length + 1) ≤ 100000 := by omega
  have hw : wrap64 ((pre.length : Int) + 1) = (pre.length : Int) + 1 := wp (by omega) (by omega)
  have hsum : wrap64 (p.1 + p.2) = p.1 + p.2 := wp (by omega) (by omega)
  have hmp := hl p (by simp)
  have hmn : 0 ≤ mn m b ∧ mn m b ≤ m ∧ mn m b ≤ b := by unfold mn; split <;> omega
  have step : ∀ (b' : Int) (p' : Int × Int), p'.1 = p.1 → -p'.1 ≤ p'.2 → p'.2 ≤ 0 → 0 ≤ b' → b' ≤ 2147483647 → lQ m b (p :: rest) = ((lQ m b' rest).1, p' :: (lQ m b' rest).2) →
    Ev (fun k => bz.l2 k b' ((pre ++ p :: rest).map Prod.fst) ((pre ++ p' :: rest).map Prod.snd) m ((pre ++ p :: rest).map Prod.fst) ((pre ++ p :: rest).length : Int) ((pre.length : Int) + 1)) r := by
   intro b' p' e1 e2 e3 e4 e5 eb
   have f1 : (pre ++ p :: rest).map Prod.fst = ((pre ++ [p']) ++ rest).map Prod.fst := by simp [e1]
   have f2 : (pre ++ p' :: rest).map Prod.snd = ((pre ++ [p']) ++ rest).map Prod.snd := by simp
   have f3 : ((pre ++ p :: rest).length : Int) = (((pre ++ [p']) ++ rest).length : Int) := by simp
   have f4 : (pre.length : Int) + 1 = ((pre ++ [p']).length : Int) := by simp
   have hg' : Good ((pre ++ [p']) ++ rest) := by
    intro q hq
    simp only [List.append_assoc, List.mem_append, List.mem_cons, List.not_mem_nil, or_false] at hq
    rcases hq with hq | rfl | hq
    ·exact hg q (by simp [hq])
    ·omega
    ·exact hg q (by simp [hq])
   rw [f1, f2, f3, f4]
   refine ih (pre ++ [p']) b' e4 e5 hg' (fun q hq => hl q (by simp [hq])) (by simp; omega) ?_
   rw [eb] at h
   rw [← f1, List.append_assoc]
   exact h
  refine Ev.step (f := fun k => if p.1 + p.2 > 0 then (if b > 0 then bz.l2 k (b - mn m b) ((pre ++ p :: rest).map Prod.fst) ((pre ++ (p.1, p.2 - mn m b) :: rest).map Prod.snd) m ((pre ++ p :: rest).map Prod.fst) ((pre ++ p :: rest).length : Int) ((pre.length : Int) + 1) else bz.l2 k b ((pre ++ p :: rest).map Prod.fst) ((pre ++ p :: rest).map Prod.snd) m ((pre ++ p :: rest).map Prod.fst) ((pre ++ p :: rest).length : Int) ((pre.length : Int) + 1)) else bz.l2 k b ((pre ++ p :: rest).map Prod.fst) ((pre ++ p :: rest).map Prod.snd) m ((pre ++ p :: rest).map Prod.fst) ((pre ++ p :: rest).length : Int) ((pre.length : Int) + 1)) (fun k => ?_) ?_
  ·simp only [bz.l2]
   rw [Lp, Lp, hsum, if_pos (by omega), if_pos (by omega), if_pos (by simp; omega), if_pos (by simp; omega), hw]
   by_cases hc : p.1 + p.2 > 0
   ·rw [if_pos hc, if_pos hc]
    by_cases hb : b > 0
    ·rw [if_pos hb, if_pos hb, wp (by omega) (by omega), wp (by omega) (by omega)]
     congr 1
     simp
    ·rw [if_neg hb, if_neg hb]
   ·rw [if_neg hc, if_neg hc]
  ·by_cases hc : p.1 + p.2 > 0
   ·by_cases hb : b > 0
    ·refine Ev.sZ hc (Ev.sZ hb (step (b - mn m b) (p.1, p.2 - mn m b) rfl (by simp only; omega) (by simp only; omega) (by omega) (by omega) ?_))
     simp only [lQ]
     rw [if_pos hc, if_pos hb]
    ·refine Ev.sZ hc (Ev.uA hb (step b p rfl (by omega) (by omega) h0 h1 ?_))
     simp only [lQ]
     rw [if_pos hc, if_neg hb]
   ·refine Ev.uA hc (step b p rfl (by omega) (by omega) h0 h1 ?_)
    simp only [lQ]
    rw [if_neg hc]
theorem Uk (ps : List (Int × Int)) : ∀ b : Int, 0 ≤ b → kC (-b) ps = (-(lQ 1 b ps).1, (lQ 1 b ps).2) := by
 induction ps with
 | nil => intro b _; simp [kC, lQ]
 | cons p ps ih =>
  intro b hb
  simp only [kC, lQ]
  by_cases hp : p.1 + p.2 > 0
  ·rw [if_pos hp]
   by_cases h : b > 0
   ·rw [if_pos h]
    have h1 : mn 1 b = 1 := by unfold mn; split <;> omega
    have e : qM (-b) p = (-(b - 1), (p.1, p.2 - 1)) := by
     unfold qM
     rw [if_neg (by omega), if_pos ⟨by omega, hp⟩]
     congr 1
     omega
    rw [e, h1]
    simp only
    rw [ih (b - 1) (by omega)]
   ·rw [if_neg h]
    have e : qM (-b) p = (-b, p) := by
     unfold qM
     rw [if_neg (by omega), if_neg (by omega)]
    rw [e]
    simp only
    rw [ih b hb]
  ·rw [if_neg hp]
   have e : qM (-b) p = (-b, p) := by
    unfold qM
    rw [if_neg (by omega), if_neg (by omega)]
   rw [e]
   simp only
   rw [ih b hb]
theorem Dx {b : Int} {ps : List (Int × Int)} {r : List Int × Bool} (hb : 0 < b) (hne : (lQ 1 b ps).1 ≠ b) (h : Ev (fun k => mX k (-(lQ 1 b ps).1) (lQ 1 b ps).2) r) : Ev (fun k => mX k (-b) ps) r := by
 refine Ev.step (fun k => ?_) h
 simp only [mX]
 rw [if_neg (by omega), Uk ps b (by omega)]
 simp only
 rw [if_neg (by omega)]
theorem Wy {r : List Int × Bool} : ∀ (m : Nat) (b : Int) (ps : List (Int × Int)), 0 < able ps → ((m : Int) + 1) * able ps ≤ b → (∀ p, p ∈ ps → p.1 + p.2 > 0 → (m : Int) + 1 ≤ p.1 + p.2) →
  Ev (fun k => mX k (-(b - ((m : Int) + 1) * able ps)) (pg ((m : Int) + 1) ps)) r → Ev (fun k => mX k (-b) ps) r := by
 intro m
 induction m with
 | zero =>
  intro b ps ha hb hl h
  have e := EM (m := 1) (by omega) ps b (by simpa using hb)
  have hb' : able ps ≤ b := by simpa using hb
  refine Dx (by omega) (by rw [e]; simp only; omega) ?_
  rw [e]
  simpa using h
 | succ m ih =>
  intro b ps ha hb hl h
  have hx : 0 ≤ ((m : Int) + 1) * able ps := Int.mul_nonneg (by omega) (by omega)
  have hm : (((m + 1 : Nat) : Int) + 1) * able ps = ((m : Int) + 1) * able ps + able ps := by rw [show (((m + 1 : Nat) : Int) + 1) = ((m : Int) + 1) + 1 by omega, Int.add_mul, Int.one_mul]
  rw [hm] at hb h
  have e := EM (m := 1) (by omega) ps b (by omega)
  obtain ⟨d1, d2⟩ := XM (m := (m : Int) + 1) (ps := ps) (by omega) (fun p hp hc => by have := hl p hp hc; omega)
  refine Dx (by omega) (by rw [e]; simp only; omega) ?_
  rw [e]
  simp only [Int.one_mul]
  refine ih (b - able ps) (pg 1 ps) (by omega) (by rw [d2]; omega) ?_ ?_
  ·intro q hq hc
   obtain ⟨p, hp, rfl⟩ := List.mem_map.1 hq
   have := hl p hp
   simp only at hc ⊢
   by_cases hc1 : p.1 + p.2 > 0
   ·rw [if_pos hc1] at hc ⊢
    have := this hc1
    omega
   ·rw [if_neg hc1] at hc
    omega
  ·rw [d2, ← d1]
   refine Ev.congr (fun k => ?_) h
   rw [show (((m + 1 : Nat) : Int) + 1) = ((m : Int) + 1) + 1 by omega]
   congr 2
   omega
theorem YR : ∀ (n : Nat) (b : Int) (ps : List (Int × Int)), b.toNat = n → 0 ≤ b → b ≤ 2147483647 → Good ps → HY ps → ps.length ≤ 100000 → b ≤ ug ps →
  ∃ qs : List (Int × Int), Ev (fun k => bz.l0 k b (ps.map Prod.fst) (ps.map Prod.snd)) (qs.map Prod.snd) ∧ Ev (fun k => mX k (-b) ps) (qs.map Prod.snd, true) ∧
   qs.map Prod.fst = ps.map Prod.fst ∧ Good qs ∧ Pv qs ∧ outs qs = outs ps - b := by
 intro n
 induction n using Nat.strongRecOn with
 | _ n IH =>
 intro b ps hn h0 h1 hg he hl hav
 by_cases hb : b > 0
 ·have hab := ZV hg (by omega)
  have har := yl ps
  have arF := aff ps b hb
  have arE := YS ps b
  have hm1 : 1 ≤ mx 1 (mn (lst b ps) (b / able ps)) := by unfold mx; split <;> omega
  have acP : ∀ (m : Int), m = mx 1 (mn (lst b ps) (b / able ps)) → (∀ p, p ∈ ps → p.1 + p.2 > 0 → m ≤ p.1 + p.2) → ∀ r, Ev (fun k => bz.l0 k (lQ m b ps).1 (ps.map Prod.fst) ((lQ m b ps).2.map Prod.snd)) r → Ev (fun k => bz.l0 k b (ps.map Prod.fst) (ps.map Prod.snd)) r := by
   intro m hm hml r h
   refine Ev.step (f := fun k => bz.l1 k b (ps.map Prod.fst) (ps.map Prod.snd) 0 b (ps.map Prod.fst) ((ps.map Prod.fst).length : Int) 0) (fun k => ?_) ?_
   ·simp only [bz.l0]; rw [if_pos hb]
   ·have l2 := afd m r (by omega) ps [] b h0 h1 (by simpa using hg) hml (by simpa using hl) (by simpa using h)
    have l1 := afc b m r hb h1 ps [] 0 b (by simpa using hg) (by simpa using hl) (by omega) (by simp) (by omega) (by rw [Int.zero_add]; exact hm) (by simpa using l2)
    simpa using l1
  by_cases hfull : able ps ≤ b
  ·
   have hq1 : 1 ≤ b / able ps := by rw [Int.le_ediv_iff_mul_le hab]; omega
   have hm : mx 1 (mn (lst b ps) (b / able ps)) = mn (lst b ps) (b / able ps) := by unfold mx mn; split <;> split at * <;> omega
   have anq : 1 ≤ mn (lst b ps) (b / able ps) := by unfold mn; split <;> omega
   generalize hmm : mn (lst b ps) (b / able ps) = m at hm
   have hm0 : 1 ≤ m := by rw [← hmm]; exact anq
   have ano : m ≤ lst b ps := by rw [← hmm]; unfold mn; split <;> omega
   have anp : m ≤ b / able ps := by rw [← hmm]; unfold mn; split <;> omega
   have hall : ∀ p, p ∈ ps → p.1 + p.2 > 0 → m ≤ p.1 + p.2 := fun p hp hc => Int.le_trans ano (afe ps b p hp hc)
   have hmb : m * able ps ≤ b := (Int.le_ediv_iff_mul_le hab).1 anp
   have hma : able ps ≤ m * able ps := by have := Int.mul_le_mul_of_nonneg_right hm0 (show 0 ≤ able ps by omega); omega
   have ahF := EM (m := m) (by omega) ps b hmb
   obtain ⟨qs, q1, q2, q3, q4, q5, q6⟩ := IH (b - m * able ps).toNat (by omega) (b - m * able ps) (pg m ps) rfl (by omega) (by omega) (OE (by omega) hg hall) (XL hg he (by omega)) (by simpa [pg] using hl) (by rw [KA]; omega)
   rw [aau] at q1 q3
   have eo : outs (pg m ps) = outs ps - m * able ps := by
    have := Qx m ps b
    rw [ahF] at this
    simp only at this
    omega
   refine ⟨qs, acP m (by rw [hmm, hm]) hall _ (by rw [ahF]; exact q1), ?_, q3, q4, q5, by omega⟩
   obtain ⟨m', rfl⟩ : ∃ m' : Nat, m = (m' : Int) + 1 := ⟨(m - 1).toNat, by omega⟩
   exact Wy m' b ps hab hmb hall q2
  ·
   have hq0 : b / able ps = 0 := Int.ediv_eq_zero_of_lt h0 (by omega)
   have hm : mx 1 (mn (lst b ps) (b / able ps)) = 1 := by rw [hq0]; unfold mx mn; split <;> split at * <;> omega
   have hz := aac ps b h0 (by omega)
   have eo := Qx 1 ps b
   refine ⟨(lQ 1 b ps).2, acP 1 hm.symm (fun p _ hc => by omega) _ ?_, Dx hb (by omega) ?_, adr 1 ps b, aab hg, Z_ he, by omega⟩
   ·rw [hz]
    refine Ev.step (fun k => ?_) (Ev.now _)
    simp only [bz.l0]
    rw [if_neg (by omega)]
   ·rw [hz]
    refine Ev.step (fun k => ?_) (Ev.now _)
    simp only [mX]
    rw [if_pos (by omega)]
 ·obtain rfl : b = 0 := by omega
  refine ⟨ps, ?_, ?_, rfl, hg, ahN he, by omega⟩
  ·refine Ev.step (fun k => ?_) (Ev.now _)
   simp only [bz.l0]
   rw [if_neg hb]
  ·refine Ev.step (fun k => ?_) (Ev.now _)
   simp only [mX]
   rw [if_pos (by omega)]
def total : List Int → Int
 | [] => 0
 | g :: gs => g + total gs
theorem IZ (gs : List Int) : ug (gs.map fun g => (g, (0 : Int))) = total gs := by
 induction gs with
 | nil => rfl
 | cons g gs ih => simp only [List.map_cons, ug, total, ih]; omega
theorem CU (gs : List Int) (h : ∀ g, g ∈ gs → 0 ≤ g) : 0 ≤ total gs := by
 induction gs with
 | nil => simp [total]
 | cons g gs ih => have h1 := h g (by simp); have h2 := ih fun x hx => h x (by simp [hx]); simp only [total]; omega
def wW (m : Int) (gs : List Int) : Int := if m + total gs > 2147483647 then 2147483647 else m + total gs
theorem TW (b : Int) (r : List Int × Bool) : ∀ (rest pre : List Int) (s : Int), 0 ≤ s → s ≤ 2147483647 → (pre ++ rest).length ≤ 100000 →
  (∀ g, g ∈ rest → 0 ≤ g ∧ g ≤ 2147483647) →
  Ev (fun k => if ((pre ++ rest).length : Int) = 0 then (bW.j1 k b (pre ++ rest) true) else (if b < wrap64 (-(wW s rest)) then (bW.j1 k b (pre ++ rest) true) else (bW.j1 k b (pre ++ rest) (decide (b > 2147483647))))) r →
  Ev (fun k => bW.l0 k b (pre ++ rest) s (pre ++ rest) ((pre ++ rest).length : Int) (pre.length : Int)) r := by
 intro rest
 induction rest with
 | nil =>
  intro pre s h0 h1 hl hg h
  refine Ev.step (fun k => ?_) h
  simp only [bW.l0]
  rw [if_neg (by simp)]
  have : wW s [] = s := by unfold wW; simp only [total, Int.add_zero]; rw [if_neg (by omega)]
  rw [this]
 | cons g rest ih =>
  intro pre s h0 h1 hl hg h
  have hgg := hg g (by simp)
  have ht := CU rest fun x hx => (hg x (by simp [hx])).1
  have hlen : ((pre ++ g :: rest).length : Int) = pre.length + (rest.length + 1) := by simp
  have e : pre ++ g :: rest = (pre ++ [g]) ++ rest := by simp
  have hc : wW (mn 2147483647 (s + g)) rest = wW s (g :: rest) := by unfold wW mn; simp only [total]; split <;> split <;> (try split) <;> omega
  refine Ev.step (fun k => ?_) (ih (pre ++ [g]) (mn 2147483647 (s + g)) (by unfold mn; split <;> omega) (by unfold mn; split <;> omega) (by rw [← e]; exact hl) (fun x hx => hg x (by simp [hx])) (by rw [hc, ← e]; exact h))
  simp only [bW.l0]
  rw [NU, if_pos (by omega), if_pos (by omega), if_pos (by omega), if_neg (by omega), if_neg (by omega), wp (x := s + g) (by omega) (by omega), wp (x := (pre.length : Int) + 1) (by omega) (by omega), ← e]
  simp
theorem WG (b : Int) : ∀ (rest pre : List Int) (s : Int), 0 ≤ s → s ≤ 2147483647 → (pre ++ rest).length ≤ 100000 → ¬ (∀ g, g ∈ rest → 0 ≤ g ∧ g ≤ 2147483647) →
  Ev (fun k => bW.l0 k b (pre ++ rest) s (pre ++ rest) ((pre ++ rest).length : Int) (pre.length : Int)) ([], false) := by
 intro rest
 induction rest with
 | nil => intro pre s _ _ _ h; exact absurd (fun g hg => by cases hg) h
 | cons g rest ih =>
  intro pre s h0 h1 hl hg
  have hlen : ((pre ++ g :: rest).length : Int) = pre.length + (rest.length + 1) := by simp
  by_cases hgg : 0 ≤ g ∧ g ≤ 2147483647
  ·have e : pre ++ g :: rest = (pre ++ [g]) ++ rest := by simp
   refine Ev.step (fun k => ?_) (ih (pre ++ [g]) (mn 2147483647 (s + g)) (by unfold mn; split <;> omega) (by unfold mn; split <;> omega) (by rw [← e]; exact hl) (fun h => hg fun x hx => by
    rcases List.mem_cons.1 hx with rfl | hx
    ·exact hgg
    ·exact h x hx))
   simp only [bW.l0]
   rw [NU, if_pos (by omega), if_pos (by omega), if_pos (by omega), if_neg (by omega), if_neg (by omega), wp (x := s + g) (by omega) (by omega), wp (x := (pre.length : Int) + 1) (by omega) (by omega), ← e]
   simp
  ·refine Ev.step (fun k => ?_) (Ev.now _)
   simp only [bW.l0]
   rw [NU, if_pos (by omega), if_pos (by omega), if_pos (by omega)]
   by_cases h : g < 0
   ·rw [if_pos h]
   ·rw [if_neg h, if_pos (by omega)]
theorem TG (xs ys : List Int) : total (xs ++ ys) = total xs + total ys := by
 induction xs with
 | nil => simp [total]
 | cons x xs ih => simp only [List.cons_append, total, ih]; omega
theorem WQ (a : Int) (n : Int) (_h0 : 0 ≤ a % n) : ∀ m : Nat, total ((List.range m).map fun i => lS a n (i : Nat)) = m * (a / n) + (if (m : Int) ≤ a % n then (m : Int) else a % n) := by
 intro m
 induction m with
 | zero => simp [total]; omega
 | succ m ih =>
  rw [List.range_succ, List.map_append, TG, ih]
  simp only [List.map_cons, List.map_nil, total, lS]
  rw [show ((m + 1 : Nat) : Int) = (m : Int) + 1 by omega, Int.add_mul, Int.one_mul]
  split <;> split <;> split <;> omega
theorem TZ (a : Int) (n : Nat) (h0 : 0 ≤ a) (hn : 0 < n) : total (moreL a n) = a := by
 have h1 := Int.emod_nonneg a (show (n : Int) ≠ 0 by omega)
 have h2 := Int.emod_lt_of_pos a (show (0 : Int) < n by omega)
 have h := WQ a n h1 n
 unfold moreL
 rw [h, if_neg (by omega)]
 have := Int.mul_ediv_add_emod a n
 omega
theorem Zh : ∀ (ps : List (Int × Int)) (b : Int), 0 ≤ b → kC b ps = (if (ps.length : Int) ≤ b then b - ps.length else 0, ps.mapIdx fun i p => (p.1, p.2 + if (i : Int) < b then 1 else 0)) := by
 intro ps
 induction ps with
 | nil => intro b hb; simp [kC]; omega
 | cons p ps ih =>
  intro b hb
  simp only [kC]
  by_cases h : b > 0
  ·have e : qM b p = (b - 1, (p.1, p.2 + 1)) := by unfold qM; rw [if_pos h]
   rw [e]
   simp only
   rw [ih (b - 1) (by omega), List.mapIdx_cons]
   simp only [Prod.mk.injEq, List.length_cons, List.cons.injEq]
   refine ⟨by split <;> split <;> omega, ?_, ?_⟩
   ·rw [if_pos (by omega)]; simp
   ·apply List.mapIdx_eq_mapIdx_iff.2
    intro i hi
    simp only [Prod.mk.injEq, true_and]
    split <;> split <;> omega
  ·obtain rfl : b = 0 := by omega
   have e : qM 0 p = (0, p) := by unfold qM; simp
   rw [e]
   simp only
   rw [ih 0 (by omega), List.mapIdx_cons]
   simp only [Prod.mk.injEq, List.length_cons, List.cons.injEq]
   refine ⟨by split <;> split <;> omega, ?_, ?_⟩
   ·simp
   ·apply List.mapIdx_eq_mapIdx_iff.2
    intro i hi
    simp only [Prod.mk.injEq, true_and]
    split <;> split <;> omega
theorem TR {b n : Int} (hn : 0 < n) (i : Int) : lS (b - n) n i + 1 = lS b n i := by
 unfold lS
 have h1 : (b - n) / n = b / n - 1 := by
  rw [show b - n = b + (-1) * n by omega, Int.add_mul_ediv_right _ _ (by omega)]; omega
 have h2 : (b - n) % n = b % n := by
  rw [show b - n = b + (-1) * n by omega, Int.add_mul_emod_self_right]
 rw [h1, h2]
 omega
theorem GL {b n : Int} (h0 : 0 ≤ b) (h : b < n) (i : Int) : lS b n i = if i < b then 1 else 0 := by
 unfold lS
 rw [Int.ediv_eq_zero_of_lt h0 h, Int.emod_eq_of_lt h0 h]
 omega
theorem ajf : ∀ (N : Nat) (b t : Int) (gs : List Int), b.toNat = N → 0 ≤ b → gs ≠ [] → Ev (fun k => mX k b (gs.map fun g => (g, t))) (gs.mapIdx (fun i _ => t + lS b gs.length (i : Nat)), true) := by
 intro N
 induction N using Nat.strongRecOn with
 | _ N IH =>
 intro b t gs hN hb hne
 have hpos : 0 < gs.length := List.length_pos_iff.2 hne
 by_cases h0 : b = 0
 ·subst h0
  refine Ev.step (fun k => ?_) (Ev.now _)
  simp only [mX]
  rw [if_pos trivial]
  congr 2
  rw [List.map_map]
  apply List.ext_getElem
  ·simp
  ·intro i h1 h2
   simp only [List.getElem_map, Function.comp_def, List.getElem_mapIdx]
   rw [GL (show (0 : Int) ≤ 0 by omega) (show (0 : Int) < gs.length by omega), if_neg (by omega)]
   omega
 ·have hr := Zh (gs.map fun g => (g, t)) b hb
  rw [List.length_map] at hr
  by_cases hfull : (gs.length : Int) ≤ b
  ·rw [if_pos hfull] at hr
   have ih := IH (b - gs.length).toNat (by omega) (b - gs.length) (t + 1) gs rfl (by omega) hne
   have e2 : (List.mapIdx (fun i (p : Int × Int) => (p.1, p.2 + if (i : Int) < b then 1 else 0)) (gs.map fun g => (g, t))) = gs.map fun g => (g, t + 1) := by
    apply List.ext_getElem
    ·simp
    ·intro i h1 h2
     simp at h1
     simp only [List.getElem_mapIdx, List.getElem_map]
     rw [if_pos (by omega)]
   rw [e2] at hr
   refine Ev.step (f := fun k => mX k (b - gs.length) (gs.map fun g => (g, t + 1))) (fun k => ?_) ?_
   ·simp only [mX]
    rw [if_neg h0, hr]
    simp only
    rw [if_neg (by omega)]
   ·have e3 : gs.mapIdx (fun i _ => t + lS b gs.length (i : Nat)) = gs.mapIdx (fun i _ => t + 1 + lS (b - gs.length) gs.length (i : Nat)) := by
     apply List.mapIdx_eq_mapIdx_iff.2
     intro i hi
     have := TR (b := b) (n := gs.length) (by omega) (i : Nat)
     omega
    rw [e3]
    exact ih
  ·rw [if_neg hfull] at hr
   refine Ev.step (f := fun k => mX k 0 (List.mapIdx (fun i (p : Int × Int) => (p.1, p.2 + if (i : Int) < b then 1 else 0)) (gs.map fun g => (g, t)))) (fun k => ?_) ?_
   ·simp only [mX]
    rw [if_neg h0, hr]
    simp only
    rw [if_neg (by omega)]
   ·refine Ev.step (fun k => ?_) (Ev.now _)
    simp only [mX]
    rw [if_pos trivial]
    congr 2
    apply List.ext_getElem
    ·simp
    ·intro i h1 h2
     simp only [List.getElem_map, List.getElem_mapIdx]
     rw [GL hb (by omega)]
theorem aby (b : Int) (gs : List Int) (hb : 0 ≤ b) (hne : gs ≠ []) : Ev (fun k => mX k b (gs.map fun g => (g, 0))) (moreL b gs.length, true) := by
 have h := ajf b.toNat b 0 gs rfl hb hne
 have e : gs.mapIdx (fun i _ => 0 + lS b gs.length (i : Nat)) = moreL b gs.length := by
  apply List.ext_getElem
  ·simp [moreL]
  ·intro i h1 h2
   simp [moreL]
 rw [e] at h
 exact h
theorem Zd : ∀ (N : Nat) (b : Int) (ps : List (Int × Int)), b.toNat = N → Good ps → ug ps < b → 0 < b → Ev (fun k => mX k (-b) ps) ([], false) := by
 intro N
 induction N using Nat.strongRecOn with
 | _ N IH =>
 intro b ps hN hg hav hb
 have har := yl ps
 have hle : able ps ≤ ug ps := by
  clear IH hN hav hb har
  induction ps with
  | nil => simp [able, ug]
  | cons p ps ih =>
   have h1 := hg.head
   have h2 := ih hg.tail
   simp only [able, ug]
   split <;> omega
 have e := EM (m := 1) (by omega) ps b (by omega)
 rw [Int.one_mul] at e
 by_cases h0 : able ps = 0
 ·refine Ev.step (fun k => ?_) (Ev.now _)
  simp only [mX]
  rw [if_neg (by omega), Uk ps b (by omega), e]
  simp only
  rw [if_pos (by omega)]
 ·refine Dx hb (by rw [e]; simp only; omega) ?_
  rw [e]
  simp only
  exact IH (b - able ps).toNat (by omega) (b - able ps) (pg 1 ps) rfl (OE (by omega) hg fun p _ hc => by omega) (by rw [KA]; omega) (by omega)
theorem LJ {gs : List Int} (h : ∀ g, g ∈ gs → 0 ≤ g ∧ g ≤ 2147483647) : Good (gs.map fun g => (g, (0 : Int))) := by
 intro p hp
 obtain ⟨g, hg, rfl⟩ := List.mem_map.1 hp
 have := h g hg
 simp only
 omega
theorem WU (gs : List Int) : HY (gs.map fun g => (g, (0 : Int))) := by
 intro p hp q hq h
 obtain ⟨g, hg, rfl⟩ := List.mem_map.1 hp
 obtain ⟨g', hg', rfl⟩ := List.mem_map.1 hq
 simp at h
theorem WV (gs : List Int) : outs (gs.map fun g => (g, (0 : Int))) = 0 := by
 induction gs with
 | nil => rfl
 | cons g gs ih => simp only [List.map_cons, outs, ih]; rfl
theorem Wh (ps : List (Int × Int)) : outs ps = total (ps.map Prod.snd) := by
 induction ps with
 | nil => rfl
 | cons p ps ih => simp only [List.map_cons, outs, total, ih]
def EI (b : Int) (gs : List Int) (r : List Int × Bool) : Prop :=
 (r = ([], false) ∧ (gs = [] ∨ (¬ ∀ g, g ∈ gs → 0 ≤ g ∧ g ≤ 2147483647) ∨ ((∀ g, g ∈ gs → 0 ≤ g ∧ g ≤ 2147483647) ∧ b < -total gs))) ∨
 (r = (moreL b gs.length, true) ∧ gs ≠ [] ∧ (∀ g, g ∈ gs → 0 ≤ g ∧ g ≤ 2147483647) ∧ 0 ≤ b) ∨
 (∃ qs : List (Int × Int), r = (qs.map Prod.snd, true) ∧ (∀ g, g ∈ gs → 0 ≤ g ∧ g ≤ 2147483647) ∧ b < 0 ∧ qs.map Prod.fst = gs ∧ Good qs ∧ Pv qs ∧ outs qs = b ∧ Ev (fun k => mX k b (gs.map fun g => (g, 0))) (qs.map Prod.snd, true))
theorem Zq (b : Int) (gs : List Int) (hl : gs.length ≤ 100000) (h0 : -2147483647 ≤ b) (h1 : b ≤ 2147483647) : ∃ r, EI b gs r ∧ Ev (fun k => bW.f k b gs) r := by
 by_cases hg : ∀ g, g ∈ gs → 0 ≤ g ∧ g ≤ 2147483647
 ·have ht := CU gs fun g h => (hg g h).1
  have look := fun r => TW b r gs [] 0 (by omega) (by omega) (by simpa using hl) hg
  have hcap : wW 0 gs = if total gs > 2147483647 then 2147483647 else total gs := by unfold wW; rw [Int.zero_add]
  have hw : wrap64 (-(wW 0 gs)) = -(wW 0 gs) := by rw [hcap]; apply wp <;> split <;> omega
  simp only [List.nil_append, List.length_nil] at look
  have j1t : Ev (fun k => bW.j1 k b gs true) ([], false) := by
   refine Ev.step (fun k => ?_) (Ev.now _)
   simp only [bW.j1]
   rw [if_pos trivial]
  by_cases hne : gs = []
  ·refine ⟨_, .inl ⟨rfl, .inl hne⟩, ?_⟩
   refine look _ ?_
   refine Ev.sZ (by simp [hne]) j1t
  ·have hpos : 0 < gs.length := List.length_pos_iff.2 hne
   by_cases hb : b < -total gs
   ·refine ⟨_, .inl ⟨rfl, .inr (.inr ⟨hg, hb⟩)⟩, look _ (Ev.uA (by omega) (Ev.sZ ?_ j1t))⟩
    rw [hw, hcap]
    split <;> omega
   ·have hdec : decide (b > 2147483647) = false := by simp; omega
    have go : ∀ r, Ev (fun k => bW.j1 k b gs false) r → Ev (fun k => bW.f k b gs) r := fun r h => by
     refine look _ (Ev.uA (by omega) (Ev.uA ?_ ?_))
     ·rw [hw, hcap]; split <;> omega
     ·rw [hdec]; exact h
    by_cases hb0 : 0 ≤ b
    ·refine ⟨_, .inr (.inl ⟨rfl, hne, hg, hb0⟩), go _ (Ev.step (fun k => ?_) (Ev.now _))⟩
     simp only [bW.j1]
     rw [if_neg (by simp), if_pos (by omega)]
     unfold rU.f
     rw [if_pos ⟨hb0, by omega, by omega, by omega⟩]
     simp
    ·obtain ⟨qs, q1, q2, q3, q4, q5, q6⟩ := YR (-b).toNat (-b) (gs.map fun g => (g, 0)) rfl (by omega) (by omega) (LJ hg) (WU gs) (by simpa using hl) (by rw [IZ]; omega)
     have e1 : (gs.map fun g => (g, (0 : Int))).map Prod.fst = gs := by simp [List.map_map, Function.comp_def]
     have e2 : (gs.map fun g => (g, (0 : Int))).map Prod.snd = List.replicate gs.length 0 := by simp [List.map_map, Function.comp_def, List.map_const']
     rw [e1] at q1 q3
     rw [e2] at q1
     rw [WV] at q6
     rw [Int.neg_neg] at q2
     refine ⟨_, .inr (.inr ⟨qs, rfl, hg, by omega, q3, q4, q5, by omega, q2⟩), go _ (Ev.step (f := fun k => (bz.f k (-b) gs).bind fun t => some (t, true)) (fun k => ?_) (Ev.bind (a := qs.map Prod.snd) ?_ (Ev.now _)))⟩
     ·simp only [bW.j1]
      rw [if_neg (by simp), if_neg (by omega), wp (by omega) (by omega)]
     ·refine Ev.congr (fun k => ?_) q1
      unfold bz.f
      rw [if_pos (by omega), if_pos (by omega)]
      simp
 ·refine ⟨_, .inl ⟨rfl, .inr (.inl hg)⟩, ?_⟩
  have := WG b gs [] 0 (by omega) (by omega) (by simpa using hl) hg
  simp only [List.nil_append, List.length_nil] at this
  exact this
section
variable {Pr : Program} {ops : Array Oper} {rest : List Oper} {op : Oper} {a : Act} {Q : Exit → Act → World → Prop} {w W : World} {P : Nat → Prop} {bs : List (Option Nat × Obj)} {ow : List (Value × List ai)} {ts : List (Value × List ai)} {ro : List (Addr × Value)}
theorem ik (N : Tmp) (_ : op.dst = some N) (h : wpList Pr ops Q (op :: rest) a W) : wpList Pr ops Q (op :: rest) a W := h
theorem aqX (t : TypeId) (p x : Operand) (_ : op.op = .store t p x) (h : wpList Pr ops Q (op :: rest) a W) : wpList Pr ops Q (op :: rest) a W := h
theorem boxS (N : Tmp) (cs : Array Value) (t : TypeId) (S : ae (St w P bs ow ts ro W))
  (h : ∀ g w1, ae (St w P ((some g, .cells cs t (0, 0)) :: bs) ow ts ro w1) → wpList Pr ops Q rest (a.put op.dst (.pointer (some ⟨g, 0, none⟩))) w1) (hd : op.dst = some N := by rfl) (hgd : op.guard = none := by rfl)
  (hr : (execOp a.eval op).run Pr W = .ok (.value (.pointer (some ⟨W.heap.size, 0, none⟩))) (W.alloc (.cells cs t (0, 0))) := by first | (go_simp; done) | (go_simp; rfl)) : wpList Pr ops Q (op :: rest) a W :=
 ahf hd hgd cs t S.out hr (fun g w1 S1 => h g w1 ⟨S1⟩)
theorem S_ (i : Nat) {g : Nat} {cs : Array Value} {t0 : TypeId} (hi : bs[i]? = some (some g, .cells cs t0 (0, 0))) (t : TypeId) (p x : Tmp) (cs' : Array Value) (j n : Nat) (S : ae (St w P bs ow ts ro W)) (h : ∀ w1, ae (St w P (bs.set i (some g, .cells cs' t0 (0, 0))) ow ts ro w1) → wpList Pr ops Q rest a w1)
  (ho : op.op = .store t (.tmp p) (.tmp x)) (lL : a.eval (.tmp p) = .pointer (some ⟨g, j, none⟩)) (hu : (a.eval (.tmp x)).cells.toList = (cs'.toList.drop j).take n) (ht : (Pr.info? t).map (·.size) = some n)
  (hn : ((cs'.toList.drop j).take n).length = n) (h1 : ((cs'.toList.drop j).take n).all Value.oneCell' = true) (hj : j + n ≤ cs.size) (he : cs.toList.take j ++ (cs'.toList.drop j).take n ++ cs.toList.drop (j + n) = cs'.toList) (hN : op.dst = none) (hgd : op.guard = none) : wpList Pr ops Q (op :: rest) a W :=
 ai' i hi t (.tmp p) (.tmp x) ho cs' S.out lL rfl hu (by rw [hn]; exact ht) (fun q hq => List.all_eq_true.1 h1 q hq) (by rw [hn]; exact hj) (by rw [hn]; exact he) hN hgd (fun w1 S1 => h w1 ⟨S1⟩)
variable {g : Nat} {cs : Array Value} {t0 : TypeId} {b0 b1 b2 b3 b4 : Option Nat × Obj}
theorem gY (t : TypeId) (p x : Tmp) (cs' : Array Value) (j n : Nat) (S : ae (St w P ((some g, .cells cs t0 (0, 0)) :: bs) ow ts ro W)) (h : ∀ w1, ae (St w P ((some g, .cells cs' t0 (0, 0)) :: bs) ow ts ro w1) → wpList Pr ops Q rest a w1)
  (ho : op.op = .store t (.tmp p) (.tmp x) := by rfl) (lL : a.eval (.tmp p) = .pointer (some ⟨g, j, none⟩) := by rfl) (hu : (a.eval (.tmp x)).cells.toList = (cs'.toList.drop j).take n := by rfl) (ht : (Pr.info? t).map (·.size) = some n := by kernel_rfl)
  (hn : ((cs'.toList.drop j).take n).length = n := by rfl) (h1 : ((cs'.toList.drop j).take n).all Value.oneCell' = true := by rfl) (hj : j + n ≤ cs.size := by first | decide | simp) (he : cs.toList.take j ++ (cs'.toList.drop j).take n ++ cs.toList.drop (j + n) = cs'.toList := by rfl) (hN : op.dst = none := by rfl) (hgd : op.guard = none := by rfl) : wpList Pr ops Q (op :: rest) a W :=
 S_ 0 rfl t p x cs' j n S h ho lL hu ht hn h1 hj he hN hgd
theorem qw (t : TypeId) (p x : Tmp) (cs' : Array Value) (j n : Nat) (S : ae (St w P (b0 :: (some g, .cells cs t0 (0, 0)) :: bs) ow ts ro W)) (h : ∀ w1, ae (St w P (b0 :: (some g, .cells cs' t0 (0, 0)) :: bs) ow ts ro w1) → wpList Pr ops Q rest a w1)
  (ho : op.op = .store t (.tmp p) (.tmp x) := by rfl) (lL : a.eval (.tmp p) = .pointer (some ⟨g, j, none⟩) := by rfl) (hu : (a.eval (.tmp x)).cells.toList = (cs'.toList.drop j).take n := by rfl) (ht : (Pr.info? t).map (·.size) = some n := by kernel_rfl)
  (hn : ((cs'.toList.drop j).take n).length = n := by rfl) (h1 : ((cs'.toList.drop j).take n).all Value.oneCell' = true := by rfl) (hj : j + n ≤ cs.size := by first | decide | simp) (he : cs.toList.take j ++ (cs'.toList.drop j).take n ++ cs.toList.drop (j + n) = cs'.toList := by rfl) (hN : op.dst = none := by rfl) (hgd : op.guard = none := by rfl) : wpList Pr ops Q (op :: rest) a W :=
 S_ 1 rfl t p x cs' j n S h ho lL hu ht hn h1 hj he hN hgd
theorem S9 (t : TypeId) (p x : Tmp) (cs' : Array Value) (j n : Nat) (S : ae (St w P (b0 :: b1 :: (some g, .cells cs t0 (0, 0)) :: bs) ow ts ro W)) (h : ∀ w1, ae (St w P (b0 :: b1 :: (some g, .cells cs' t0 (0, 0)) :: bs) ow ts ro w1) → wpList Pr ops Q rest a w1)
  (ho : op.op = .store t (.tmp p) (.tmp x) := by rfl) (lL : a.eval (.tmp p) = .pointer (some ⟨g, j, none⟩) := by rfl) (hu : (a.eval (.tmp x)).cells.toList = (cs'.toList.drop j).take n := by rfl) (ht : (Pr.info? t).map (·.size) = some n := by kernel_rfl)
  (hn : ((cs'.toList.drop j).take n).length = n := by rfl) (h1 : ((cs'.toList.drop j).take n).all Value.oneCell' = true := by rfl) (hj : j + n ≤ cs.size := by first | decide | simp) (he : cs.toList.take j ++ (cs'.toList.drop j).take n ++ cs.toList.drop (j + n) = cs'.toList := by rfl) (hN : op.dst = none := by rfl) (hgd : op.guard = none := by rfl) : wpList Pr ops Q (op :: rest) a W :=
 S_ 2 rfl t p x cs' j n S h ho lL hu ht hn h1 hj he hN hgd
theorem ai9 (t : TypeId) (p x : Tmp) (cs' : Array Value) (j n : Nat) (S : ae (St w P (b0 :: b1 :: b2 :: (some g, .cells cs t0 (0, 0)) :: bs) ow ts ro W)) (h : ∀ w1, ae (St w P (b0 :: b1 :: b2 :: (some g, .cells cs' t0 (0, 0)) :: bs) ow ts ro w1) → wpList Pr ops Q rest a w1)
  (ho : op.op = .store t (.tmp p) (.tmp x) := by rfl) (lL : a.eval (.tmp p) = .pointer (some ⟨g, j, none⟩) := by rfl) (hu : (a.eval (.tmp x)).cells.toList = (cs'.toList.drop j).take n := by rfl) (ht : (Pr.info? t).map (·.size) = some n := by kernel_rfl)
  (hn : ((cs'.toList.drop j).take n).length = n := by rfl) (h1 : ((cs'.toList.drop j).take n).all Value.oneCell' = true := by rfl) (hj : j + n ≤ cs.size := by first | decide | simp) (he : cs.toList.take j ++ (cs'.toList.drop j).take n ++ cs.toList.drop (j + n) = cs'.toList := by rfl) (hN : op.dst = none := by rfl) (hgd : op.guard = none := by rfl) : wpList Pr ops Q (op :: rest) a W :=
 S_ 3 rfl t p x cs' j n S h ho lL hu ht hn h1 hj he hN hgd
theorem ai_ (t : TypeId) (p x : Tmp) (cs' : Array Value) (j n : Nat) (S : ae (St w P (b0 :: b1 :: b2 :: b3 :: b4 :: (some g, .cells cs t0 (0, 0)) :: bs) ow ts ro W)) (h : ∀ w1, ae (St w P (b0 :: b1 :: b2 :: b3 :: b4 :: (some g, .cells cs' t0 (0, 0)) :: bs) ow ts ro w1) → wpList Pr ops Q rest a w1)
  (ho : op.op = .store t (.tmp p) (.tmp x) := by rfl) (lL : a.eval (.tmp p) = .pointer (some ⟨g, j, none⟩) := by rfl) (hu : (a.eval (.tmp x)).cells.toList = (cs'.toList.drop j).take n := by rfl) (ht : (Pr.info? t).map (·.size) = some n := by kernel_rfl)
  (hn : ((cs'.toList.drop j).take n).length = n := by rfl) (h1 : ((cs'.toList.drop j).take n).all Value.oneCell' = true := by rfl) (hj : j + n ≤ cs.size := by first | decide | simp) (he : cs.toList.take j ++ (cs'.toList.drop j).take n ++ cs.toList.drop (j + n) = cs'.toList := by rfl) (hN : op.dst = none := by rfl) (hgd : op.guard = none := by rfl) : wpList Pr ops Q (op :: rest) a W :=
 S_ 5 rfl t p x cs' j n S h ho lL hu ht hn h1 hj he hN hgd
theorem lK (N : Option Tmp) {f : FuncId} {fn : Func} (hf : Pr.funcs[f]? = some fn) {ar : Array Operand} {Ht : Array TypeId} {args : Array Value} {post : Ending → World → Prop} (hc : Calls Pr f args W post)
  (h : ∀ e w1, post e w1 → ∃ v, e = .returned v ∧ wpList Pr ops Q rest (a.put N v) w1) (hd : op.dst = N := by rfl) (hg : op.guard = none := by rfl) (hop : op.op = .call { callee := .value (.func f), args := ar, argTypes := Ht } := by rfl)
  (hname : (fn.name == "runtime.NumGoroutine") = false := by kernel_rfl) (hb : fn.body.isSome = true := by rfl) (hargs : ar.map a.eval = args := by ((try simp only [List.map_toArray, List.map_cons, List.map_nil]); first | done | rfl)) : wpList Pr ops Q (op :: rest) a W :=
 mf N hd hg hf hname hb args hop hargs (hc.mono h)
theorem cZ (N : Option Tmp) {f : FuncId} {fn : Func} (hf : Pr.funcs[f]? = some fn) {ar : Array Operand} {Ht : Array TypeId} {args : Array Value} {v : Value} (S : ae (St w P bs ow ts ro W)) (hc : Calls Pr f args W fun e w' => e = .returned v ∧ Below W.heap.size W w')
  (h : ∀ w1, ae (St w P bs ow ts ro w1) → wpList Pr ops Q rest (a.put N v) w1) (hd : op.dst = N := by rfl) (hg : op.guard = none := by rfl) (hop : op.op = .call { callee := .value (.func f), args := ar, argTypes := Ht } := by rfl)
  (hname : (fn.name == "runtime.NumGoroutine") = false := by kernel_rfl) (hb : fn.body.isSome = true := by rfl) (hargs : ar.map a.eval = args := by ((try simp only [List.map_toArray, List.map_cons, List.map_nil]); first | done | rfl)) : wpList Pr ops Q (op :: rest) a W :=
 mf N hd hg hf hname hb args hop hargs (hc.mono fun e w1 ⟨he, hb⟩ => ⟨v, he, h w1 ⟨S.out.call hb⟩⟩)
theorem uO (N : Option Tmp) {f : FuncId} {fn : Func} (hf : Pr.funcs[f]? = some fn) {ar : Array Operand} {Ht : Array TypeId} {args : Array Value} {l : List ai} {F : Option Addr → Nat → Value} (S : ae (St w P bs ow ts ro W))
  (hc : Calls Pr f args W fun e w' => ∃ A c, e = .returned (F A c) ∧ Kd.N k26 26 w' W.heap.size (fun k => Ok w P (keys bs ow) k ∨ W.heap.size ≤ k) (.slice A l.length c) l ∧ Below W.heap.size W w')
  (h : ∀ A c w1, ae (St w P bs ow ((.slice A l.length c, l) :: ts) ro w1) → wpList Pr ops Q rest (a.put N (F A c)) w1) (hd : op.dst = N := by rfl) (hg : op.guard = none := by rfl) (hop : op.op = .call { callee := .value (.func f), args := ar, argTypes := Ht } := by rfl)
  (hname : (fn.name == "runtime.NumGoroutine") = false := by kernel_rfl) (hb : fn.body.isSome = true := by rfl) (hargs : ar.map a.eval = args := by ((try simp only [List.map_toArray, List.map_cons, List.map_nil]); first | done | rfl)) : wpList Pr ops Q (op :: rest) a W :=
 mf N hd hg hf hname hb args hop hargs (hc.mono fun e w1 ⟨A, c, he, h1, hb⟩ => ⟨_, he, h A c w1 ⟨S.out.res (Kd.qY (base' := 0) h1) hb⟩⟩)
theorem ak3 (N : Option Tmp) {f : FuncId} {fn : Func} (hf : Pr.funcs[f]? = some fn) {ar : Array Operand} {Ht : Array TypeId} {args : Array Value} {l : List ai} {F : Option Addr → Nat → Value} (S : ae (St w P bs ow ts ro W))
  (hc : Calls Pr f args W fun e w' => ∃ A c, e = .returned (F A c) ∧ Kd.V k26 26 w' W.heap.size (fun k => Ok w P (keys bs ow) k ∨ W.heap.size ≤ k) (.slice A l.length c) l ∧ Below W.heap.size W w')
  (h : ∀ A c w1, ae (St w P bs ow ((.slice A l.length c, l) :: ts) ro w1) → wpList Pr ops Q rest (a.put N (F A c)) w1) (hd : op.dst = N := by rfl) (hg : op.guard = none := by rfl) (hop : op.op = .call { callee := .value (.func f), args := ar, argTypes := Ht } := by rfl)
  (hname : (fn.name == "runtime.NumGoroutine") = false := by kernel_rfl) (hb : fn.body.isSome = true := by rfl) (hargs : ar.map a.eval = args := by ((try simp only [List.map_toArray, List.map_cons, List.map_nil]); first | done | rfl)) : wpList Pr ops Q (op :: rest) a W :=
 mf N hd hg hf hname hb args hop hargs (hc.mono fun e w1 ⟨A, c, he, h1, hb⟩ => ⟨_, he, h A c w1 ⟨S.out.res h1 hb⟩⟩)
theorem PI (N : Option Tmp) {f : FuncId} {fn : Func} (hf : Pr.funcs[f]? = some fn) {ar : Array Operand} {Ht : Array TypeId} {args : Array Value} {l : List ai} {F : Option Addr → Nat → Value} (S : ae (St w P bs [] ts ro W))
  (hc : Calls Pr f args W fun e w' => ∃ A c, e = .returned (F A c) ∧ Kd.N k26 26 w' W.heap.size (fun k => Ok w P (keys bs []) k ∨ W.heap.size ≤ k) (.slice A l.length c) l ∧ Below W.heap.size W w')
  (h : ∀ A c w1, ae (St w P bs [(.slice A l.length c, l)] ts ro w1) → wpList Pr ops Q rest (a.put N (F A c)) w1) (hd : op.dst = N := by rfl) (hg : op.guard = none := by rfl) (hop : op.op = .call { callee := .value (.func f), args := ar, argTypes := Ht } := by rfl)
  (hname : (fn.name == "runtime.NumGoroutine") = false := by kernel_rfl) (hb : fn.body.isSome = true := by rfl) (hargs : ar.map a.eval = args := by ((try simp only [List.map_toArray, List.map_cons, List.map_nil]); first | done | rfl)) : wpList Pr ops Q (op :: rest) a W :=
 mf N hd hg hf hname hb args hop hargs (hc.mono fun e w1 ⟨A, c, he, h1, hb⟩ => ⟨_, he, h A c w1 ⟨S.out.CO h1 hb⟩⟩)
end
section
variable {w W : World} {P : Nat → Prop} {bs : List (Option Nat × Obj)} {ow : List (Value × List ai)} {ts : List (Value × List ai)} {ro : List (Addr × Value)} {g : Nat} {t : TypeId} {v0 v1 v2 v3 v4 v5 v6 : Value} {a0 a1 a2 a3 a4 a5 a6 : Addr}
theorem St.fF (S : ae (St w P bs ow ts ro W)) (hm : (some g, .cells #[v0, v1, v2, v3, v4, v5, v6] t (0, 0)) ∈ bs) :
  W.cell? ⟨g, 0, none⟩ = some v0 ∧ W.cell? ⟨g, 1, none⟩ = some v1 ∧ W.cell? ⟨g, 2, none⟩ = some v2 ∧ W.cell? ⟨g, 3, none⟩ = some v3 ∧ W.cell? ⟨g, 4, none⟩ = some v4 ∧ W.cell? ⟨g, 5, none⟩ = some v5 ∧ W.cell? ⟨g, 6, none⟩ = some v6 :=
 ⟨S.out.at hm 0, S.out.at hm 1, S.out.at hm 2, S.out.at hm 3, S.out.at hm 4, S.out.at hm 5, S.out.at hm 6⟩
theorem St.at4 (S : ae (St w P bs ow ts ro W)) (hm : (some g, .cells #[v0, v1, v2, v3] t (0, 0)) ∈ bs) :
  W.cell? ⟨g, 0, none⟩ = some v0 ∧ W.cell? ⟨g, 1, none⟩ = some v1 ∧ W.cell? ⟨g, 2, none⟩ = some v2 ∧ W.cell? ⟨g, 3, none⟩ = some v3 :=
 ⟨S.out.at hm 0, S.out.at hm 1, S.out.at hm 2, S.out.at hm 3⟩
theorem St.yA (S : ae (St w P bs ow ts ((a0, v0) :: (a1, v1) :: (a2, v2) :: (a3, v3) :: (a4, v4) :: (a5, v5) :: (a6, v6) :: ro) W)) :
  W.cell? a0 = some v0 ∧ W.cell? a1 = some v1 ∧ W.cell? a2 = some v2 ∧ W.cell? a3 = some v3 ∧ W.cell? a4 = some v4 ∧ W.cell? a5 = some v5 ∧ W.cell? a6 = some v6 :=
 ⟨(S.out.cell _ (.head _)).1, (S.out.cell _ bf).1, (S.out.cell _ gy).1, (S.out.cell _ jy).1, (S.out.cell _ su).1, (S.out.cell _ vH).1, (S.out.cell _ yM).1⟩
end
section
variable {Pr : Program} {md : Region.Mode} {ops : Array Oper} {Q : Exit → Act → World → Prop} {S : World → Prop} {ds : List Nat}
theorem dO (N : Tmp) {fuel : Nat} {l : Array Bool} {b a' : Act} {v : Value} {w : World} (h : di Pr md ops Q S ds fuel l a' w) (ha : Act.put b (some N) v = a' := by simp only [Act.put, List.setIfInBounds_toArray, List.set_cons_zero, List.set_cons_succ, lD, lC]; rfl) : di Pr md ops Q S ds fuel l (Act.put b (some N) v) w := oI ha h
end
theorem aqY {Pr : Program} {ops : Array Oper} {Q : Exit → Act → World → Prop} {oi : Oper} {N : Option Tmp} {a : Act} {w : World} {K : Act → World → Prop} {f : FuncId} {fn : Func} {ar : Array Operand} {ts : Array TypeId} (hf : Pr.funcs[f]? = some fn) (args : Array Value) (h : Calls Pr f args w fun e w' => ∃ v, e = .returned v ∧ K (a.put N v) w')
  (hname : (fn.name == "runtime.NumGoroutine") = false := by kernel_rfl) (hb : fn.body.isSome = true := by rfl) (hw : Region.wanted oi (yielded ops a.tmps) = true := by rfl) (hN : oi.dst = N := by rfl) (hop : oi.op = .call { callee := .value (.func f), args := ar, argTypes := ts } := by rfl) (hargs : ar.map a.eval = args := by ((try simp only [List.map_toArray, List.map_cons, List.map_nil]); first | done | rfl)) : if Region.wanted oi (yielded ops a.tmps) = true then Oper.wp Pr oi a w K Q else K (a.put N undef) w :=
 fO hf hname hb args hw hN hop hargs h
theorem iH {Pr : Program} {ops : Array Oper} {md : Region.Mode} {Q : Exit → Act → World → Prop} {S : World → Prop} {ds : List Nat} {T : Bool × List (List Nat × List Nat)} {fuel : Nat} {l : Array Bool} {a : Act} {w : World} {oi : Oper} (i : Nat) (N : Option Tmp) (l' : Array Bool) (HT : ae (je md ops = T)) (h : ∀ K : Act → World → Prop, Shut (∀ a' w', S w' → (S w' → di Pr md ops Q S ds fuel l' a' w') → K a' w') → if Region.wanted oi (yielded ops a.tmps) = true then Oper.wp Pr oi a w K Q else K (a.put N undef) w)
  (hi : ops[i]? = some oi := by rfl) (hN : oi.dst = N := by rfl) (hc : (zW T.2 l.toList == [i] && l.toList.set i true == l'.toList) = true := by kernel_rfl) (hd : i ∉ ds := by decide) : di Pr md ops Q S ds (fuel + 1) l a w :=
 SK l' hi hN (zU HT.out hc) hd h
theorem sK {Pr : Program} {ops : Array Oper} {md : Region.Mode} {Q : Exit → Act → World → Prop} {S : World → Prop} {ds : List Nat} {T : Bool × List (List Nat × List Nat)} {fuel : Nat} {l : Array Bool} {a : Act} {w : World} {oi : Oper} (i : Nat) (N : Option Tmp) (l' : Array Bool) (HT : ae (je md ops = T)) (h : ∀ K : Act → World → Prop, Shut (∀ a' w', di Pr md ops Q S ds fuel l' a' w' → K a' w') → if Region.wanted oi (yielded ops a.tmps) = true then Oper.wp Pr oi a w K Q else K (a.put N undef) w)
  (hi : ops[i]? = some oi := by rfl) (hN : oi.dst = N := by rfl) (hc : (zW T.2 l.toList == [i] && l.toList.set i true == l'.toList) = true := by kernel_rfl) (hd : i ∈ ds := by decide) : di Pr md ops Q S ds (fuel + 1) l a w :=
 V6 l' hi hN (zU HT.out hc) hd h
section
variable {α : Type} {d : Kd α} {e : TypeId} {w : World} {P : Nat → Prop} {bs bs' : List (Option Nat × Obj)} {ow : List (Value × List ai)} {ts : List (Value × List ai)} {ro : List (Addr × Value)} {W W1 : World} {b0 : Nat} {o o1 : Obj} {v v1 : Value} {xs : List α} {ok : Nat → Prop}
def KR (d : Kd α) (e : TypeId) (base : Nat) (v : Value) (xs : List α) (o : Obj) : Prop := ∀ W : World, (∀ g, v.ownBlock = some g → W.heap[g]? = some o) → d.R e W base (fun k => some k = v.ownBlock) v xs
theorem Pz {b' : Nat} (hE : d.E = []) (h : d.R e W1 b0 ok v xs) (hb : b' ≤ b0) : ∃ o, (∀ g, v.ownBlock = some g → W1.heap[g]? = some o) ∧ KR d e b' v xs o := by
 have ht := Kd.oQ (Kd.H9 hE h) hb
 cases hv : v.ownBlock with
 | none => exact ⟨.cells #[] 0 (0, 0), fun g hg => (by cases hg), fun W hW => Kd.zO ht (fun k hk => (by rw [hv] at hk; cases hk))⟩
 | some g =>
  obtain ⟨cells, hc⟩ := Kd.Mc h g hv
  refine ⟨_, fun g' hg => (by injection hg with hg; rw [← hg]; exact hc), fun W hW => Kd.zO ht (fun k hk _ => ?_)⟩
  rw [hv] at hk
  injection hk with hk
  rw [hk, hc]
  exact hW g hv
theorem St.WA (hE : d.E = []) (S : St w P bs ow ts ro W) (h : d.R e W1 W.heap.size ok v xs) (hb : Below W.heap.size W W1) : ∃ o, St w P ((v.ownBlock, o) :: bs) ow ts ro W1 ∧ KR d e w.heap.size v xs o := by
 obtain ⟨o, h1, h2⟩ := Pz hE h S.below.size
 exact ⟨o, S.aaf v.ownBlock (fun g hg => ⟨Kd.D_ h g hg, h1 g hg⟩) hb, h2⟩
theorem Qb (d : Kd α) (e : TypeId) (base : Nat) : KR d e base (.slice none 0 0) [] (.cells #[] 0 (0, 0)) := fun _ _ => Kd.t_ _ _ _ _ _
theorem St.noK (S : St w P bs ow ts ro W) : St w P (((Value.slice none 0 0).ownBlock, .cells #[] 0 (0, 0)) :: bs) ow ts ro W := S.aaf none (fun _ h => by cases h) (Below.refl _ _)
theorem Qa {base : Nat} (HI : KR d e base v xs o) (S : St w P bs ow ts ro W) (hm : (v.ownBlock, o) ∈ bs) : d.R e W base (fun k => some k = v.ownBlock) v xs := HI W (S.blk _ hm)
theorem agP {base : Nat} {A : Option Addr} {c : Nat} (HI : KR d e base (.slice A xs.length c) xs o) (S : St w P bs ow ts ro W) (hm : ((Value.slice A xs.length c).ownBlock, o) ∈ bs) : d.C W A xs.length xs ∧ xs.length ≤ c :=
 have h := Kd.eX (Qa HI S hm)
 ⟨h.2.2, h.2.1⟩
theorem St.perm (hp : bs.Perm bs') (S : St w P bs ow ts ro W) : St w P bs' ow ts ro W := by
 have hk : (keys bs ow).Perm (keys bs' ow) := (hp.filterMap _).append_right _
 have hm : ∀ k, k ∈ keys bs' ow ↔ k ∈ keys bs ow := fun k => hk.symm.mem_iff
 have hO : ∀ k, Ok w P (keys bs ow) k → Ok w P (keys bs' ow) k := fun k h => ⟨h.1, fun h2 => h.2 ((hm k).1 h2)⟩
 exact ⟨S.below, fun x hx => S.blk x (hp.symm.mem_iff.1 hx), fun k hk => S.new k ((hm k).1 hk), hk.nodup_iff.1 S.nd, fun t ht => Kd.iw (S.tree t ht) hO, fun r hr => Kd.iZ (S.own r hr) (fun k h => h.imp (hO k) id), fun c hc => ⟨(S.cell c hc).1, fun h => (S.cell c hc).2 ((hm _).1 h)⟩⟩
variable {x b1 b2 b3 b4 b5 b6 : Option Nat × Obj}
theorem St.wK (S : St w P (b1 :: x :: bs) ow ts ro W) : St w P (x :: b1 :: bs) ow ts ro W := S.perm (List.perm_middle (l₁ := [b1]))
theorem St.OI (S : St w P (b1 :: b2 :: x :: bs) ow ts ro W) : St w P (x :: b1 :: b2 :: bs) ow ts ro W := S.perm (List.perm_middle (l₁ := [b1, b2]))
theorem St.uN (S : St w P (b1 :: b2 :: b3 :: x :: bs) ow ts ro W) : St w P (x :: b1 :: b2 :: b3 :: bs) ow ts ro W := S.perm (List.perm_middle (l₁ := [b1, b2, b3]))
end
section
variable {α : Type} {d : Kd α} {e : TypeId} {Pr : Program} {ops : Array Oper} {rest : List Oper} {op : Oper} {a : Act} {Q : Exit → Act → World → Prop} {Kc : Act → World → Prop} {w W : World} {P : Nat → Prop} {bs : List (Option Nat × Obj)} {ow : List (Value × List ai)} {ts : List (Value × List ai)} {ro : List (Addr × Value)} {v : Value} {xs : List α} {o : Obj}
theorem p_ (d : Kd α) (e : TypeId) (hE : d.E = []) (N : Tmp) (S : ae (St w P bs ow ts ro W)) (h : ∀ A c o w1, ae (St w P (((Value.slice A 0 c).ownBlock, o) :: bs) ow ts ro w1) → ae (KR d e w.heap.size (.slice A 0 c) [] o) → wpList Pr ops Q rest (a.put op.dst (.slice A 0 c)) w1)
  (hd : op.dst = some N := by rfl) (hgd : op.guard = none := by rfl) (hrun : (execOp a.eval op).run Pr W = .ok (.value (.slice (some ⟨W.heap.size, 0, none⟩) 0 0)) (W.alloc (.cells #[] e)) := by first | (go_simp; done) | (go_simp; rfl)) : wpList Pr ops Q (op :: rest) a W :=
 Kd.xk d (w0 := W) W.heap.size e hgd hd (xs := ([] : List α)) (inner := []) (ok := fun _ => True) (gz := fun _ => True) hrun (dC.none _ _) (fun _ hk => hk) trivial (Below.refl _ _) (Nat.le_refl _) (by simp) (fun v1 w1 hR hb hg _ => by
  obtain ⟨A, c, rfl⟩ := Kd.ig hR
  obtain ⟨o, S1, HI⟩ := S.out.WA hE hR (vC hg)
  exact h A c o w1 ⟨S1⟩ ⟨HI⟩)
theorem xO (d : Kd α) (e : TypeId) (hE : d.E = []) (s x : Tmp) (t : TypeId) (z : Value) (bytes : Nat) (ht : Pr.underlying t = some (.slice e)) (hinfo : (Pr.info? e).map (fun i => (i.zero, i.size, i.bytes)) = some (some z, d.sz, bytes)) (hz : z.cells.size = d.sz) (hs0 : 0 < d.sz) (hb0 : 0 < bytes) (hbb : bytes ≤ 1000)
  (S : ae (St w P ((v.ownBlock, o) :: bs) ow ts ro W)) (hI : ae (KR d e w.heap.size v xs o)) (y : α) (cs : List Value) (hM : ∀ W b ok, d.M W b ok y cs) (hl : xs.length ≤ 10000000)
  (h : ∀ A1 c1 o1 w1, ae (St w P (((Value.slice A1 (xs ++ [y]).length c1).ownBlock, o1) :: bs) ow ts ro w1) → ae (KR d e w.heap.size (.slice A1 (xs ++ [y]).length c1) (xs ++ [y]) o1) → wpList Pr ops Q rest (a.put op.dst (.slice A1 (xs ++ [y]).length c1)) w1)
  (hgd : op.guard = none := by rfl) (ho : op.op = .call { callee := .builtin .append, args := #[.tmp s, .tmp x], argTypes := #[t, t] } := by rfl) (hs : a.eval (.tmp s) = v := by rfl) (hx : a.eval (.tmp x) = .slice (some ⟨W.heap.size, 0, none⟩) 1 1 := by first | rfl | (go_simp; rfl)) :
  wpList Pr ops Q (op :: rest) a (W.alloc (.cells cs.toArray e)) := by
 have hR := hI.out W (S.out.blk _ List.mem_cons_self)
 refine Kd.BB d (w0 := w) w.heap.size hgd (.tmp s) (.tmp x) t e z bytes ho ht hinfo hz hs0 hb0 v xs y cs (fun _ => True) (fun _ => False) hs hx (hM _ _ _) (fun _ hk => hk.elim) (fun _ _ => trivial) (Kd.l_ hR (fun _ _ => trivial)) S.out.below S.out.below.size
  (Nat.le_trans (Nat.mul_le_mul (show xs.length + 1 ≤ 10000001 by omega) hbb) (by decide)) ?_
 intro v1 w1 hr hb hg hat
 obtain ⟨A1, c1, rfl⟩ := Kd.ig hr
 obtain ⟨o1, h1, h2⟩ := Pz hE hr (Nat.le_refl _)
 exact h A1 c1 o1 w1 ⟨S.out.Eu hb hg hat h1⟩ ⟨h2⟩
theorem Qv (d : Kd α) (e : TypeId) (hE : d.E = []) (s x : Tmp) (t : TypeId) (z : Value) (bytes : Nat) (ht : Pr.underlying t = some (.slice e)) (hinfo : (Pr.info? e).map (fun i => (i.zero, i.size, i.bytes)) = some (some z, d.sz, bytes)) (hz : z.cells.size = d.sz) (hs0 : 0 < d.sz) (hb0 : 0 < bytes) (hbb : bytes ≤ 1000)
  (S : ae (St w P ((v.ownBlock, o) :: bs) ow ts ro W)) (hI : ae (KR d e w.heap.size v xs o)) (y : α) (cs : List Value) (hM : ∀ W b ok, d.M W b ok y cs) (hl : xs.length ≤ 10000000)
  (h : ∀ A1 c1 o1 w1, ae (St w P (((Value.slice A1 (xs ++ [y]).length c1).ownBlock, o1) :: bs) ow ts ro w1) → ae (KR d e w.heap.size (.slice A1 (xs ++ [y]).length c1) (xs ++ [y]) o1) → Kc (a.put op.dst (.slice A1 (xs ++ [y]).length c1)) w1)
  (hw : Region.wanted op (yielded ops a.tmps) = true := by rfl) (ho : op.op = .call { callee := .builtin .append, args := #[.tmp s, .tmp x], argTypes := #[t, t] } := by rfl) (hs : a.eval (.tmp s) = v := by rfl) (hx : a.eval (.tmp x) = .slice (some ⟨W.heap.size, 0, none⟩) 1 1 := by first | rfl | (go_simp; rfl)) :
  if Region.wanted op (yielded ops a.tmps) = true then Oper.wp Pr op a (W.alloc (.cells cs.toArray e)) Kc Q else Kc (a.put op.dst undef) (W.alloc (.cells cs.toArray e)) := by
 have hR := hI.out W (S.out.blk _ List.mem_cons_self)
 refine Kd.FQ d (w0 := w) w.heap.size hw (.tmp s) (.tmp x) t e z bytes ho ht hinfo hz hs0 hb0 v xs y cs (fun _ => True) (fun _ => False) hs hx (hM _ _ _) (fun _ hk => hk.elim) (fun _ _ => trivial) (Kd.l_ hR (fun _ _ => trivial)) S.out.below S.out.below.size
  (Nat.le_trans (Nat.mul_le_mul (show xs.length + 1 ≤ 10000001 by omega) hbb) (by decide)) ?_
 intro v1 w1 hr hb hg hat
 obtain ⟨A1, c1, rfl⟩ := Kd.ig hr
 obtain ⟨o1, h1, h2⟩ := Pz hE hr (Nat.le_refl _)
 exact h A1 c1 o1 w1 ⟨S.out.Eu hb hg hat h1⟩ ⟨h2⟩
theorem Z8 (d : Kd α) (e : TypeId) (hE : d.E = []) (s x : Tmp) (t : TypeId) (z : Value) (bytes : Nat) (ht : Pr.underlying t = some (.slice e)) (hinfo : (Pr.info? e).map (fun i => (i.zero, i.size, i.bytes)) = some (some z, d.sz, bytes)) (hz : z.cells.size = d.sz) (hs0 : 0 < d.sz) (hb0 : 0 < bytes) (hbb : bytes ≤ 1000)
  (S : ae (St w P ((v.ownBlock, o) :: bs) ow ts ro W)) (hI : ae (KR d e w.heap.size v xs o)) {A : Option Addr} {c : Nat} (ys : List α) (hC : d.C W A ys.length ys) (hK : ∀ W b ok y cs, d.K W y cs → d.M W b ok y cs) (hl : xs.length + ys.length ≤ 1000000000)
  (h : ∀ A1 c1 o1 w1, ae (St w P (((Value.slice A1 (xs ++ ys).length c1).ownBlock, o1) :: bs) ow ts ro w1) → ae (KR d e w.heap.size (.slice A1 (xs ++ ys).length c1) (xs ++ ys) o1) → wpList Pr ops Q rest (a.put op.dst (.slice A1 (xs ++ ys).length c1)) w1)
  (hgd : op.guard = none := by rfl) (ho : op.op = .call { callee := .builtin .append, args := #[.tmp s, .tmp x], argTypes := #[t, t] } := by rfl) (hs : a.eval (.tmp s) = v := by rfl) (hx : a.eval (.tmp x) = .slice A ys.length c := by rfl) :
  wpList Pr ops Q (op :: rest) a W := by
 have hR := hI.out W (S.out.blk _ List.mem_cons_self)
 refine Kd.uu d (Rr := d.K W) (w0 := w) w.heap.size hgd (.tmp s) (.tmp x) t e z bytes ho ht hinfo hz hs0 hb0 v xs ys A ys.length c (fun _ => True) (fun _ => False) hs hx (Kd.l_ hR (fun _ _ => trivial)) hC (fun y cs h => hK _ _ _ y cs h) (fun _ hk => hk.elim) (fun _ _ => trivial) S.out.below S.out.below.size
  (Nat.le_trans (Nat.mul_le_mul hl hbb) (by decide)) ?_
 intro v1 w1 hr hb hg hat
 obtain ⟨A1, c1, rfl⟩ := Kd.ig hr
 obtain ⟨o1, h1, h2⟩ := Pz hE hr (Nat.le_refl _)
 exact h A1 c1 o1 w1 ⟨S.out.Eu hb hg hat h1⟩ ⟨h2⟩
end
section
variable {w W W1 : World} {P : Nat → Prop} {bs : List (Option Nat × Obj)} {ow : List (Value × List ai)} {ts : List (Value × List ai)} {ro : List (Addr × Value)}
theorem St.akA (new : List (Option Nat × Obj)) (S : St w P bs ow ts ro W) (hk : ∀ p, p ∈ new → ∀ g, p.1 = some g → W.heap.size ≤ g ∧ W1.heap[g]? = some p.2) (hnd : (new.filterMap (·.1)).Nodup) (hb : Below W.heap.size W W1) : St w P (new ++ bs) ow ts ro W1 := by
 have ke : keys (new ++ bs) ow = new.filterMap (·.1) ++ keys bs ow := by unfold keys; rw [List.filterMap_append, List.append_assoc]
 have hn : ∀ k, k ∈ new.filterMap (·.1) → W.heap.size ≤ k ∧ k < W1.heap.size := fun k h => by
  obtain ⟨p, hp, he⟩ := List.mem_filterMap.1 h
  exact ⟨(hk p hp k he).1, gU (hk p hp k he).2⟩
 have hnot : ∀ k, k < W.heap.size → k ∉ keys bs ow → k ∉ keys (new ++ bs) ow := fun k h1 h2 h3 => by
  rw [ke] at h3
  rcases List.mem_append.1 h3 with h | h
  ·have := (hn k h).1; omega
  ·exact h2 h
 refine ⟨au S.below hb, fun p hp g hg => ?_, fun k h => ?_, ?_, fun t ht => ?_, fun r hr => ?_, fun c hc => ?_⟩
 ·rcases List.mem_append.1 hp with h | h
  ·exact (hk p h g hg).2
  ·exact aW (S.blk p h g hg) hb
 ·rw [ke] at h
  rcases List.mem_append.1 h with h | h
  ·exact ⟨Nat.le_trans S.below.size (hn k h).1, (hn k h).2⟩
  ·exact ⟨(S.new k h).1, Nat.lt_of_lt_of_le (S.new k h).2 hb.size⟩
 ·rw [ke]
  refine List.nodup_append.2 ⟨hnd, S.nd, fun x hx y hy => ?_⟩
  rintro rfl
  have := (hn x hx).1
  have := S.lt hy
  omega
 ·exact Kd.iw (Kd.kH (Kd.Ea (S.tree t ht)) hb) (fun k h => ⟨h.1.1, hnot k h.2 h.1.2⟩)
 ·exact Kd.iZ (Kd.pX (Kd.D9 (S.own r hr)) hb) (fun k h => h.1.imp (fun h1 => ⟨h1.1, hnot k h.2 h1.2⟩) id)
 ·exact ⟨(hb.cell (World.block_lt_of_cell? W _ (S.cell c hc).1)).trans (S.cell c hc).1, hnot _ (World.block_lt_of_cell? W _ (S.cell c hc).1) (S.cell c hc).2⟩
structure Two {α β : Type} (d : Kd α) (e : TypeId) (d' : Kd β) (e' : TypeId) (w w' : World) (v : Value) (l : List α) (v' : Value) (l' : List β) (o o' : Obj) : Prop where
 one : KR d e w.heap.size v l o
 two : KR d' e' w.heap.size v' l' o'
 at1 : ∀ g, v.ownBlock = some g → w.heap.size ≤ g ∧ w'.heap[g]? = some o
 at2 : ∀ g, v'.ownBlock = some g → w.heap.size ≤ g ∧ w'.heap[g]? = some o'
 ne : ∀ g, v.ownBlock = some g → v'.ownBlock ≠ some g
theorem EF {α : Type} {d : Kd α} {e : TypeId} {b b' : Nat} {v : Value} {l : List α} {o : Obj} (h : KR d e b v l o) (hb : b' ≤ b) : KR d e b' v l o := fun W hW => Kd.oQ (h W hW) hb
theorem St.two {α β : Type} {d : Kd α} {e : TypeId} {d' : Kd β} {e' : TypeId} {v v' : Value} {l : List α} {l' : List β} {o o' : Obj} (S : St w P bs ow ts ro W) (h : Two d e d' e' W W1 v l v' l' o o') (hb : Below W.heap.size W W1) :
  St w P ((v.ownBlock, o) :: (v'.ownBlock, o') :: bs) ow ts ro W1 ∧ KR d e w.heap.size v l o ∧ KR d' e' w.heap.size v' l' o' := by
 refine ⟨S.akA [(v.ownBlock, o), (v'.ownBlock, o')] (fun p hp g hg => ?_) ?_ hb, EF h.one S.below.size, EF h.two S.below.size⟩
 ·simp only [List.mem_cons, List.not_mem_nil, or_false] at hp
  rcases hp with rfl | rfl
  ·exact h.at1 g hg
  ·exact h.at2 g hg
 ·cases h1 : v.ownBlock with
  | none => cases h2 : v'.ownBlock <;> simp
  | some g =>
   have hn := h.ne g h1
   cases h2 : v'.ownBlock with
   | none => simp
   | some g' =>
    rw [h2] at hn
    simp
    intro he
    exact hn (by rw [he])
theorem St.Y4 {α β : Type} {d : Kd α} {e : TypeId} {d' : Kd β} {e' : TypeId} {v v' : Value} {l : List α} {l' : List β} {o o' : Obj} (S : St w P ((v.ownBlock, o) :: (v'.ownBlock, o') :: bs) ow ts ro W) (h1 : KR d e w.heap.size v l o) (h2 : KR d' e' w.heap.size v' l' o') : Two d e d' e' w W v l v' l' o o' := by
 refine ⟨h1, h2, fun g hg => ⟨(S.new g (mem_keys (List.mem_cons_self) hg)).1, S.blk _ List.mem_cons_self g hg⟩, fun g hg => ⟨(S.new g (mem_keys (List.mem_cons_of_mem _ List.mem_cons_self) hg)).1, S.blk _ (List.mem_cons_of_mem _ List.mem_cons_self) g hg⟩, fun g hg hg2 => ?_⟩
 have hnd := S.nd
 unfold keys at hnd
 rw [List.filterMap_cons, List.filterMap_cons, hg, hg2] at hnd
 exact (List.nodup_cons.1 hnd).1 (by simp)
theorem St.We {α : Type} {d : Kd α} {e : TypeId} {v : Value} {l : List α} {o : Obj} (S : St w P bs ow ts ro W) (h : KR d e w.heap.size v l o) (hm : (v.ownBlock, o) ∈ bs) : d.R e W w.heap.size (fun _ => True) v l := Kd.l_ (Qa h S hm) (fun _ _ => trivial)
end
end Go.Proofs.YtfdmfgaiblfbhaaGreat.P
namespace Go.Proofs.YtfdmfgaiblfbhaaGreat.P
open Go.RowKit Go.Proofs.ag.aU Go.Proofs.ag.bK Go.Proofs.ag.cO
attribute [local go_sem] jG jR kQ lq jJ jK kT kU
def zh.f (az : Int) (aI : Int) (aC : Int) (aH : Int) : Option (Bool) := if az ≥ 0 then (if aC ≥ 1 then (if aC ≤ 10000 then (if az ≤ (wrap64 (10000 - aC)) then (if aI ≥ 0 then (if aH ≥ 1 then (if aH ≤ 10000 then (some (decide (aI ≤ (wrap64 (10000 - aH))))) else (some false)) else (some false)) else (some false)) else (some false)) else (some false)) else (some false)) else (some false)
theorem zh.calls (az : Int) (aI : Int) (aC : Int) (aH : Int) (r : Bool) (w : World) (h : zh.f az aI aC aH = some r) :
  Calls Tryz.prog 99 #[.agg #[.int .i64 az, .int .i64 aI, .int .i64 aC, .int .i64 aH]] w fun e w' => e = .returned (.bool r) ∧ Below w.heap.size w w' := by
 have Sj := Tryz.underlying23
 have HB := ae.mk (Below.refl w.heap.size w)
 have H : (if az ≥ 0 then (if aC ≥ 1 then (if aC ≤ 10000 then (if az ≤ (wrap64 (10000 - aC)) then (if aI ≥ 0 then (if aH ≥ 1 then (if aH ≤ 10000 then (some (decide (aI ≤ (wrap64 (10000 - aH))))) else (some false)) else (some false)) else (some false)) else (some false)) else (some false)) else (some false)) else (some false)) = some r := h
 clear h
 by_cases c2 : az ≥ 0
 ·rw [if_pos c2] at H
  have EO : decide (0 ≤ az) = true := decide_eq_true c2
  clear c2
  by_cases c3 : aC ≥ 1
  ·rw [if_pos c3] at H
   have sU : decide (1 ≤ aC) = true := decide_eq_true c3
   clear c3
   by_cases c4 : aC ≤ 10000
   ·rw [if_pos c4] at H
    have uH : decide (aC ≤ 10000) = true := decide_eq_true c4
    clear c4
    by_cases c5 : az ≤ (wrap64 (10000 - aC))
    ·rw [if_pos c5] at H
     have EP : decide (az ≤ (wrap64 (10000 - aC))) = true := decide_eq_true c5
     clear c5
     by_cases c6 : aI ≥ 0
     ·rw [if_pos c6] at H
      have BH : decide (0 ≤ aI) = true := decide_eq_true c6
      clear c6
      by_cases c7 : aH ≥ 1
      ·rw [if_pos c7] at H
       have yT : decide (1 ≤ aH) = true := decide_eq_true c7
       clear c7
       by_cases c8 : aH ≤ 10000
       ·rw [if_pos c8] at H
        have DL : decide (aH ≤ 10000) = true := decide_eq_true c8
        clear c8
        obtain rfl := Option.some.inj H
        go_enter Tryz.func99, Tryz.ntmps99
        go_wp2_with (((with_reducible refine aA (N := 1) rfl ?_); refine aV ?hg (N := 1) ?hd (cs := #[.int .i64 az, .int .i64 aI, .int .i64 aC, .int .i64 aH]) (t := 23) ?hr ?_; (case hd => rfl); (case hg => rfl); (case hr => (go_simp; done)); intro iV hg w9 hbox hb; have eG := ae.mk (hbox); replace HB := ae.mk (au (by repeat ((with_reducible exact HB.out))) hb); clear hb hbox hg; have MQ : w9.cell? ⟨iV, 0, none⟩ = some (.int .i64 az) := (af eG.out 0).trans rfl; have MR : w9.cell? ⟨iV, 1, none⟩ = some (.int .i64 aI) := (af eG.out 1).trans rfl; have MS : w9.cell? ⟨iV, 2, none⟩ = some (.int .i64 aC) := (af eG.out 2).trans rfl; have MV : w9.cell? ⟨iV, 3, none⟩ = some (.int .i64 aH) := (af eG.out 3).trans rfl; have Na := ah eG.out 0; have Nb := ah eG.out 1; have Nc := ah eG.out 2; have Nh := ah eG.out 3))
        go_ret
        exact ⟨by rfl, by repeat ((with_reducible exact HB.out))⟩
       ·rw [if_neg c8] at H
        have DL : decide (aH ≤ 10000) = false := decide_eq_false c8
        clear c8
        obtain rfl := Option.some.inj H
        go_enter Tryz.func99, Tryz.ntmps99
        go_wp2_with (((with_reducible refine aA (N := 1) rfl ?_); refine aV ?hg (N := 1) ?hd (cs := #[.int .i64 az, .int .i64 aI, .int .i64 aC, .int .i64 aH]) (t := 23) ?hr ?_; (case hd => rfl); (case hg => rfl); (case hr => (go_simp; done)); intro iV hg wO hbox hb; have eG := ae.mk (hbox); replace HB := ae.mk (au (by repeat ((with_reducible exact HB.out))) hb); clear hb hbox hg; have Uy : wO.cell? ⟨iV, 0, none⟩ = some (.int .i64 az) := (af eG.out 0).trans rfl; have Uz : wO.cell? ⟨iV, 1, none⟩ = some (.int .i64 aI) := (af eG.out 1).trans rfl; have UA : wO.cell? ⟨iV, 2, none⟩ = some (.int .i64 aC) := (af eG.out 2).trans rfl; have UB : wO.cell? ⟨iV, 3, none⟩ = some (.int .i64 aH) := (af eG.out 3).trans rfl; have UG := ah eG.out 0; have UH := ah eG.out 1; have UI := ah eG.out 2; have UJ := ah eG.out 3))
        go_ret
        exact ⟨by rfl, by repeat ((with_reducible exact HB.out))⟩
      ·rw [if_neg c7] at H
       have yT : decide (1 ≤ aH) = false := decide_eq_false c7
       clear c7
       obtain rfl := Option.some.inj H
       go_enter Tryz.func99, Tryz.ntmps99
       go_wp2_with (((with_reducible refine aA (N := 1) rfl ?_); refine aV ?hg (N := 1) ?hd (cs := #[.int .i64 az, .int .i64 aI, .int .i64 aC, .int .i64 aH]) (t := 23) ?hr ?_; (case hd => rfl); (case hg => rfl); (case hr => (go_simp; done)); intro iV hg uU hbox hb; have eG := ae.mk (hbox); replace HB := ae.mk (au (by repeat ((with_reducible exact HB.out))) hb); clear hb hbox hg; have MW : uU.cell? ⟨iV, 0, none⟩ = some (.int .i64 az) := (af eG.out 0).trans rfl; have MX : uU.cell? ⟨iV, 1, none⟩ = some (.int .i64 aI) := (af eG.out 1).trans rfl; have MZ : uU.cell? ⟨iV, 2, none⟩ = some (.int .i64 aC) := (af eG.out 2).trans rfl; have M_ : uU.cell? ⟨iV, 3, none⟩ = some (.int .i64 aH) := (af eG.out 3).trans rfl; have Nl := ah eG.out 0; have Np := ah eG.out 1; have Nq := ah eG.out 2; have Nr := ah eG.out 3))
       go_ret
       exact ⟨by rfl, by repeat ((with_reducible exact HB.out))⟩
     ·rw [if_neg c6] at H
      have BH : decide (0 ≤ aI) = false := decide_eq_false c6
      clear c6
      obtain rfl := Option.some.inj H
      go_enter Tryz.func99, Tryz.ntmps99
      go_wp2_with (((with_reducible refine aA (N := 1) rfl ?_); refine aV ?hg (N := 1) ?hd (cs := #[.int .i64 az, .int .i64 aI, .int .i64 aC, .int .i64 aH]) (t := 23) ?hr ?_; (case hd => rfl); (case hg => rfl); (case hr => (go_simp; done)); intro iV hg wP hbox hb; have eG := ae.mk (hbox); replace HB := ae.mk (au (by repeat ((with_reducible exact HB.out))) hb); clear hb hbox hg; have UC : wP.cell? ⟨iV, 0, none⟩ = some (.int .i64 az) := (af eG.out 0).trans rfl; have UD : wP.cell? ⟨iV, 1, none⟩ = some (.int .i64 aI) := (af eG.out 1).trans rfl; have UE : wP.cell? ⟨iV, 2, none⟩ = some (.int .i64 aC) := (af eG.out 2).trans rfl; have UF : wP.cell? ⟨iV, 3, none⟩ = some (.int .i64 aH) := (af eG.out 3).trans rfl; have UK := ah eG.out 0; have UL := ah eG.out 1; have UM := ah eG.out 2; have UN := ah eG.out 3))
      go_ret
      exact ⟨by rfl, by repeat ((with_reducible exact HB.out))⟩
    ·rw [if_neg c5] at H
     have EP : decide (az ≤ (wrap64 (10000 - aC))) = false := decide_eq_false c5
     clear c5
     obtain rfl := Option.some.inj H
     go_enter Tryz.func99, Tryz.ntmps99
     go_wp2_with (((with_reducible refine aA (N := 1) rfl ?_); refine aV ?hg (N := 1) ?hd (cs := #[.int .i64 az, .int .i64 aI, .int .i64 aC, .int .i64 aH]) (t := 23) ?hr ?_; (case hd => rfl); (case hg => rfl); (case hr => (go_simp; done)); intro iV hg ZF hbox hb; have eG := ae.mk (hbox); replace HB := ae.mk (au (by repeat ((with_reducible exact HB.out))) hb); clear hb hbox hg; have ad1 : ZF.cell? ⟨iV, 0, none⟩ = some (.int .i64 az) := (af eG.out 0).trans rfl; have ad3 : ZF.cell? ⟨iV, 1, none⟩ = some (.int .i64 aI) := (af eG.out 1).trans rfl; have ad4 : ZF.cell? ⟨iV, 2, none⟩ = some (.int .i64 aC) := (af eG.out 2).trans rfl; have ad5 : ZF.cell? ⟨iV, 3, none⟩ = some (.int .i64 aH) := (af eG.out 3).trans rfl; have aeG := ah eG.out 0; have aeH := ah eG.out 1; have aeI := ah eG.out 2; have aeJ := ah eG.out 3))
     go_ret
     exact ⟨by rfl, by repeat ((with_reducible exact HB.out))⟩
   ·rw [if_neg c4] at H
    have uH : decide (aC ≤ 10000) = false := decide_eq_false c4
    clear c4
    obtain rfl := Option.some.inj H
    go_enter Tryz.func99, Tryz.ntmps99
    go_wp2_with (((with_reducible refine aA (N := 1) rfl ?_); refine aV ?hg (N := 1) ?hd (cs := #[.int .i64 az, .int .i64 aI, .int .i64 aC, .int .i64 aH]) (t := 23) ?hr ?_; (case hd => rfl); (case hg => rfl); (case hr => (go_simp; done)); intro iV hg I4 hbox hb; have eG := ae.mk (hbox); replace HB := ae.mk (au (by repeat ((with_reducible exact HB.out))) hb); clear hb hbox hg; have ad6 : I4.cell? ⟨iV, 0, none⟩ = some (.int .i64 az) := (af eG.out 0).trans rfl; have ad7 : I4.cell? ⟨iV, 1, none⟩ = some (.int .i64 aI) := (af eG.out 1).trans rfl; have ad8 : I4.cell? ⟨iV, 2, none⟩ = some (.int .i64 aC) := (af eG.out 2).trans rfl; have ad9 : I4.cell? ⟨iV, 3, none⟩ = some (.int .i64 aH) := (af eG.out 3).trans rfl; have aeK := ah eG.out 0; have aeL := ah eG.out 1; have aeM := ah eG.out 2; have aeN := ah eG.out 3))
    go_ret
    exact ⟨by rfl, by repeat ((with_reducible exact HB.out))⟩
  ·rw [if_neg c3] at H
   have sU : decide (1 ≤ aC) = false := decide_eq_false c3
   clear c3
   obtain rfl := Option.some.inj H
   go_enter Tryz.func99, Tryz.ntmps99
   go_wp2_with (((with_reducible refine aA (N := 1) rfl ?_); refine aV ?hg (N := 1) ?hd (cs := #[.int .i64 az, .int .i64 aI, .int .i64 aC, .int .i64 aH]) (t := 23) ?hr ?_; (case hd => rfl); (case hg => rfl); (case hr => (go_simp; done)); intro iV hg I5 hbox hb; have eG := ae.mk (hbox); replace HB := ae.mk (au (by repeat ((with_reducible exact HB.out))) hb); clear hb hbox hg; have ad_ : I5.cell? ⟨iV, 0, none⟩ = some (.int .i64 az) := (af eG.out 0).trans rfl; have aea : I5.cell? ⟨iV, 1, none⟩ = some (.int .i64 aI) := (af eG.out 1).trans rfl; have aeb : I5.cell? ⟨iV, 2, none⟩ = some (.int .i64 aC) := (af eG.out 2).trans rfl; have aec : I5.cell? ⟨iV, 3, none⟩ = some (.int .i64 aH) := (af eG.out 3).trans rfl; have aeO := ah eG.out 0; have aeP := ah eG.out 1; have aeQ := ah eG.out 2; have aeR := ah eG.out 3))
   go_ret
   exact ⟨by rfl, by repeat ((with_reducible exact HB.out))⟩
 ·rw [if_neg c2] at H
  have EO : decide (0 ≤ az) = false := decide_eq_false c2
  clear c2
  obtain rfl := Option.some.inj H
  go_enter Tryz.func99, Tryz.ntmps99
  go_wp2_with (((with_reducible refine aA (N := 1) rfl ?_); refine aV ?hg (N := 1) ?hd (cs := #[.int .i64 az, .int .i64 aI, .int .i64 aC, .int .i64 aH]) (t := 23) ?hr ?_; (case hd => rfl); (case hg => rfl); (case hr => (go_simp; done)); intro iV hg LD hbox hb; have eG := ae.mk (hbox); replace HB := ae.mk (au (by repeat ((with_reducible exact HB.out))) hb); clear hb hbox hg; have aed : LD.cell? ⟨iV, 0, none⟩ = some (.int .i64 az) := (af eG.out 0).trans rfl; have aee : LD.cell? ⟨iV, 1, none⟩ = some (.int .i64 aI) := (af eG.out 1).trans rfl; have aef : LD.cell? ⟨iV, 2, none⟩ = some (.int .i64 aC) := (af eG.out 2).trans rfl; have aeg : LD.cell? ⟨iV, 3, none⟩ = some (.int .i64 aH) := (af eG.out 3).trans rfl; have aeS := ah eG.out 0; have aeT := ah eG.out 1; have aeU := ah eG.out 2; have aeV := ah eG.out 3))
  go_ret
  exact ⟨by rfl, by repeat ((with_reducible exact HB.out))⟩
def qR.f (az : Int) (aI : Int) (aC : Int) (aH : Int) : Option (Bool) := if az < 0 then (some false) else (if az > 10000 then (some false) else (if aI < 0 then (some false) else (if aI > 10000 then (some false) else (if aC > 0 then (if aC ≤ 10000 then (if aH > 0 then (if aH ≤ 10000 then (if (wrap64 (az + aC)) ≤ 10000 then (some (decide ((wrap64 (aI + aH)) ≤ 10000))) else (some false)) else (some false)) else (some false)) else (some false)) else (some false)))))
theorem qR.calls (az : Int) (aI : Int) (aC : Int) (aH : Int) (r : Bool) (w : World) (h : qR.f az aI aC aH = some r) :
  Calls Tryz.prog 75 #[.agg #[.int .i64 az, .int .i64 aI, .int .i64 aC, .int .i64 aH]] w fun e w' => e = .returned (.bool r) ∧ Below w.heap.size w w' := by
 have Sj := Tryz.underlying23
 have HB := ae.mk (Below.refl w.heap.size w)
 have H : (if az < 0 then (some false) else (if az > 10000 then (some false) else (if aI < 0 then (some false) else (if aI > 10000 then (some false) else (if aC > 0 then (if aC ≤ 10000 then (if aH > 0 then (if aH ≤ 10000 then (if (wrap64 (az + aC)) ≤ 10000 then (some (decide ((wrap64 (aI + aH)) ≤ 10000))) else (some false)) else (some false)) else (some false)) else (some false)) else (some false)))))) = some r := h
 clear h
 by_cases c2 : az < 0
 ·rw [if_pos c2] at H
  have EO : decide (az < 0) = true := decide_eq_true c2
  clear c2
  obtain rfl := Option.some.inj H
  go_enter Tryz.func75, Tryz.ntmps75
  go_wp2_with (((with_reducible refine aA (N := 1) rfl ?_); refine aV ?hg (N := 1) ?hd (cs := #[.int .i64 az, .int .i64 aI, .int .i64 aC, .int .i64 aH]) (t := 23) ?hr ?_; (case hd => rfl); (case hg => rfl); (case hr => (go_simp; done)); intro gJ hg w3 hbox hb; have dD := ae.mk (hbox); replace HB := ae.mk (au (by repeat ((with_reducible exact HB.out))) hb); clear hb hbox hg; have RI : w3.cell? ⟨gJ, 0, none⟩ = some (.int .i64 az) := (af dD.out 0).trans rfl; have RJ : w3.cell? ⟨gJ, 1, none⟩ = some (.int .i64 aI) := (af dD.out 1).trans rfl; have RN : w3.cell? ⟨gJ, 2, none⟩ = some (.int .i64 aC) := (af dD.out 2).trans rfl; have RP : w3.cell? ⟨gJ, 3, none⟩ = some (.int .i64 aH) := (af dD.out 3).trans rfl; have RS := ah dD.out 0; have RU := ah dD.out 1; have RX := ah dD.out 2; have RY := ah dD.out 3))
  go_ret
  exact ⟨by rfl, by repeat ((with_reducible exact HB.out))⟩
 ·rw [if_neg c2] at H
  have EO : decide (az < 0) = false := decide_eq_false c2
  clear c2
  by_cases c5 : az > 10000
  ·rw [if_pos c5] at H
   have EP : decide (10000 < az) = true := decide_eq_true c5
   clear c5
   obtain rfl := Option.some.inj H
   go_enter Tryz.func75, Tryz.ntmps75
   go_wp2_with (((with_reducible refine aA (N := 1) rfl ?_); refine aV ?hg (N := 1) ?hd (cs := #[.int .i64 az, .int .i64 aI, .int .i64 aC, .int .i64 aH]) (t := 23) ?hr ?_; (case hd => rfl); (case hg => rfl); (case hr => (go_simp; done)); intro gJ hg w6 hbox hb; have dD := ae.mk (hbox); replace HB := ae.mk (au (by repeat ((with_reducible exact HB.out))) hb); clear hb hbox hg; have X6 : w6.cell? ⟨gJ, 0, none⟩ = some (.int .i64 az) := (af dD.out 0).trans rfl; have X7 : w6.cell? ⟨gJ, 1, none⟩ = some (.int .i64 aI) := (af dD.out 1).trans rfl; have X8 : w6.cell? ⟨gJ, 2, none⟩ = some (.int .i64 aC) := (af dD.out 2).trans rfl; have X9 : w6.cell? ⟨gJ, 3, none⟩ = some (.int .i64 aH) := (af dD.out 3).trans rfl; have Yn := ah dD.out 0; have Yo := ah dD.out 1; have Yp := ah dD.out 2; have Yq := ah dD.out 3))
   go_ret
   exact ⟨by rfl, by repeat ((with_reducible exact HB.out))⟩
  ·rw [if_neg c5] at H
   have EP : decide (10000 < az) = false := decide_eq_false c5
   clear c5
   by_cases c8 : aI < 0
   ·rw [if_pos c8] at H
    have DL : decide (aI < 0) = true := decide_eq_true c8
    clear c8
    obtain rfl := Option.some.inj H
    go_enter Tryz.func75, Tryz.ntmps75
    go_wp2_with (((with_reducible refine aA (N := 1) rfl ?_); refine aV ?hg (N := 1) ?hd (cs := #[.int .i64 az, .int .i64 aI, .int .i64 aC, .int .i64 aH]) (t := 23) ?hr ?_; (case hd => rfl); (case hg => rfl); (case hr => (go_simp; done)); intro gJ hg w9 hbox hb; have dD := ae.mk (hbox); replace HB := ae.mk (au (by repeat ((with_reducible exact HB.out))) hb); clear hb hbox hg; have MQ : w9.cell? ⟨gJ, 0, none⟩ = some (.int .i64 az) := (af dD.out 0).trans rfl; have MR : w9.cell? ⟨gJ, 1, none⟩ = some (.int .i64 aI) := (af dD.out 1).trans rfl; have MS : w9.cell? ⟨gJ, 2, none⟩ = some (.int .i64 aC) := (af dD.out 2).trans rfl; have MV : w9.cell? ⟨gJ, 3, none⟩ = some (.int .i64 aH) := (af dD.out 3).trans rfl; have Na := ah dD.out 0; have Nb := ah dD.out 1; have Nc := ah dD.out 2; have Nh := ah dD.out 3))
    go_ret
    exact ⟨by rfl, by repeat ((with_reducible exact HB.out))⟩
   ·rw [if_neg c8] at H
    have DL : decide (aI < 0) = false := decide_eq_false c8
    clear c8
    by_cases c11 : aI > 10000
    ·rw [if_pos c11] at H
     have Ic : decide (10000 < aI) = true := decide_eq_true c11
     clear c11
     obtain rfl := Option.some.inj H
     go_enter Tryz.func75, Tryz.ntmps75
     go_wp2_with (((with_reducible refine aA (N := 1) rfl ?_); refine aV ?hg (N := 1) ?hd (cs := #[.int .i64 az, .int .i64 aI, .int .i64 aC, .int .i64 aH]) (t := 23) ?hr ?_; (case hd => rfl); (case hg => rfl); (case hr => (go_simp; done)); intro gJ hg w12 hbox hb; have dD := ae.mk (hbox); replace HB := ae.mk (au (by repeat ((with_reducible exact HB.out))) hb); clear hb hbox hg; have adQ : w12.cell? ⟨gJ, 0, none⟩ = some (.int .i64 az) := (af dD.out 0).trans rfl; have adR : w12.cell? ⟨gJ, 1, none⟩ = some (.int .i64 aI) := (af dD.out 1).trans rfl; have adS : w12.cell? ⟨gJ, 2, none⟩ = some (.int .i64 aC) := (af dD.out 2).trans rfl; have adT : w12.cell? ⟨gJ, 3, none⟩ = some (.int .i64 aH) := (af dD.out 3).trans rfl; have aew := ah dD.out 0; have aex := ah dD.out 1; have aey := ah dD.out 2; have aez := ah dD.out 3))
     go_ret
     exact ⟨by rfl, by repeat ((with_reducible exact HB.out))⟩
    ·rw [if_neg c11] at H
     have Ic : decide (10000 < aI) = false := decide_eq_false c11
     clear c11
     by_cases c14 : aC > 0
     ·rw [if_pos c14] at H
      have akG : decide (0 < aC) = true := decide_eq_true c14
      clear c14
      by_cases c15 : aC ≤ 10000
      ·rw [if_pos c15] at H
       have akH : decide (aC ≤ 10000) = true := decide_eq_true c15
       clear c15
       by_cases c16 : aH > 0
       ·rw [if_pos c16] at H
        have VI : decide (0 < aH) = true := decide_eq_true c16
        clear c16
        by_cases c17 : aH ≤ 10000
        ·rw [if_pos c17] at H
         have akJ : decide (aH ≤ 10000) = true := decide_eq_true c17
         clear c17
         by_cases c18 : (wrap64 (az + aC)) ≤ 10000
         ·rw [if_pos c18] at H
          have akK : decide ((wrap64 (az + aC)) ≤ 10000) = true := decide_eq_true c18
          clear c18
          obtain rfl := Option.some.inj H
          go_enter Tryz.func75, Tryz.ntmps75
          go_wp2_with (((with_reducible refine aA (N := 1) rfl ?_); refine aV ?hg (N := 1) ?hd (cs := #[.int .i64 az, .int .i64 aI, .int .i64 aC, .int .i64 aH]) (t := 23) ?hr ?_; (case hd => rfl); (case hg => rfl); (case hr => (go_simp; done)); intro gJ hg I4 hbox hb; have dD := ae.mk (hbox); replace HB := ae.mk (au (by repeat ((with_reducible exact HB.out))) hb); clear hb hbox hg; have ad6 : I4.cell? ⟨gJ, 0, none⟩ = some (.int .i64 az) := (af dD.out 0).trans rfl; have ad7 : I4.cell? ⟨gJ, 1, none⟩ = some (.int .i64 aI) := (af dD.out 1).trans rfl; have ad8 : I4.cell? ⟨gJ, 2, none⟩ = some (.int .i64 aC) := (af dD.out 2).trans rfl; have ad9 : I4.cell? ⟨gJ, 3, none⟩ = some (.int .i64 aH) := (af dD.out 3).trans rfl; have aeK := ah dD.out 0; have aeL := ah dD.out 1; have aeM := ah dD.out 2; have aeN := ah dD.out 3))
          go_ret
          exact ⟨by rfl, by repeat ((with_reducible exact HB.out))⟩
         ·rw [if_neg c18] at H
          have akK : decide ((wrap64 (az + aC)) ≤ 10000) = false := decide_eq_false c18
          clear c18
          obtain rfl := Option.some.inj H
          go_enter Tryz.func75, Tryz.ntmps75
          go_wp2_with (((with_reducible refine aA (N := 1) rfl ?_); refine aV ?hg (N := 1) ?hd (cs := #[.int .i64 az, .int .i64 aI, .int .i64 aC, .int .i64 aH]) (t := 23) ?hr ?_; (case hd => rfl); (case hg => rfl); (case hr => (go_simp; done)); intro gJ hg I5 hbox hb; have dD := ae.mk (hbox); replace HB := ae.mk (au (by repeat ((with_reducible exact HB.out))) hb); clear hb hbox hg; have ad_ : I5.cell? ⟨gJ, 0, none⟩ = some (.int .i64 az) := (af dD.out 0).trans rfl; have aea : I5.cell? ⟨gJ, 1, none⟩ = some (.int .i64 aI) := (af dD.out 1).trans rfl; have aeb : I5.cell? ⟨gJ, 2, none⟩ = some (.int .i64 aC) := (af dD.out 2).trans rfl; have aec : I5.cell? ⟨gJ, 3, none⟩ = some (.int .i64 aH) := (af dD.out 3).trans rfl; have aeO := ah dD.out 0; have aeP := ah dD.out 1; have aeQ := ah dD.out 2; have aeR := ah dD.out 3))
          go_ret
          exact ⟨by rfl, by repeat ((with_reducible exact HB.out))⟩
        ·rw [if_neg c17] at H
         have akJ : decide (aH ≤ 10000) = false := decide_eq_false c17
         clear c17
         obtain rfl := Option.some.inj H
         go_enter Tryz.func75, Tryz.ntmps75
         go_wp2_with (((with_reducible refine aA (N := 1) rfl ?_); refine aV ?hg (N := 1) ?hd (cs := #[.int .i64 az, .int .i64 aI, .int .i64 aC, .int .i64 aH]) (t := 23) ?hr ?_; (case hd => rfl); (case hg => rfl); (case hr => (go_simp; done)); intro gJ hg LD hbox hb; have dD := ae.mk (hbox); replace HB := ae.mk (au (by repeat ((with_reducible exact HB.out))) hb); clear hb hbox hg; have aed : LD.cell? ⟨gJ, 0, none⟩ = some (.int .i64 az) := (af dD.out 0).trans rfl; have aee : LD.cell? ⟨gJ, 1, none⟩ = some (.int .i64 aI) := (af dD.out 1).trans rfl; have aef : LD.cell? ⟨gJ, 2, none⟩ = some (.int .i64 aC) := (af dD.out 2).trans rfl; have aeg : LD.cell? ⟨gJ, 3, none⟩ = some (.int .i64 aH) := (af dD.out 3).trans rfl; have aeS := ah dD.out 0; have aeT := ah dD.out 1; have aeU := ah dD.out 2; have aeV := ah dD.out 3))
         go_ret
         exact ⟨by rfl, by repeat ((with_reducible exact HB.out))⟩
       ·rw [if_neg c16] at H
        have VI : decide (0 < aH) = false := decide_eq_false c16
        clear c16
        obtain rfl := Option.some.inj H
        go_enter Tryz.func75, Tryz.ntmps75
        go_wp2_with (((with_reducible refine aA (N := 1) rfl ?_); refine aV ?hg (N := 1) ?hd (cs := #[.int .i64 az, .int .i64 aI, .int .i64 aC, .int .i64 aH]) (t := 23) ?hr ?_; (case hd => rfl); (case hg => rfl); (case hr => (go_simp; done)); intro gJ hg w25 hbox hb; have dD := ae.mk (hbox); replace HB := ae.mk (au (by repeat ((with_reducible exact HB.out))) hb); clear hb hbox hg; have anW : w25.cell? ⟨gJ, 0, none⟩ = some (.int .i64 az) := (af dD.out 0).trans rfl; have anX : w25.cell? ⟨gJ, 1, none⟩ = some (.int .i64 aI) := (af dD.out 1).trans rfl; have anY : w25.cell? ⟨gJ, 2, none⟩ = some (.int .i64 aC) := (af dD.out 2).trans rfl; have anZ : w25.cell? ⟨gJ, 3, none⟩ = some (.int .i64 aH) := (af dD.out 3).trans rfl; have aod := ah dD.out 0; have aoe := ah dD.out 1; have aof := ah dD.out 2; have aog := ah dD.out 3))
        go_ret
        exact ⟨by rfl, by repeat ((with_reducible exact HB.out))⟩
      ·rw [if_neg c15] at H
       have akH : decide (aC ≤ 10000) = false := decide_eq_false c15
       clear c15
       obtain rfl := Option.some.inj H
       go_enter Tryz.func75, Tryz.ntmps75
       go_wp2_with (((with_reducible refine aA (N := 1) rfl ?_); refine aV ?hg (N := 1) ?hd (cs := #[.int .i64 az, .int .i64 aI, .int .i64 aC, .int .i64 aH]) (t := 23) ?hr ?_; (case hd => rfl); (case hg => rfl); (case hr => (go_simp; done)); intro gJ hg w27 hbox hb; have dD := ae.mk (hbox); replace HB := ae.mk (au (by repeat ((with_reducible exact HB.out))) hb); clear hb hbox hg; have an0 : w27.cell? ⟨gJ, 0, none⟩ = some (.int .i64 az) := (af dD.out 0).trans rfl; have an1 : w27.cell? ⟨gJ, 1, none⟩ = some (.int .i64 aI) := (af dD.out 1).trans rfl; have an2 : w27.cell? ⟨gJ, 2, none⟩ = some (.int .i64 aC) := (af dD.out 2).trans rfl; have an3 : w27.cell? ⟨gJ, 3, none⟩ = some (.int .i64 aH) := (af dD.out 3).trans rfl; have aoh := ah dD.out 0; have aoi := ah dD.out 1; have aoj := ah dD.out 2; have aok := ah dD.out 3))
       go_ret
       exact ⟨by rfl, by repeat ((with_reducible exact HB.out))⟩
     ·rw [if_neg c14] at H
      have akG : decide (0 < aC) = false := decide_eq_false c14
      clear c14
      obtain rfl := Option.some.inj H
      go_enter Tryz.func75, Tryz.ntmps75
      go_wp2_with (((with_reducible refine aA (N := 1) rfl ?_); refine aV ?hg (N := 1) ?hd (cs := #[.int .i64 az, .int .i64 aI, .int .i64 aC, .int .i64 aH]) (t := 23) ?hr ?_; (case hd => rfl); (case hg => rfl); (case hr => (go_simp; done)); intro gJ hg Pg hbox hb; have dD := ae.mk (hbox); replace HB := ae.mk (au (by repeat ((with_reducible exact HB.out))) hb); clear hb hbox hg; have an4 : Pg.cell? ⟨gJ, 0, none⟩ = some (.int .i64 az) := (af dD.out 0).trans rfl; have an5 : Pg.cell? ⟨gJ, 1, none⟩ = some (.int .i64 aI) := (af dD.out 1).trans rfl; have an6 : Pg.cell? ⟨gJ, 2, none⟩ = some (.int .i64 aC) := (af dD.out 2).trans rfl; have an7 : Pg.cell? ⟨gJ, 3, none⟩ = some (.int .i64 aH) := (af dD.out 3).trans rfl; have aol := ah dD.out 0; have aom := ah dD.out 1; have aon := ah dD.out 2; have aoo := ah dD.out 3))
      go_ret
      exact ⟨by rfl, by repeat ((with_reducible exact HB.out))⟩
end Go.Proofs.YtfdmfgaiblfbhaaGreat.P
namespace Go.Proofs.YtfdmfgaiblfbhaaGreat.P
open Go.RowKit Go.Proofs.ag.aU Go.Proofs.ag.bK Go.Proofs.ag.cO
theorem wq {x : Int} (h0 : -9223372036854775808 ≤ x) (h1 : x ≤ 9223372036854775807) : wrap64 x = x := by unfold wrap64; omega
theorem KC {α : Type} {c : Prop} [Decidable c] {g f : Nat → Option α} {r : α} (hc : c) (h : Ev g r) : Ev (fun k => if c then g k else f k) r := by simp only [if_pos hc]; exact h
theorem ahM {α : Type} {c : Prop} [Decidable c] {g f : Nat → Option α} {r : α} (hc : ¬c) (h : Ev f r) : Ev (fun k => if c then g k else f k) r := by simp only [if_neg hc]; exact h
def qN (X Y W H : Int) : Bool := decide (0 ≤ X ∧ 1 ≤ W ∧ W ≤ 10000 ∧ X + W ≤ 10000 ∧ 0 ≤ Y ∧ 1 ≤ H ∧ H ≤ 10000 ∧ Y + H ≤ 10000)
theorem xR {X Y W H : Int} : qN X Y W H = true ↔ (0 ≤ X ∧ 1 ≤ W ∧ W ≤ 10000 ∧ X + W ≤ 10000 ∧ 0 ≤ Y ∧ 1 ≤ H ∧ H ≤ 10000 ∧ Y + H ≤ 10000) := by unfold qN; rw [decide_eq_true_iff]
theorem SG (X Y W H : Int) : zh.f X Y W H = some (qN X Y W H) := by
 unfold zh.f qN
 by_cases h1 : X ≥ 0
 ·by_cases h2 : W ≥ 1
  ·by_cases h3 : W ≤ 10000
   ·rw [if_pos h1, if_pos h2, if_pos h3, wq (x := 10000 - W) (by omega) (by omega)]
    by_cases h4 : X ≤ 10000 - W
    ·rw [if_pos h4]
     by_cases h5 : Y ≥ 0
     ·by_cases h6 : H ≥ 1
      ·by_cases h7 : H ≤ 10000
       ·rw [if_pos h5, if_pos h6, if_pos h7, wq (x := 10000 - H) (by omega) (by omega)]
        congr 1
        rw [decide_eq_decide]
        omega
       ·rw [if_pos h5, if_pos h6, if_neg h7, decide_eq_false (by omega)]
      ·rw [if_pos h5, if_neg h6, decide_eq_false (by omega)]
     ·rw [if_neg h5, decide_eq_false (by omega)]
    ·rw [if_neg h4, decide_eq_false (by omega)]
   ·rw [if_pos h1, if_pos h2, if_neg h3, decide_eq_false (by omega)]
  ·rw [if_pos h1, if_neg h2, decide_eq_false (by omega)]
 ·rw [if_neg h1, decide_eq_false (by omega)]
theorem IX (X Y W H : Int) : qR.f X Y W H = some (qN X Y W H) := by
 unfold qR.f qN
 by_cases h1 : X < 0
 ·rw [if_pos h1, decide_eq_false (by omega)]
 ·rw [if_neg h1]
  by_cases h2 : X > 10000
  ·rw [if_pos h2, decide_eq_false (by omega)]
  ·rw [if_neg h2]
   by_cases h3 : Y < 0
   ·rw [if_pos h3, decide_eq_false (by omega)]
   ·rw [if_neg h3]
    by_cases h4 : Y > 10000
    ·rw [if_pos h4, decide_eq_false (by omega)]
    ·rw [if_neg h4]
     by_cases h5 : W > 0
     ·by_cases h6 : W ≤ 10000
      ·by_cases h7 : H > 0
       ·by_cases h8 : H ≤ 10000
        ·rw [if_pos h5, if_pos h6, if_pos h7, if_pos h8, wq (x := X + W) (by omega) (by omega), wq (x := Y + H) (by omega) (by omega)]
         by_cases h9 : X + W ≤ 10000
         ·rw [if_pos h9]
          congr 1
          rw [decide_eq_decide]
          omega
         ·rw [if_neg h9, decide_eq_false (by omega)]
        ·rw [if_pos h5, if_pos h6, if_pos h7, if_neg h8, decide_eq_false (by omega)]
       ·rw [if_pos h5, if_pos h6, if_neg h7, decide_eq_false (by omega)]
      ·rw [if_pos h5, if_neg h6, decide_eq_false (by omega)]
     ·rw [if_neg h5, decide_eq_false (by omega)]
def lV (r : dW) : Bool := qN r.f0 r.f1 r.f2 r.f3
def tX (ax X Y : Int) : Int := if ax = 2 then Y else X
def AQ (ax X Y W H : Int) : Int → List Int → List dW
 | _, [] => []
 | off, n :: ns => (⟨tX ax (tX ax X Y + off) (tX ax Y X), tX ax (tX ax Y X) (tX ax X Y + off), tX ax n (tX ax H W), tX ax (tX ax H W) n⟩ : dW) :: AQ ax X Y W H (off + n + 1) ns
theorem Rl (ax X Y W H : Int) : ∀ (ns : List Int) (off : Int), (AQ ax X Y W H off ns).length = ns.length := by
 intro ns
 induction ns with
 | nil => intro off; rfl
 | cons n ns ih => intro off; simp [AQ, ih]
def qo (ax s t e n : Int) : dW := ⟨tX ax s t, tX ax t s, tX ax n e, tX ax e n⟩
def qj (ax s t d e : Int) : Int → Bool → List dW → List dW → List Int → List dW × List dW × Bool
 | off, _, ps, ls, [] => if off = d then (ps, ls, true) else ([], [], false)
 | off, fst, ps, ls, n :: ns => if n < 1 ∨ d < (if fst then off else off + 1) + n then ([], [], false) else
  qj ax s t d e ((if fst then off else off + 1) + n) false (ps ++ [qo ax (s + (if fst then off else off + 1)) t e n]) (if fst then ls else ls ++ [qo ax (s + off) t e 1]) ns
def ui (X Y W H ax : Int) (sizes : List Int) : List dW × List dW × Bool :=
 if (ax = 1 ∨ ax = 2) ∧ qN X Y W H = true ∧ sizes ≠ [] then qj ax (tX ax X Y) (tX ax Y X) (tX ax W H) (tX ax H W) 0 true [] [] sizes else ([], [], false)
theorem aas (ax s t d e : Int) : ∀ (ns : List Int) (off : Int) (f : Bool) (ps ls : List dW), (qj ax s t d e off f ps ls ns).1.length ≤ ps.length + ns.length ∧ (qj ax s t d e off f ps ls ns).2.1.length ≤ ls.length + ns.length := by
 intro ns
 induction ns with
 | nil => intro off f ps ls; unfold qj; split <;> simp
 | cons n ns ih =>
  intro off f ps ls
  unfold qj
  have hl : (if f then ls else ls ++ [qo ax (s + off) t e 1]).length ≤ ls.length + 1 := by cases f <;> simp
  generalize (if f then ls else ls ++ [qo ax (s + off) t e 1]) = ls' at hl ⊢
  generalize (if f then off else off + 1) = o
  by_cases hc : n < 1 ∨ d < o + n
  ·rw [if_pos hc]; simp
  ·rw [if_neg hc]
   have h := ih (o + n) false (ps ++ [qo ax (s + o) t e n]) ls'
   rw [List.length_append, List.length_singleton] at h
   rw [List.length_cons]
   omega
theorem XJ (ax X Y W H : Int) : ∀ (ns : List Int) (off : Int) (f : Bool) (ps ls : List dW), (qj ax (tX ax X Y) (tX ax Y X) (tX ax W H) (tX ax H W) off f ps ls ns).2.2 = true →
  (qj ax (tX ax X Y) (tX ax Y X) (tX ax W H) (tX ax H W) off f ps ls ns).1 = ps ++ AQ ax X Y W H (if f then off else off + 1) ns ∧ off + ns.sum + (ns.length : Int) - (if f ∧ ns ≠ [] then 1 else 0) = tX ax W H ∧ ∀ m, m ∈ ns → 1 ≤ m := by
 intro ns
 induction ns with
 | nil =>
  intro off f ps ls h
  unfold qj at h ⊢
  split at h
  ·rename_i ho
   rw [if_pos ho]
   exact ⟨by simp [AQ], by simp [ho], fun m hm => by cases hm⟩
  ·cases h
 | cons n ns ih =>
  intro off f ps ls h
  unfold qj at h ⊢
  by_cases hn : n < 1 ∨ tX ax W H < (if f then off else off + 1) + n
  ·rw [if_pos hn] at h; cases h
  ·rw [if_neg hn] at h ⊢
   obtain ⟨h1, h2, h3⟩ := ih _ _ _ _ h
   refine ⟨?_, ?_, fun m hm => ?_⟩
   ·rw [h1, List.append_assoc]
    cases f <;> rfl
   ·rw [List.sum_cons, List.length_cons]
    cases f with
    | false => simp only [Bool.false_eq_true, if_false, false_and] at h2 ⊢; omega
    | true => simp only [Bool.false_eq_true, if_false, if_true, false_and] at h2 ⊢; rw [if_pos (by simp)]; omega
   ·rcases List.mem_cons.1 hm with rfl | hm
    ·omega
    ·exact h3 m hm
theorem NY : ∀ (l : List Int), (∀ m, m ∈ l → 1 ≤ m) → (l.length : Int) ≤ l.sum := by
 intro l
 induction l with
 | nil => intro _; simp
 | cons x xs ih =>
  intro h
  have h1 := h x (by simp)
  have h2 := ih (fun m hm => h m (by simp [hm]))
  rw [List.sum_cons, List.length_cons]
  omega
theorem adw (ax s t d e : Int) : ∀ (ns : List Int) (off : Int) (f : Bool) (ps ls : List dW), off + ns.sum + (ns.length : Int) - (if f ∧ ns ≠ [] then 1 else 0) = d → (∀ m, m ∈ ns → 1 ≤ m) → (qj ax s t d e off f ps ls ns).2.2 = true := by
 intro ns
 induction ns with
 | nil =>
  intro off f ps ls h _
  unfold qj
  simp at h
  rw [if_pos h]
 | cons n ns ih =>
  intro off f ps ls h hp
  have hn := hp n (by simp)
  have hr := NY ns (fun m hm => hp m (by simp [hm]))
  unfold qj
  rw [List.sum_cons, List.length_cons] at h
  rw [if_neg (by
   cases f with
   | false => simp only [Bool.false_eq_true, if_false, false_and] at h ⊢; omega
   | true => simp only [if_true] at h ⊢; rw [if_pos (by simp)] at h; omega)]
  refine ih _ _ _ _ ?_ (fun m hm => hp m (by simp [hm]))
  cases f with
  | false => simp only [Bool.false_eq_true, if_false, false_and] at h ⊢; omega
  | true => simp only [Bool.false_eq_true, if_false, if_true, false_and] at h ⊢; rw [if_pos (by simp)] at h; omega
theorem aar (X Y W H ax : Int) (sizes : List Int) : (ui X Y W H ax sizes).1.length ≤ sizes.length ∧ (ui X Y W H ax sizes).2.1.length ≤ sizes.length := by
 unfold ui
 split
 ·have := aas ax (tX ax X Y) (tX ax Y X) (tX ax W H) (tX ax H W) sizes 0 true [] []
  simpa using this
 ·simp
theorem XI {X Y W H ax : Int} {sizes : List Int} (h : (ui X Y W H ax sizes).2.2 = true) : (ax = 1 ∨ ax = 2) ∧ (ui X Y W H ax sizes).1 = AQ ax X Y W H 0 sizes ∧ sizes.sum + (sizes.length : Int) - 1 = tX ax W H ∧ ∀ m, m ∈ sizes → 1 ≤ m := by
 unfold ui at h ⊢
 split at h
 ·rename_i hc
  rw [if_pos hc]
  obtain ⟨h1, h2, h3⟩ := XJ ax X Y W H sizes 0 true [] [] h
  rw [if_pos ⟨rfl, hc.2.2⟩] at h2
  exact ⟨hc.1, by simpa using h1, by omega, h3⟩
 ·cases h
theorem adv {X Y W H ax : Int} {sizes : List Int} (hax : ax = 1 ∨ ax = 2) (hm : qN X Y W H = true) (hne : sizes ≠ []) (hs : sizes.sum + (sizes.length : Int) - 1 = tX ax W H) (hp : ∀ m, m ∈ sizes → 1 ≤ m) : (ui X Y W H ax sizes).2.2 = true := by
 unfold ui
 rw [if_pos ⟨hax, hm, hne⟩]
 exact adw _ _ _ _ _ _ _ _ _ _ (by rw [if_pos ⟨rfl, hne⟩]; omega) hp
end Go.Proofs.YtfdmfgaiblfbhaaGreat.P
namespace Go.Proofs.YtfdmfgaiblfbhaaGreat.P
open Go.RowKit Go.Proofs.ag.aU Go.Proofs.ag.bK Go.Proofs.ag.cO
attribute [local go_sem] jG jR kQ lq jJ jK kT kU
def rX.f (az : Int) (aI : Int) (aC : Int) (aH : Int) (a1 : Int) : Option (Int × Int × Int × Int × Bool) := if a1 = 2 then (some (aI, az, aH, aC, true)) else (if a1 = 1 then (some (az, aI, aC, aH, true)) else (some (0, 0, 0, 0, false)))
theorem rX.calls (az : Int) (aI : Int) (aC : Int) (aH : Int) (a1 : Int) (r1 : Int) (r2 : Int) (r3 : Int) (r4 : Int) (r5 : Bool) (w : World) (h : rX.f az aI aC aH a1 = some (r1, r2, r3, r4, r5)) :
  Calls Tryz.prog 102 #[.agg #[.int .i64 az, .int .i64 aI, .int .i64 aC, .int .i64 aH], .int .u8 a1] w fun e w' => e = .returned (.tuple #[.agg #[.int .i64 r1, .int .i64 r2, .int .i64 r3, .int .i64 r4], .bool r5]) ∧ Below w.heap.size w w' := by
 have Sj := Tryz.underlying23
 have HB := ae.mk (Below.refl w.heap.size w)
 have H : (if a1 = 2 then (some (aI, az, aH, aC, true)) else (if a1 = 1 then (some (az, aI, aC, aH, true)) else (some (0, 0, 0, 0, false)))) = some (r1, r2, r3, r4, r5) := h
 clear h
 by_cases c3 : a1 = 2
 ·rw [if_pos c3] at H
  have sU : (a1 == 2) = true := beq_iff_eq.mpr c3
  have BG : (a1 != 2) = false := bne_eq_false_iff_eq.mpr c3
  clear c3
  simp only [Option.some.injEq, Prod.mk.injEq] at H
  obtain ⟨rfl, rfl, rfl, rfl, rfl⟩ := H
  go_enter Tryz.func102, Tryz.ntmps102
  go_wp2_with (first | ((with_reducible refine aA (N := 2) rfl ?_); refine aV ?hg (N := 2) ?hd (cs := #[.int .i64 az, .int .i64 aI, .int .i64 aC, .int .i64 aH]) (t := 23) ?hr ?_; (case hd => rfl); (case hg => rfl); (case hr => (go_simp; done)); intro pO hg w4 hbox hb; have kN := ae.mk (hbox); have Vr := ae.mk ((by rw [hg]; exact (dE (by repeat ((with_reducible exact HB.out)))) : w.heap.size ≤ pO)); replace HB := ae.mk (au (by repeat ((with_reducible exact HB.out))) hb); clear hb hbox hg) | ((with_reducible refine aA (N := 4) rfl ?_); refine aV ?hg (N := 4) ?hd (cs := #[.int .i64 0, .int .i64 0, .int .i64 0, .int .i64 0]) (t := 23) ?hr ?_; (case hd => rfl); (case hg => rfl); (case hr => (go_simp; done)); intro lY hg w5 hbox hb; have kV := ae.mk (hbox); have JR := ae.mk ((by rw [hg]; exact (dE (by repeat ((with_reducible exact HB.out)))) : w.heap.size ≤ lY)); have zL := ae.mk ((by rw [hg]; exact Nat.ne_of_lt (gU kN.out) : pO ≠ lY)); have qX := ae.mk ((by rw [hg]; exact Nat.ne_of_gt (gU kN.out) : lY ≠ pO)); replace kN := ae.mk (aW kN.out hb); replace HB := ae.mk (au (by repeat ((with_reducible exact HB.out))) hb); clear hb hbox hg; have arG := zL.out; have arH := qX.out; have X6 : w5.cell? ⟨pO, 0, none⟩ = some (.int .i64 az) := (af kN.out 0).trans rfl; have X7 : w5.cell? ⟨pO, 1, none⟩ = some (.int .i64 aI) := (af kN.out 1).trans rfl; have X8 : w5.cell? ⟨pO, 2, none⟩ = some (.int .i64 aC) := (af kN.out 2).trans rfl; have X9 : w5.cell? ⟨pO, 3, none⟩ = some (.int .i64 aH) := (af kN.out 3).trans rfl; have Yn := ah kN.out 0; have Yo := ah kN.out 1; have Yp := ah kN.out 2; have Yq := ah kN.out 3; have X_ : w5.cell? ⟨lY, 0, none⟩ = some (.int .i64 0) := (af kV.out 0).trans rfl; have Ya : w5.cell? ⟨lY, 1, none⟩ = some (.int .i64 0) := (af kV.out 1).trans rfl; have Yb : w5.cell? ⟨lY, 2, none⟩ = some (.int .i64 0) := (af kV.out 2).trans rfl; have Yc : w5.cell? ⟨lY, 3, none⟩ = some (.int .i64 0) := (af kV.out 3).trans rfl; have Yr := ah kV.out 0; have Yt := ah kV.out 1; have Yu := ah kV.out 2; have Yv := ah kV.out 3))
  refine bodyPost_ret (eQ rfl _ _ lY 23 _ (0, 0) _ rfl (by refine fP (cs := #[.int .i64 aI, .int .i64 az, .int .i64 aH, .int .i64 aC]) ?_ 3 _ rfl; refine fP (cs := #[.int .i64 aI, .int .i64 az, .int .i64 aH, .int .i64 aC]) ?_ 2 _ rfl; refine fP (cs := #[.int .i64 aI, .int .i64 az, .int .i64 aH, .int .i64 aC]) ?_ 1 _ rfl; refine fP (cs := #[.int .i64 aI, .int .i64 az, .int .i64 aH, .int .i64 aC]) ?_ 0 _ rfl; refine fP (cs := #[.int .i64 aI, .int .i64 az, .int .i64 aH, .int .i64 0]) ?_ 3 _ rfl; refine fP (cs := #[.int .i64 aI, .int .i64 az, .int .i64 0, .int .i64 0]) ?_ 2 _ rfl; refine fP (cs := #[.int .i64 aI, .int .i64 0, .int .i64 0, .int .i64 0]) ?_ 1 _ rfl; refine fP (cs := #[.int .i64 0, .int .i64 0, .int .i64 0, .int .i64 0]) ?_ 0 _ rfl; refine Ib ?_ qX.out _; refine Ib ?_ qX.out _; refine Ib ?_ qX.out _; refine Ib ?_ qX.out _; exact kV.out) Tryz.underlying23 rfl (by kernel_rfl)) rfl ?_
  exact ⟨by rfl, by repeat ((with_reducible first | exact HB.out | refine eY ?_ Vr.out | refine eY ?_ JR.out))⟩
 ·rw [if_neg c3] at H
  have sU : (a1 == 2) = false := beq_eq_false_iff_ne.mpr c3
  have BG : (a1 != 2) = true := bne_iff_ne.mpr c3
  by_cases c9 : a1 = 1
  ·rw [if_pos c9] at H
   have Jh : (a1 == 1) = true := beq_iff_eq.mpr c9
   have amR : (a1 != 1) = false := bne_eq_false_iff_eq.mpr c9
   clear c9
   simp only [Option.some.injEq, Prod.mk.injEq] at H
   obtain ⟨rfl, rfl, rfl, rfl, rfl⟩ := H
   go_enter Tryz.func102, Tryz.ntmps102
   go_wp2_with (first | ((with_reducible refine aA (N := 2) rfl ?_); refine aV ?hg (N := 2) ?hd (cs := #[.int .i64 az, .int .i64 aI, .int .i64 aC, .int .i64 aH]) (t := 23) ?hr ?_; (case hd => rfl); (case hg => rfl); (case hr => (go_simp; done)); intro pO hg w10 hbox hb; have kN := ae.mk (hbox); have Vr := ae.mk ((by rw [hg]; exact (dE (by repeat ((with_reducible exact HB.out)))) : w.heap.size ≤ pO)); replace HB := ae.mk (au (by repeat ((with_reducible exact HB.out))) hb); clear hb hbox hg) | ((with_reducible refine aA (N := 4) rfl ?_); refine aV ?hg (N := 4) ?hd (cs := #[.int .i64 0, .int .i64 0, .int .i64 0, .int .i64 0]) (t := 23) ?hr ?_; (case hd => rfl); (case hg => rfl); (case hr => (go_simp; done)); intro lY hg wO hbox hb; have kV := ae.mk (hbox); have JR := ae.mk ((by rw [hg]; exact (dE (by repeat ((with_reducible exact HB.out)))) : w.heap.size ≤ lY)); have zL := ae.mk ((by rw [hg]; exact Nat.ne_of_lt (gU kN.out) : pO ≠ lY)); have qX := ae.mk ((by rw [hg]; exact Nat.ne_of_gt (gU kN.out) : lY ≠ pO)); replace kN := ae.mk (aW kN.out hb); replace HB := ae.mk (au (by repeat ((with_reducible exact HB.out))) hb); clear hb hbox hg; have aq2 := zL.out; have aq4 := qX.out; have adQ : wO.cell? ⟨pO, 0, none⟩ = some (.int .i64 az) := (af kN.out 0).trans rfl; have adR : wO.cell? ⟨pO, 1, none⟩ = some (.int .i64 aI) := (af kN.out 1).trans rfl; have adS : wO.cell? ⟨pO, 2, none⟩ = some (.int .i64 aC) := (af kN.out 2).trans rfl; have adT : wO.cell? ⟨pO, 3, none⟩ = some (.int .i64 aH) := (af kN.out 3).trans rfl; have aew := ah kN.out 0; have aex := ah kN.out 1; have aey := ah kN.out 2; have aez := ah kN.out 3; have MW : wO.cell? ⟨lY, 0, none⟩ = some (.int .i64 0) := (af kV.out 0).trans rfl; have MX : wO.cell? ⟨lY, 1, none⟩ = some (.int .i64 0) := (af kV.out 1).trans rfl; have MZ : wO.cell? ⟨lY, 2, none⟩ = some (.int .i64 0) := (af kV.out 2).trans rfl; have M_ : wO.cell? ⟨lY, 3, none⟩ = some (.int .i64 0) := (af kV.out 3).trans rfl; have Nl := ah kV.out 0; have Np := ah kV.out 1; have Nq := ah kV.out 2; have Nr := ah kV.out 3))
   refine bodyPost_ret (eQ rfl _ _ lY 23 _ (0, 0) _ rfl (by refine fP (cs := #[.int .i64 az, .int .i64 aI, .int .i64 aC, .int .i64 aH]) ?_ 3 _ rfl; refine fP (cs := #[.int .i64 az, .int .i64 aI, .int .i64 aC, .int .i64 aH]) ?_ 2 _ rfl; refine fP (cs := #[.int .i64 az, .int .i64 aI, .int .i64 aC, .int .i64 aH]) ?_ 1 _ rfl; refine fP (cs := #[.int .i64 az, .int .i64 aI, .int .i64 aC, .int .i64 aH]) ?_ 0 _ rfl; refine fP (cs := #[.int .i64 az, .int .i64 aI, .int .i64 aC, .int .i64 0]) ?_ 3 _ rfl; refine fP (cs := #[.int .i64 az, .int .i64 aI, .int .i64 0, .int .i64 0]) ?_ 2 _ rfl; refine fP (cs := #[.int .i64 az, .int .i64 0, .int .i64 0, .int .i64 0]) ?_ 1 _ rfl; refine fP (cs := #[.int .i64 0, .int .i64 0, .int .i64 0, .int .i64 0]) ?_ 0 _ rfl; exact kV.out) Tryz.underlying23 rfl (by kernel_rfl)) rfl ?_
   exact ⟨by rfl, by repeat ((with_reducible first | exact HB.out | refine eY ?_ JR.out))⟩
  ·rw [if_neg c9] at H
   have Jh : (a1 == 1) = false := beq_eq_false_iff_ne.mpr c9
   have amR : (a1 != 1) = true := bne_iff_ne.mpr c9
   simp only [Option.some.injEq, Prod.mk.injEq] at H
   obtain ⟨rfl, rfl, rfl, rfl, rfl⟩ := H
   go_enter Tryz.func102, Tryz.ntmps102
   go_wp2_with (first | ((with_reducible refine aA (N := 2) rfl ?_); refine aV ?hg (N := 2) ?hd (cs := #[.int .i64 az, .int .i64 aI, .int .i64 aC, .int .i64 aH]) (t := 23) ?hr ?_; (case hd => rfl); (case hg => rfl); (case hr => (go_simp; done)); intro pO hg wP hbox hb; have kN := ae.mk (hbox); have Vr := ae.mk ((by rw [hg]; exact (dE (by repeat ((with_reducible exact HB.out)))) : w.heap.size ≤ pO)); replace HB := ae.mk (au (by repeat ((with_reducible exact HB.out))) hb); clear hb hbox hg) | ((with_reducible refine aA (N := 4) rfl ?_); refine aV ?hg (N := 4) ?hd (cs := #[.int .i64 0, .int .i64 0, .int .i64 0, .int .i64 0]) (t := 23) ?hr ?_; (case hd => rfl); (case hg => rfl); (case hr => (go_simp; done)); intro lY hg w16 hbox hb; have kV := ae.mk (hbox); have JR := ae.mk ((by rw [hg]; exact (dE (by repeat ((with_reducible exact HB.out)))) : w.heap.size ≤ lY)); have zL := ae.mk ((by rw [hg]; exact Nat.ne_of_lt (gU kN.out) : pO ≠ lY)); have qX := ae.mk ((by rw [hg]; exact Nat.ne_of_gt (gU kN.out) : lY ≠ pO)); replace kN := ae.mk (aW kN.out hb); replace HB := ae.mk (au (by repeat ((with_reducible exact HB.out))) hb); clear hb hbox hg; have aq3 := qX.out; have aq5 := zL.out; have ad1 : w16.cell? ⟨lY, 0, none⟩ = some (.int .i64 0) := (af kV.out 0).trans rfl; have ad3 : w16.cell? ⟨lY, 1, none⟩ = some (.int .i64 0) := (af kV.out 1).trans rfl; have ad4 : w16.cell? ⟨lY, 2, none⟩ = some (.int .i64 0) := (af kV.out 2).trans rfl; have ad5 : w16.cell? ⟨lY, 3, none⟩ = some (.int .i64 0) := (af kV.out 3).trans rfl; have aeG := ah kV.out 0; have aeH := ah kV.out 1; have aeI := ah kV.out 2; have aeJ := ah kV.out 3))
   refine bodyPost_ret (eQ rfl _ _ lY 23 _ (0, 0) _ rfl (by refine fP (cs := #[.int .i64 0, .int .i64 0, .int .i64 0, .int .i64 0]) ?_ 3 _ rfl; refine fP (cs := #[.int .i64 0, .int .i64 0, .int .i64 0, .int .i64 0]) ?_ 2 _ rfl; refine fP (cs := #[.int .i64 0, .int .i64 0, .int .i64 0, .int .i64 0]) ?_ 1 _ rfl; refine fP (cs := #[.int .i64 0, .int .i64 0, .int .i64 0, .int .i64 0]) ?_ 0 _ rfl; exact kV.out) Tryz.underlying23 rfl (by kernel_rfl)) rfl ?_
   exact ⟨by rfl, by repeat ((with_reducible first | exact HB.out | refine eY ?_ JR.out))⟩
end Go.Proofs.YtfdmfgaiblfbhaaGreat.P
namespace Go.Proofs.YtfdmfgaiblfbhaaGreat.P
open Go.RowKit Go.Proofs.ag.aU Go.Proofs.ag.bK Go.Proofs.ag.cO
section
variable {W : World}
theorem T_ {ax : Int} (h : ax = 1 ∨ ax = 2) (X Y W H : Int) : rX.f X Y W H ax = some (tX ax X Y, tX ax Y X, tX ax W H, tX ax H W, true) := by
 unfold rX.f tX
 rcases h with rfl | rfl
 ·rfl
 ·rfl
theorem JJ {ax : Int} (h : ax = 1 ∨ ax = 2) (x y u v : Int) : Calls Tryz.prog 102 #[.agg #[.int .i64 x, .int .i64 y, .int .i64 u, .int .i64 v], .int .u8 ax] W fun e w' => e = .returned (.tuple #[.agg #[.int .i64 (tX ax x y), .int .i64 (tX ax y x), .int .i64 (tX ax u v), .int .i64 (tX ax v u)], .bool true]) ∧ Below W.heap.size W w' :=
 rX.calls _ _ _ _ _ _ _ _ _ _ W (T_ h x y u v)
theorem Zy {ax : Int} (h : ¬ (ax = 1 ∨ ax = 2)) (x y u v : Int) : Calls Tryz.prog 102 #[.agg #[.int .i64 x, .int .i64 y, .int .i64 u, .int .i64 v], .int .u8 ax] W fun e w' => e = .returned (.tuple #[.agg #[.int .i64 0, .int .i64 0, .int .i64 0, .int .i64 0], .bool false]) ∧ Below W.heap.size W w' :=
 rX.calls _ _ _ _ _ _ _ _ _ _ W (by unfold rX.f; rw [if_neg (fun e => h (.inr e)), if_neg (fun e => h (.inl e))])
theorem SY {x y u v : Int} {b : Bool} (h : qN x y u v = b) : Calls Tryz.prog 99 #[.agg #[.int .i64 x, .int .i64 y, .int .i64 u, .int .i64 v]] W fun e w' => e = .returned (.bool b) ∧ Below W.heap.size W w' :=
 zh.calls _ _ _ _ _ W ((SG _ _ _ _).trans (congrArg some h))
theorem GZ {x y u v : Int} {b : Bool} (h : qN x y u v = b) : Calls Tryz.prog 75 #[.agg #[.int .i64 x, .int .i64 y, .int .i64 u, .int .i64 v]] W fun e w' => e = .returned (.bool b) ∧ Below W.heap.size W w' :=
 qR.calls _ _ _ _ _ W ((IX _ _ _ _).trans (congrArg some h))
end
abbrev PR (w : World) (t : List dW × List dW × Bool) (e : Ending) (w' : World) : Prop := ∃ A c A' c' o o', e = .returned (.tuple #[.slice A t.1.length c, .slice A' t.2.1.length c', .bool t.2.2]) ∧ (t.2.2 = true → Two k23 23 k23 23 w w' (.slice A t.1.length c) t.1 (.slice A' t.2.1.length c') t.2.1 o o') ∧ Below w.heap.size w w'
theorem BI {X Y W H ax : Int} {sizes : List Int} (h : ¬ (ax = 1 ∨ ax = 2) ∨ qN X Y W H = false ∨ sizes.length = 0) : ui X Y W H ax sizes = ([], [], false) := by
 unfold ui
 refine if_neg (fun hc => ?_)
 rcases h with h | h | h
 ·exact h hc.1
 ·rw [hc.2.1] at h; cases h
 ·exact hc.2.2 (List.eq_nil_of_length_eq_zero h)
theorem XK {X Y W H ax : Int} {sizes : List Int} (h1 : ax = 1 ∨ ax = 2) (h2 : qN X Y W H = true) (h3 : sizes.length ≠ 0) : ui X Y W H ax sizes = qj ax (tX ax X Y) (tX ax Y X) (tX ax W H) (tX ax H W) 0 true [] [] sizes := by
 unfold ui
 exact if_pos ⟨h1, h2, fun h => h3 (by rw [h]; rfl)⟩
theorem Rk {ax s t d e off : Int} {f : Bool} {ps ls : List dW} {R : List dW × List dW × Bool} (h : qj ax s t d e off f ps ls [] = R) : R = if off = d then (ps, ls, true) else ([], [], false) := h.symm
def DN (ax s t d e o : Int) (ps ls : List dW) (n : Int) (ns : List Int) : List dW × List dW × Bool := if n < 1 ∨ d < o + n then ([], [], false) else qj ax s t d e (o + n) false (ps ++ [qo ax (s + o) t e n]) ls ns
theorem Ee {ax s t d e o : Int} {ps ls : List dW} {n : Int} {ns : List Int} (h : n < 1 ∨ d < o + n) : DN ax s t d e o ps ls n ns = ([], [], false) := if_pos h
theorem Un {ax s t d e o : Int} {ps ls : List dW} {n : Int} {ns : List Int} (h : ¬ (n < 1 ∨ d < o + n)) : DN ax s t d e o ps ls n ns = qj ax s t d e (o + n) false (ps ++ [qo ax (s + o) t e n]) ls ns := if_neg h
theorem Zw {X Y W H ax : Int} (h1 : ax = 1 ∨ ax = 2) (h2 : qN X Y W H = true) : 0 ≤ tX ax X Y ∧ 1 ≤ tX ax W H ∧ tX ax X Y + tX ax W H ≤ 10000 := by
 have hm := xR.1 h2
 unfold tX
 rcases h1 with rfl | rfl
 ·rw [if_neg (by omega), if_neg (by omega)]; omega
 ·rw [if_pos rfl, if_pos rfl]; omega
mutual
def fU : ai → List ai
 | ⟨a, b, d, l⟩ => ⟨a, b, d, l⟩ :: allL l
def allL : List ai → List ai
 | [] => []
 | c :: cs => fU c ++ allL cs
end
theorem lZ (c : ai) : fU c = c :: allL c.f3 := by cases c; simp [fU]
theorem kS : allL [] = [] := by simp [allL]
theorem iE (c : ai) (cs : List ai) : allL (c :: cs) = fU c ++ allL cs := by simp [allL]
theorem uf (a b : List ai) : allL (a ++ b) = allL a ++ allL b := by
 induction a with
 | nil => simp [kS]
 | cons x xs ih => rw [List.cons_append, iE, iE, ih, List.append_assoc]
def sz (c : ai) : Nat := (fU c).length
def dY (l : List ai) : Nat := (allL l).length
theorem bJ (c : ai) : sz c = 1 + dY c.f3 := by unfold sz dY; rw [lZ, List.length_cons]; omega
theorem l9 : dY [] = 0 := by unfold dY; rw [kS]; rfl
theorem bH (c : ai) (cs : List ai) : dY (c :: cs) = sz c + dY cs := by unfold dY sz; rw [iE, List.length_append]
theorem l7 (a b : List ai) : dY (a ++ b) = dY a + dY b := by unfold dY; rw [uf, List.length_append]
theorem jf (l : List ai) : l.length ≤ dY l := by
 induction l with
 | nil => simp
 | cons x xs ih => rw [bH, List.length_cons, bJ]; omega
theorem Ik (c : ai) : (⟨c.f0, ⟨c.f1.f0, c.f1.f1, c.f1.f2, c.f1.f3⟩, c.f2, c.f3⟩ : ai) = c := by cases c; rfl
theorem afB (l : List ai) : dY l = (l.map sz).sum := by
 induction l with
 | nil => rw [l9]; rfl
 | cons x xs ih => rw [bH, List.map_cons, List.sum_cons, ih]
end Go.Proofs.YtfdmfgaiblfbhaaGreat.P
namespace Go.Proofs.YtfdmfgaiblfbhaaGreat.P
open Go.RowKit Go.Proofs.ag.aU Go.Proofs.ag.bK Go.Proofs.ag.cO
attribute [local go_sem] jG jR kQ lq jJ jK kT kU
mutual
def dX.l0 : Nat → Int → Int → Int → Int → Int → Int → Int → Int → Int → Int → List (ai) → Option (Int)
 | 0, _, _, _, _, _, _, _, _, _, _, _ => none
 | k + 1, x1, x5, x9, x10, afN, afO, afP, afQ, afR, afS, wG => if x10 < x9 then (if x5 > x1 then (some x5) else (if 0 ≤ x10 then (if x10 < (wG.length : Int) then ((dX.f k ((aj wG x10).f0) ((aj wG x10).f1.f0) ((aj wG x10).f1.f1) ((aj wG x10).f1.f2) ((aj wG x10).f1.f3) ((aj wG x10).f2) ((aj wG x10).f3) x1).bind fun t103 => (dX.l0 k x1 (wrap64 (x5 + t103)) x9 (wrap64 (x10 + 1)) afN afO afP afQ afR afS wG)) else (none)) else (none))) else (some x5)
def dX.f : Nat → Int → Int → Int → Int → Int → Int → List (ai) → Int → Option (Int)
 | 0, _, _, _, _, _, _, _, _ => none
 | k + 1, az, aI, aC, aH, bu, bC, aK, a1 => dX.l0 k a1 1 (aK.length : Int) 0 az aI aC aH bu bC aK
end
theorem dX.calls (k : Nat) : ∀ (az : Int) (aI : Int) (aC : Int) (aH : Int) (bu : Int) (bC : Int) (dP : Option Addr) (dQ : Nat) (aK : List (ai)) (a1 : Int) (r : Int) (w : World) (pR : Kd.C k26 w dP aK.length aK) (qL : aK.length ≤ dQ) (h : dX.f k az aI aC aH bu bC aK a1 = some r),
  Calls Tryz.prog 12 #[.agg #[.int .u8 az, .int .i64 aI, .int .i64 aC, .int .i64 aH, .int .i64 bu, .int .i64 bC, .slice dP aK.length dQ], .int .i64 a1] w fun e w' => e = .returned (.int .i64 r) ∧ Below w.heap.size w w' := by
 induction k using Nat.strongRecOn with
 | _ k ih =>
 intro az aI aC aH bu bC dP dQ aK a1 r w pR qL h
 cases k with
 | zero => exact absurd h (by simp [dX.f])
 | succ k =>
 simp only [dX.f] at h
 have EX := Tryz.underlying26
 have J4 := ae.mk pR
 clear pR qL
 have HB := ae.mk (Below.refl w.heap.size w)
 have H : (dX.l0 k a1 1 (aK.length : Int) 0 az aI aC aH bu bC aK) = some r := h
 clear h
 have H' := ae.mk H
 clear H
 go_enter Tryz.func12, Tryz.ntmps12
 go_wp2_with (((with_reducible refine aA (N := 2) rfl ?_); refine aV ?hg (N := 2) ?hd (cs := #[.int .u8 az, .int .i64 aI, .int .i64 aC, .int .i64 aH, .int .i64 bu, .int .i64 bC, .slice dP aK.length dQ]) (t := 26) ?hr ?_; (case hd => rfl); (case hg => rfl); (case hr => (go_simp; done)); intro uj hg w3 hbox hb; have jL := ae.mk (hbox); replace HB := ae.mk (au (by repeat ((with_reducible exact HB.out))) hb); clear hb hbox hg; have RI : w3.cell? ⟨uj, 0, none⟩ = some (.int .u8 az) := (af jL.out 0).trans rfl; have RJ : w3.cell? ⟨uj, 1, none⟩ = some (.int .i64 aI) := (af jL.out 1).trans rfl; have RN : w3.cell? ⟨uj, 2, none⟩ = some (.int .i64 aC) := (af jL.out 2).trans rfl; have RP : w3.cell? ⟨uj, 3, none⟩ = some (.int .i64 aH) := (af jL.out 3).trans rfl; have X3 : w3.cell? ⟨uj, 4, none⟩ = some (.int .i64 bu) := (af jL.out 4).trans rfl; have X4 : w3.cell? ⟨uj, 5, none⟩ = some (.int .i64 bC) := (af jL.out 5).trans rfl; have X5 : w3.cell? ⟨uj, 6, none⟩ = some (.slice dP aK.length dQ) := (af jL.out 6).trans rfl; have RS := ah jL.out 0; have RU := ah jL.out 1; have RX := ah jL.out 2; have RY := ah jL.out 3; have Yk := ah jL.out 4; have Yl := ah jL.out 5; have Ym := ah jL.out 6))
 go_loopg [5, 10] k (fun kq v5 v10 w' => ∃ (nK : Int) (bT : Int), v5 = .int .i64 nK ∧ v10 = .int .i64 bT ∧ ae (dX.l0 kq a1 nK (aK.length : Int) bT az aI aC aH bu bC aK = some r) ∧ ae (kq ≤ k) ∧ ae (w'.heap[uj]? = some (.cells #[.int .u8 az, .int .i64 aI, .int .i64 aC, .int .i64 aH, .int .i64 bu, .int .i64 bC, (.slice dP aK.length dQ)] 26 (0, 0))) ∧ ae (Below w.heap.size w w'))
 case atStart => exact ⟨(1), (0), (by rfl), (by rfl), H', ⟨Nat.le_refl _⟩, ⟨by exact jL.out⟩, ⟨by repeat ((with_reducible exact HB.out))⟩⟩
 case round =>
  clear H'
  clear RI RJ RN RP X3 X4 X5 RS RU RX RY Yk Yl Ym
  obtain ⟨nK, bT, rfl, rfl, HA, lh, jL, HB⟩ := hrel
  cases gk with
  | zero => exact absurd HA.out (by simp [dX.l0])
  | succ k1 =>
   have H := HA.out
   clear HA
   simp only [dX.l0] at H
   by_cases c5 : bT < (aK.length : Int)
   ·rw [if_pos c5] at H
    have EP : decide (bT < (aK.length : Int)) = true := decide_eq_true c5
    clear c5
    by_cases c6 : nK > a1
    ·rw [if_pos c6] at H
     have BH : decide (a1 < nK) = true := decide_eq_true c6
     clear c6
     obtain rfl := Option.some.inj H
     go_wp2
     go_ret
     exact ⟨by rfl, by repeat ((with_reducible exact HB.out))⟩
    ·rw [if_neg c6] at H
     have BH : decide (a1 < nK) = false := decide_eq_false c6
     clear c6
     by_cases c7 : 0 ≤ bT
     ·rw [if_pos c7] at H
      have yT : decide (0 ≤ bT) = true := decide_eq_true c7
      clear c7
      by_cases c8 : bT < (aK.length : Int)
      ·rw [if_pos c8] at H
       have DL : decide (bT < (aK.length : Int)) = true := decide_eq_true c8
       clear c8
       replace H := Option.bind_eq_some_iff.mp H
       obtain ⟨t103, A90, H⟩ := H
       replace H : (dX.l0 k1 a1 (wrap64 (nK + t103)) (aK.length : Int) (wrap64 (bT + 1)) az aI aC aH bu bC aK) = some r := H
       have A9 := ae.mk A90
       clear A90
       have H' := ae.mk H
       clear H
       have MQ : wr.cell? ⟨uj, 0, none⟩ = some (.int .u8 az) := (af jL.out 0).trans rfl
       have MR : wr.cell? ⟨uj, 1, none⟩ = some (.int .i64 aI) := (af jL.out 1).trans rfl
       have MS : wr.cell? ⟨uj, 2, none⟩ = some (.int .i64 aC) := (af jL.out 2).trans rfl
       have MV : wr.cell? ⟨uj, 3, none⟩ = some (.int .i64 aH) := (af jL.out 3).trans rfl
       have adD : wr.cell? ⟨uj, 4, none⟩ = some (.int .i64 bu) := (af jL.out 4).trans rfl
       have adE : wr.cell? ⟨uj, 5, none⟩ = some (.int .i64 bC) := (af jL.out 5).trans rfl
       have adF : wr.cell? ⟨uj, 6, none⟩ = some (.slice dP aK.length dQ) := (af jL.out 6).trans rfl
       have Na := ah jL.out 0
       have Nb := ah jL.out 1
       have Nc := ah jL.out 2
       have Nh := ah jL.out 3
       have aej := ah jL.out 4
       have aek := ah jL.out 5
       have ael := ah jL.out 6
       have abh : 0 ≤ (bT : Int) := of_decide_eq_true (by (with_reducible assumption))
       have abo : bT < (aK.length : Int) := of_decide_eq_true (by (with_reducible assumption))
       obtain ⟨aqN, af5, ahg, amY, Nw, Ny, Nz, NC, ND, NF, NG, UT, UO⟩ := qi J4.out bT abh abo
       cases amY
       replace Nw := (HB.out.cell (World.block_lt_of_cell? w _ Nw)).trans Nw
       replace Ny := (HB.out.cell (World.block_lt_of_cell? w _ Ny)).trans Ny
       replace Nz := (HB.out.cell (World.block_lt_of_cell? w _ Nz)).trans Nz
       replace NC := (HB.out.cell (World.block_lt_of_cell? w _ NC)).trans NC
       replace ND := (HB.out.cell (World.block_lt_of_cell? w _ ND)).trans ND
       replace NF := (HB.out.cell (World.block_lt_of_cell? w _ NF)).trans NF
       replace NG := (HB.out.cell (World.block_lt_of_cell? w _ NG)).trans NG
       have ac5 := ae.mk UO
       have ac3 := ae.mk UT
       clear UO UT
       replace abh := eq_true abh
       replace abo := eq_true abo
       go_wp2_with (((with_reducible refine jF (f := 12) rfl ?_); refine mf (some 24) rfl rfl Tryz.func12 (by kernel_rfl) rfl #[.agg #[.int .u8 ((aj aK bT).f0), .int .i64 ((aj aK bT).f1.f0), .int .i64 ((aj aK bT).f1.f1), .int .i64 ((aj aK bT).f1.f2), .int .i64 ((aj aK bT).f1.f3), .int .i64 ((aj aK bT).f2), .slice af5 ((aj aK bT).f3).length ahg], .int .i64 a1] rfl (by (try simp only [List.map_toArray, List.map_cons, List.map_nil]); rfl) ?_; (with_reducible refine (ih k1 (by have := lh.out; omega) ((aj aK bT).f0) ((aj aK bT).f1.f0) ((aj aK bT).f1.f1) ((aj aK bT).f1.f2) ((aj aK bT).f1.f3) ((aj aK bT).f2) _ _ ((aj aK bT).f3) a1 t103 _ ?nH ?rJ A9.out).mono ?_); (case nH => repeat (exact (Kd.g_ ac5.out HB.out))); (case rJ => exact ac3.out); rintro e wO ⟨rfl, hb⟩; refine ⟨_, rfl, ?_⟩; replace jL := ae.mk (aW jL.out hb); replace HB := ae.mk (au (by repeat ((with_reducible exact HB.out))) hb); (try clear hb)))
       go_roundg k1
       case measure => have := lh.out; omega
       case rel => exact ⟨(wrap64 (nK + t103)), (wrap64 (bT + 1)), (by rfl), (by rfl), H', ⟨by have := lh.out; omega⟩, ⟨by exact jL.out⟩, ⟨by repeat ((with_reducible exact HB.out))⟩⟩
      ·rw [if_neg c8] at H
       exact absurd H (by simp)
     ·rw [if_neg c7] at H
      exact absurd H (by simp)
   ·rw [if_neg c5] at H
    have EP : decide (bT < (aK.length : Int)) = false := decide_eq_false c5
    clear c5
    obtain rfl := Option.some.inj H
    go_wp2
    go_ret
    exact ⟨by rfl, by repeat ((with_reducible exact HB.out))⟩
def kX.f (k : Nat) (az : Int) (aI : Int) (aC : Int) (aH : Int) (bu : Int) (bC : Int) (aK : List (ai)) : Option (Bool) := (dX.f k az aI aC aH bu bC aK 200).bind fun t105 => (some (decide (t105 > 200)))
theorem kX.calls (k : Nat) (az : Int) (aI : Int) (aC : Int) (aH : Int) (bu : Int) (bC : Int) (dP : Option Addr) (dQ : Nat) (aK : List (ai)) (r : Bool) (w : World) (pR : Kd.C k26 w dP aK.length aK) (qL : aK.length ≤ dQ) (h : kX.f k az aI aC aH bu bC aK = some r) :
  Calls Tryz.prog 4 #[.agg #[.int .u8 az, .int .i64 aI, .int .i64 aC, .int .i64 aH, .int .i64 bu, .int .i64 bC, .slice dP aK.length dQ]] w fun e w' => e = .returned (.bool r) ∧ Below w.heap.size w w' := by
 have EX := Tryz.underlying26
 have J4 := ae.mk pR
 have Vu := ae.mk qL
 clear pR qL
 have HB := ae.mk (Below.refl w.heap.size w)
 have H : ((dX.f k az aI aC aH bu bC aK 200).bind fun t105 => (some (decide (t105 > 200)))) = some r := h
 clear h
 replace H := Option.bind_eq_some_iff.mp H
 obtain ⟨t105, Oy, H⟩ := H
 replace H : (some (decide (t105 > 200))) = some r := H
 have A2 := ae.mk Oy
 clear Oy
 obtain rfl := Option.some.inj H
 go_enter Tryz.func4, Tryz.ntmps4
 go_wp2_with (first | ((with_reducible refine aA (N := 1) rfl ?_); refine aV ?hg (N := 1) ?hd (cs := #[.int .u8 az, .int .i64 aI, .int .i64 aC, .int .i64 aH, .int .i64 bu, .int .i64 bC, .slice dP aK.length dQ]) (t := 26) ?hr ?_; (case hd => rfl); (case hg => rfl); (case hr => (go_simp; done)); intro ET hg w3 hbox hb; have sD := ae.mk (hbox); replace HB := ae.mk (au (by repeat ((with_reducible exact HB.out))) hb); clear hb hbox hg; have RI : w3.cell? ⟨ET, 0, none⟩ = some (.int .u8 az) := (af sD.out 0).trans rfl; have RJ : w3.cell? ⟨ET, 1, none⟩ = some (.int .i64 aI) := (af sD.out 1).trans rfl; have RN : w3.cell? ⟨ET, 2, none⟩ = some (.int .i64 aC) := (af sD.out 2).trans rfl; have RP : w3.cell? ⟨ET, 3, none⟩ = some (.int .i64 aH) := (af sD.out 3).trans rfl; have X3 : w3.cell? ⟨ET, 4, none⟩ = some (.int .i64 bu) := (af sD.out 4).trans rfl; have X4 : w3.cell? ⟨ET, 5, none⟩ = some (.int .i64 bC) := (af sD.out 5).trans rfl; have X5 : w3.cell? ⟨ET, 6, none⟩ = some (.slice dP aK.length dQ) := (af sD.out 6).trans rfl; have RS := ah sD.out 0; have RU := ah sD.out 1; have RX := ah sD.out 2; have RY := ah sD.out 3; have Yk := ah sD.out 4; have Yl := ah sD.out 5; have Ym := ah sD.out 6) | ((with_reducible refine jF (f := 12) rfl ?_); refine mf (some 4) rfl rfl Tryz.func12 (by kernel_rfl) rfl #[.agg #[.int .u8 az, .int .i64 aI, .int .i64 aC, .int .i64 aH, .int .i64 bu, .int .i64 bC, .slice dP aK.length dQ], .int .i64 200] rfl (by (try simp only [List.map_toArray, List.map_cons, List.map_nil]); rfl) ?_; (with_reducible refine (dX.calls k az aI aC aH bu bC _ _ aK 200 t105 _ ?nH ?rJ A2.out).mono ?_); (case nH => repeat (exact (Kd.g_ J4.out HB.out))); (case rJ => exact Vu.out); rintro e w5 ⟨rfl, hb⟩; refine ⟨_, rfl, ?_⟩; replace sD := ae.mk (aW sD.out hb); replace HB := ae.mk (au (by repeat ((with_reducible exact HB.out))) hb); (try clear hb)))
 go_ret
 exact ⟨by rfl, by repeat ((with_reducible exact HB.out))⟩
mutual
def eF.l0 : Nat → List (ai) → Int → Int → Int → Int → Int → Int → Int → Int → List (ai) → Option ((List (ai)))
 | 0, _, _, _, _, _, _, _, _, _, _ => none
 | k + 1, x3, x9, x10, afT, afU, afV, afW, afX, afY, wH => if x10 < x9 then (if 0 ≤ x10 then (if x10 < (wH.length : Int) then ((eF.f k ((aj wH x10).f0) ((aj wH x10).f1.f0) ((aj wH x10).f1.f1) ((aj wH x10).f1.f2) ((aj wH x10).f1.f3) ((aj wH x10).f2) ((aj wH x10).f3)).bind fun t136 => (if x3.length + t136.length < 1954687338268 then (eF.l0 k (x3 ++ t136) x9 (wrap64 (x10 + 1)) afT afU afV afW afX afY wH) else (none))) else (none)) else (none)) else (some x3)
def eF.f : Nat → Int → Int → Int → Int → Int → Int → List (ai) → Option ((List (ai)))
 | 0, _, _, _, _, _, _, _ => none
 | k + 1, az, aI, aC, aH, bu, bC, aK => eF.l0 k (([(⟨az, (⟨aI, aC, aH, bu⟩ : dW), bC, aK⟩ : ai)] : List (ai))) (aK.length : Int) 0 az aI aC aH bu bC aK
end
theorem eF.calls (k : Nat) : ∀ (az : Int) (aI : Int) (aC : Int) (aH : Int) (bu : Int) (bC : Int) (gV : Nat → Prop) (dP : Option Addr) (dQ : Nat) (aK : List (ai)) (r : List (ai)) (w : World) (Io : Kd.V k26 26 w w.heap.size (fun k_ => gV k_) (.slice dP aK.length dQ) aK) (h : eF.f k az aI aC aH bu bC aK = some r),
  Calls Tryz.prog 5 #[.agg #[.int .u8 az, .int .i64 aI, .int .i64 aC, .int .i64 aH, .int .i64 bu, .int .i64 bC, .slice dP aK.length dQ]] w fun e w' => ∃ rP : Value, e = .returned (rP) ∧ Kd.N k26 26 w' w.heap.size (fun k_ => (gV k_ ∨ w.heap.size ≤ k_)) rP r ∧ Below w.heap.size w w' := by
 induction k using Nat.strongRecOn with
 | _ k ih =>
 intro az aI aC aH bu bC gV dP dQ aK r w Io h
 cases k with
 | zero => exact absurd h (by simp [eF.f])
 | succ k =>
 simp only [eF.f] at h
 have EX := Tryz.underlying26
 have kJ := ae.mk (show Kd.V k26 26 w w.heap.size (fun k_ => (gV k_ ∨ w.heap.size ≤ k_)) (.slice dP aK.length dQ) aK from Kd.iw Io (fun k_ hk => .inl hk))
 have HB := ae.mk (Below.refl w.heap.size w)
 have H : (eF.l0 k (([(⟨az, (⟨aI, aC, aH, bu⟩ : dW), bC, aK⟩ : ai)] : List (ai))) (aK.length : Int) 0 az aI aC aH bu bC aK) = some r := h
 clear h
 obtain ⟨ajK, VW⟩ : ∃ y_ : List (ai), y_ = (([(⟨az, (⟨aI, aC, aH, bu⟩ : dW), bC, aK⟩ : ai)] : List (ai))) := ⟨_, rfl⟩
 replace H : (eF.l0 k ajK (aK.length : Int) 0 az aI aC aH bu bC aK) = some r := by (rw [VW]; with_reducible exact H)
 have akb := ae.mk VW
 clear VW
 have H' := ae.mk H
 clear H
 go_enter Tryz.func5, Tryz.ntmps5
 go_wp2_with (first | ((with_reducible refine aA (N := 1) rfl ?_); refine aV ?hg (N := 1) ?hd (cs := #[.int .u8 az, .int .i64 aI, .int .i64 aC, .int .i64 aH, .int .i64 bu, .int .i64 bC, .slice dP aK.length dQ]) (t := 26) ?hr ?_; (case hd => rfl); (case hg => rfl); (case hr => (go_simp; done)); intro jh hg w2 hbox hb; have fZ := ae.mk (hbox); replace kJ := ae.mk (Kd.kH (Kd.qh kJ.out jh (Nat.le_of_eq hg.symm)) hb); replace HB := ae.mk (au (by repeat ((with_reducible exact HB.out))) hb); clear hb hbox hg; have ah7 : w2.cell? ⟨jh, 0, none⟩ = some (.int .u8 az) := (af fZ.out 0).trans rfl; have ah8 : w2.cell? ⟨jh, 1, none⟩ = some (.int .i64 aI) := (af fZ.out 1).trans rfl; have ah9 : w2.cell? ⟨jh, 2, none⟩ = some (.int .i64 aC) := (af fZ.out 2).trans rfl; have ah_ : w2.cell? ⟨jh, 3, none⟩ = some (.int .i64 aH) := (af fZ.out 3).trans rfl; have ah' : w2.cell? ⟨jh, 4, none⟩ = some (.int .i64 bu) := (af fZ.out 4).trans rfl; have aia : w2.cell? ⟨jh, 5, none⟩ = some (.int .i64 bC) := (af fZ.out 5).trans rfl; have aib : w2.cell? ⟨jh, 6, none⟩ = some (.slice dP aK.length dQ) := (af fZ.out 6).trans rfl; have aij := ah fZ.out 0; have aik := ah fZ.out 1; have ail := ah fZ.out 2; have aim := ah fZ.out 3; have ain := ah fZ.out 4; have aio := ah fZ.out 5; have aip := ah fZ.out 6) | ((with_reducible refine aA (N := 6) rfl ?_); refine Kd.Bd k26 _ 26 ?hg (N' := 6) ?hd (xs := ([(⟨az, (⟨aI, aC, aH, bu⟩ : dW), bC, aK⟩ : ai)] : List (ai))) (inner := [.int .u8 az, .int .i64 aI, .int .i64 aC, .int .i64 aH, .int .i64 bu, .int .i64 bC, .slice dP aK.length dQ]) (ok := (fun k_ => (gV k_ ∨ w.heap.size ≤ k_) ∧ k_ ≠ jh)) (gz := (fun k_ => (gV k_ ∨ w.heap.size ≤ k_) ∧ k_ ≠ jh)) ?hr ?hp (fun _ hk => hk) ((show ∀ k_, w2.heap.size ≤ k_ → (fun k_ => (gV k_ ∨ w.heap.size ≤ k_) ∧ k_ ≠ jh) k_ from fun k_ hk => ⟨(.inr (Nat.le_trans (dE (by repeat ((with_reducible exact HB.out)))) hk)), Kd.zQ fZ.out k_ hk⟩) _ (Nat.le_refl _)) (Below.refl _ _) (Nat.le_refl _) (by simp) ?_; (case hd => rfl); (case hg => rfl); (case hr => (go_simp; done)); (case hp => exact (dC.c7 (show Kd.FK k26 _ _ (⟨az, (⟨aI, aC, aH, bu⟩ : dW), bC, aK⟩ : ai) [.int .u8 az, .int .i64 aI, .int .i64 aC, .int .i64 aH, .int .i64 bu, .int .i64 bC, .slice dP aK.length dQ] from (pY _ _ (⟨az, (⟨aI, aC, aH, bu⟩ : dW), bC, aK⟩ : ai) (Kd.lF (Kd.iw (ok' := (fun k_ => (gV k_ ∨ w.heap.size ≤ k_) ∧ k_ ≠ jh)) (kJ.out) (fun k_ hk => ⟨hk.1, hk.2⟩))).2.1 (Kd.Xv (Kd.iw (ok' := (fun k_ => (gV k_ ∨ w.heap.size ≤ k_) ∧ k_ ≠ jh)) (kJ.out) (fun k_ hk => ⟨hk.1, hk.2⟩))))) (dC.none _ _))); intro arM w4 Cc hb pG jZ; clear pG jZ; (rw [← akb.out] at Cc); have ajY := ae.mk (Kd.vU Cc (dE (by repeat ((with_reducible exact HB.out))))); replace kJ := ae.mk (Kd.yO kJ.out (Kd.uY Cc) hb); replace fZ := ae.mk (aW fZ.out hb); replace HB := ae.mk (au (by repeat ((with_reducible exact HB.out))) hb); clear hb Cc; have BJ : w4.cell? ⟨jh, 0, none⟩ = some (.int .u8 az) := (af fZ.out 0).trans rfl; have BK : w4.cell? ⟨jh, 1, none⟩ = some (.int .i64 aI) := (af fZ.out 1).trans rfl; have BL : w4.cell? ⟨jh, 2, none⟩ = some (.int .i64 aC) := (af fZ.out 2).trans rfl; have BM : w4.cell? ⟨jh, 3, none⟩ = some (.int .i64 aH) := (af fZ.out 3).trans rfl; have BN : w4.cell? ⟨jh, 4, none⟩ = some (.int .i64 bu) := (af fZ.out 4).trans rfl; have BO : w4.cell? ⟨jh, 5, none⟩ = some (.int .i64 bC) := (af fZ.out 5).trans rfl; have BP : w4.cell? ⟨jh, 6, none⟩ = some (.slice dP aK.length dQ) := (af fZ.out 6).trans rfl; have BQ := ah fZ.out 0; have BR := ah fZ.out 1; have BU := ah fZ.out 2; have BV := ah fZ.out 3; have BX := ah fZ.out 4; have BZ := ah fZ.out 5; have B_ := ah fZ.out 6))
 go_loopg [3, 10] k (fun kq v3 v10 w' => ∃ (jU : List (ai)) (bT : Int), v10 = .int .i64 bT ∧ ae (eF.l0 kq jU (aK.length : Int) bT az aI aC aH bu bC aK = some r) ∧ ae (kq ≤ k) ∧ ae (Kd.N k26 26 w' w.heap.size (fun k_ => (gV k_ ∨ w.heap.size ≤ k_) ∧ k_ ≠ jh) v3 jU) ∧ ae (Kd.V k26 26 w' w.heap.size (fun k_ => (gV k_ ∨ w.heap.size ≤ k_) ∧ some k_ ≠ (v3 : Value).ownBlock ∧ k_ ≠ jh) (.slice dP aK.length dQ) aK) ∧ ae (w'.heap[jh]? = some (.cells #[.int .u8 az, .int .i64 aI, .int .i64 aC, .int .i64 aH, .int .i64 bu, .int .i64 bC, (.slice dP aK.length dQ)] 26 (0, 0))) ∧ ae (Below w.heap.size w w'))
 case atStart => exact ⟨(ajK), (0), (by rfl), H', ⟨Nat.le_refl _⟩, ⟨by exact ajY.out⟩, ⟨by exact Kd.iw kJ.out (fun _ hk => ⟨hk.1.1, ⟨hk.2, hk.1.2⟩⟩)⟩, ⟨by exact fZ.out⟩, ⟨by repeat ((with_reducible exact HB.out))⟩⟩
 case round =>
  clear H'
  clear ah7 ah8 ah9 ah_ ah' aia aib BJ BK BL BM BN BO BP aij aik ail aim ain aio aip BQ BR BU BV BX BZ B_
  obtain ⟨jU, bT, rfl, HA, lh, kZ, uX, fZ, HB⟩ := hrel
  cases gk with
  | zero => exact absurd HA.out (by simp [eF.l0])
  | succ k1 =>
   have H := HA.out
   clear HA
   simp only [eF.l0] at H
   by_cases c7 : bT < (aK.length : Int)
   ·rw [if_pos c7] at H
    have yT : decide (bT < (aK.length : Int)) = true := decide_eq_true c7
    clear c7
    by_cases c8 : 0 ≤ bT
    ·rw [if_pos c8] at H
     have DL : decide (0 ≤ bT) = true := decide_eq_true c8
     clear c8
     by_cases c9 : bT < (aK.length : Int)
     ·rw [if_pos c9] at H
      have Jh : decide (bT < (aK.length : Int)) = true := decide_eq_true c9
      clear c9
      replace H := Option.bind_eq_some_iff.mp H
      obtain ⟨t136, af4, H⟩ := H
      replace H : (if jU.length + t136.length < 1954687338268 then (eF.l0 k1 (jU ++ t136) (aK.length : Int) (wrap64 (bT + 1)) az aI aC aH bu bC aK) else (none)) = some r := H
      have A10 := ae.mk af4
      clear af4
      by_cases c11 : jU.length + t136.length < 1954687338268
      ·rw [if_pos c11] at H
       have aj9 := ae.mk c11
       clear c11
       obtain ⟨ajL, VX⟩ : ∃ y_ : List (ai), y_ = (jU ++ t136) := ⟨_, rfl⟩
       replace H : (eF.l0 k1 ajL (aK.length : Int) (wrap64 (bT + 1)) az aI aC aH bu bC aK) = some r := by (rw [VX]; with_reducible exact H)
       have akc := ae.mk VX
       clear VX
       have H' := ae.mk H
       clear H
       have Uy : wr.cell? ⟨jh, 0, none⟩ = some (.int .u8 az) := (af fZ.out 0).trans rfl
       have Uz : wr.cell? ⟨jh, 1, none⟩ = some (.int .i64 aI) := (af fZ.out 1).trans rfl
       have UA : wr.cell? ⟨jh, 2, none⟩ = some (.int .i64 aC) := (af fZ.out 2).trans rfl
       have UB : wr.cell? ⟨jh, 3, none⟩ = some (.int .i64 aH) := (af fZ.out 3).trans rfl
       have adN : wr.cell? ⟨jh, 4, none⟩ = some (.int .i64 bu) := (af fZ.out 4).trans rfl
       have adO : wr.cell? ⟨jh, 5, none⟩ = some (.int .i64 bC) := (af fZ.out 5).trans rfl
       have adP : wr.cell? ⟨jh, 6, none⟩ = some (.slice dP aK.length dQ) := (af fZ.out 6).trans rfl
       have UG := ah fZ.out 0
       have UH := ah fZ.out 1
       have UI := ah fZ.out 2
       have UJ := ah fZ.out 3
       have aet := ah fZ.out 4
       have aeu := ah fZ.out 5
       have aev := ah fZ.out 6
       have Wj : 0 ≤ (bT : Int) := of_decide_eq_true (by (with_reducible assumption))
       have Wq : bT < (aK.length : Int) := of_decide_eq_true (by (with_reducible assumption))
       obtain ⟨aqO, af6, ahh, amZ, aop, aoq, aor, aos, aot, aou, ae0, aeY, aeW⟩ := qi (Kd.lF uX.out).2.2 bT Wj Wq
       cases amZ
       obtain ⟨aqU, ah3, ahY, XY⟩ := Kd.akt uX.out z26 bT Wj Wq
       obtain ⟨aoI, aoL, rfl, N9, ML⟩ := oK ahY
       have Ip := XY 6 _ rfl
       rw [lG _ _ 6 (by omega)] at Ip
       replace Ip := Option.some.inj (Ip.symm.trans ae0)
       injection Ip with yC EY yD
       rw [yC] at ML
       rw [yD] at N9
       have D6 := ae.mk (show Kd.V k26 26 _ w.heap.size _ _ ((aj aK bT).f3) from Kd.wR N9 ML)
       clear yC EY yD ML N9
       clear XY ah3
       clear aeW aeY
       replace Wj := eq_true Wj
       replace Wq := eq_true Wq
       go_wp2_with (first | ((with_reducible refine jF (f := 5) rfl ?_); refine mf (some 19) rfl rfl Tryz.func5 (by kernel_rfl) rfl #[.agg #[.int .u8 ((aj aK bT).f0), .int .i64 ((aj aK bT).f1.f0), .int .i64 ((aj aK bT).f1.f1), .int .i64 ((aj aK bT).f1.f2), .int .i64 ((aj aK bT).f1.f3), .int .i64 ((aj aK bT).f2), .slice af6 ((aj aK bT).f3).length ahh]] rfl (by (try simp only [List.map_toArray, List.map_cons, List.map_nil]); rfl) ?_; (with_reducible refine (ih k1 (by have := lh.out; omega) ((aj aK bT).f0) ((aj aK bT).f1.f0) ((aj aK bT).f1.f1) ((aj aK bT).f1.f2) ((aj aK bT).f1.f3) ((aj aK bT).f2) (fun k_ => ((gV k_ ∨ w.heap.size ≤ k_) ∧ (some k_ ≠ (u3 : Value).ownBlock ∧ k_ ≠ jh))) _ _ ((aj aK bT).f3) t136 _ ?nH A10.out).mono ?_); (case nH => exact D6.out); rintro e uU ⟨arN, rfl, ho0, hb⟩; refine ⟨_, rfl, ?_⟩; have Px := ae.mk (Kd.vU (Kd.iZ (ok' := fun k_ => (gV k_ ∨ w.heap.size ≤ k_) ∧ some k_ ≠ (u3 : Value).ownBlock ∧ k_ ≠ jh) ho0 (fun k_ IL => ⟨Or.elim IL (fun hs_ => hs_.1) (fun Cb => (.inr (Nat.le_trans (dE (by repeat ((with_reducible exact HB.out)))) Cb))), Or.elim IL (fun hs_ => hs_.2.1) (fun Cb => (Kd.fresh' (Kd.Gi kZ.out) k_ Cb)), Or.elim IL (fun hs_ => hs_.2.2) (fun Cb => (Kd.zQ fZ.out k_ Cb))⟩)) (dE (by repeat ((with_reducible exact HB.out))))); replace kZ := ae.mk (Kd.Qg kZ.out (Kd.uY ho0) hb); replace uX := ae.mk (Kd.yO uX.out (Kd.uY ho0) hb); replace D6 := ae.mk (Kd.yO D6.out (Kd.uY ho0) hb); replace fZ := ae.mk (aW fZ.out hb); replace HB := ae.mk (au (by repeat ((with_reducible exact HB.out))) hb); (try clear hb); (try clear ho0); obtain ⟨LM, MG, Ry⟩ := Kd.jO Px.out; subst Ry) | ((with_reducible refine oJ (b := .append) (xs := #[.tmp 13, .tmp 19]) rfl ?_); at_builtin; refine Kd.FP k26 (w0 := w) w.heap.size rfl (.tmp 13) (.tmp 19) 24 26 (.agg #[(.int .u8 0), (.int .i64 0), (.int .i64 0), (.int .i64 0), (.int .i64 0), (.int .i64 0), (.slice none 0 0)]) 72 rfl Tryz.underlying24 info26 rfl (by decide) (by omega) u3 jU t136 _ _ _ (fun k_ => (gV k_ ∨ w.heap.size ≤ k_) ∧ k_ ≠ jh) (fun k_ => ((fun k_ => (gV k_ ∨ w.heap.size ≤ k_) ∧ k_ ≠ jh)) k_ ∧ some k_ ≠ (u3 : Value).ownBlock) rfl rfl ?aO ?aR (fun _ hk => hk) ?aF ?aB ?aS ?aL ?_; (case aR => exact (by exact Kd.N_F (Kd.iZ (ok' := (fun k_ => ((fun k_ => (gV k_ ∨ w.heap.size ≤ k_) ∧ k_ ≠ jh)) k_ ∧ some k_ ≠ (u3 : Value).ownBlock)) (Px.out) (fun k_ hk => ⟨⟨hk.1, hk.2.2⟩, hk.2.1⟩)))); (case aB => exact (by repeat ((with_reducible exact HB.out)))); (case aF => exact (fun k_ hk => ⟨(.inr (Nat.le_trans (dE (by repeat ((with_reducible exact HB.out)))) hk)), Kd.zQ fZ.out k_ hk⟩)); (case aO => exact (by exact Kd.iZ kZ.out (fun _ hk => ⟨hk.1.1, hk.1.2⟩))); (case aS => exact (dE (by repeat ((with_reducible exact HB.out))))); (case aL => have := aj9.out; omega); intro arO w14 ho hb hg hat; rw [← akc.out] at ho; have ajZ := ae.mk (ho); replace uX := ae.mk (Kd.BD (ok := (fun k_ => (gV k_ ∨ w.heap.size ≤ k_) ∧ some k_ ≠ (.slice LM t136.length MG : Value).ownBlock ∧ k_ ≠ jh)) (by exact Kd.iw uX.out (fun _ hk => ⟨⟨hk.1.1, ⟨hk.2, hk.1.2.2⟩⟩, hk.1.2.1⟩)) hg hat); replace fZ := ae.mk (dH fZ.out hg (Kd.Xm kZ.out (fun _ hk => hk.1.2))); replace D6 := ae.mk (Kd.BD (ok := (fun k_ => (gV k_ ∨ w.heap.size ≤ k_) ∧ some k_ ≠ (.slice LM t136.length MG : Value).ownBlock ∧ k_ ≠ jh)) (by exact Kd.iw D6.out (fun _ hk => ⟨⟨hk.1.1, ⟨hk.2, hk.1.2.2⟩⟩, hk.1.2.1⟩)) hg hat); replace Px := ae.mk (Kd.Jc (ok := (fun k_ => (gV k_ ∨ w.heap.size ≤ k_) ∧ k_ ≠ jh)) (by exact Kd.iZ Px.out (fun _ hk => ⟨⟨hk.1, hk.2.2⟩, hk.2.1⟩)) hg hat); replace HB := ae.mk (hb); clear kZ; clear ho hb hg hat))
       go_roundg k1
       case measure => have := lh.out; omega
       case rel => exact ⟨(ajL), (wrap64 (bT + 1)), (by rfl), H', ⟨by have := lh.out; omega⟩, ⟨by exact ajZ.out⟩, ⟨by exact Kd.iw uX.out (fun _ hk => ⟨hk.1.1, ⟨hk.2, hk.1.2.2⟩⟩)⟩, ⟨by exact fZ.out⟩, ⟨by repeat ((with_reducible exact HB.out))⟩⟩
      ·rw [if_neg c11] at H
       exact absurd H (by simp)
     ·rw [if_neg c9] at H
      exact absurd H (by simp)
    ·rw [if_neg c8] at H
     exact absurd H (by simp)
   ·rw [if_neg c7] at H
    have yT : decide (bT < (aK.length : Int)) = false := decide_eq_false c7
    clear c7
    obtain rfl := Option.some.inj H
    go_wp2
    go_ret
    exact ⟨_, by rfl, by exact Kd.iZ kZ.out (fun _ hk => hk.1), by repeat ((with_reducible exact HB.out))⟩
def dL.l0 : Nat → List (ai) → List (ai) → Int → Int → Option ((List (ai)))
 | 0, _, _, _, _ => none
 | k + 1, x3, x4, x10, x11 => if x11 < x10 then (if 0 ≤ x11 then (if x11 < (x4.length : Int) then (if ((aj x4 x11).f0) = 1 then (if x3.length < 1954687338268 then (dL.l0 k (x3 ++ [(⟨(aj x4 x11).f0, (⟨(aj x4 x11).f1.f0, (aj x4 x11).f1.f1, (aj x4 x11).f1.f2, (aj x4 x11).f1.f3⟩ : dW), (aj x4 x11).f2, (aj x4 x11).f3⟩ : ai)]) x4 x10 (wrap64 (x11 + 1))) else (none)) else (dL.l0 k x3 x4 x10 (wrap64 (x11 + 1)))) else (none)) else (none)) else (some x3)
def dL.f (k : Nat) (az : Int) (aI : Int) (aC : Int) (aH : Int) (bu : Int) (bC : Int) (aK : List (ai)) : Option ((List (ai))) := (eF.f k az aI aC aH bu bC aK).bind fun t146 => (dL.l0 k (([] : List (ai))) t146 (t146.length : Int) 0)
theorem dL.calls (k : Nat) (az : Int) (aI : Int) (aC : Int) (aH : Int) (bu : Int) (bC : Int) (gV : Nat → Prop) (dP : Option Addr) (dQ : Nat) (aK : List (ai)) (r : List (ai)) (w : World) (Io : Kd.V k26 26 w w.heap.size (fun k_ => gV k_) (.slice dP aK.length dQ) aK) (h : dL.f k az aI aC aH bu bC aK = some r) :
  Calls Tryz.prog 38 #[.agg #[.int .u8 az, .int .i64 aI, .int .i64 aC, .int .i64 aH, .int .i64 bu, .int .i64 bC, .slice dP aK.length dQ]] w fun e w' => ∃ rP : Value, e = .returned (rP) ∧ Kd.N k26 26 w' w.heap.size (fun k_ => (gV k_ ∨ w.heap.size ≤ k_)) rP r ∧ Below w.heap.size w w' := by
 have EX := Tryz.underlying26
 have kJ := ae.mk (show Kd.V k26 26 w w.heap.size (fun k_ => (gV k_ ∨ w.heap.size ≤ k_)) (.slice dP aK.length dQ) aK from Kd.iw Io (fun k_ hk => .inl hk))
 have HB := ae.mk (Below.refl w.heap.size w)
 have H : ((eF.f k az aI aC aH bu bC aK).bind fun t146 => (dL.l0 k (([] : List (ai))) t146 (t146.length : Int) 0)) = some r := h
 clear h
 obtain ⟨abR, VY⟩ : ∃ y_ : List (ai), y_ = (([] : List (ai))) := ⟨_, rfl⟩
 replace H : ((eF.f k az aI aC aH bu bC aK).bind fun t146 => (dL.l0 k abR t146 (t146.length : Int) 0)) = some r := by (rw [VY]; with_reducible exact H)
 have akd := ae.mk VY
 clear VY
 replace H := Option.bind_eq_some_iff.mp H
 obtain ⟨t146, Oy, H⟩ := H
 replace H : (dL.l0 k abR t146 (t146.length : Int) 0) = some r := H
 have A2 := ae.mk Oy
 clear Oy
 have H' := ae.mk H
 clear H
 go_enter Tryz.func38, Tryz.ntmps38
 go_wp2_with (first | ((with_reducible refine aA (N := 1) rfl ?_); refine aV ?hg (N := 1) ?hd (cs := #[.int .u8 az, .int .i64 aI, .int .i64 aC, .int .i64 aH, .int .i64 bu, .int .i64 bC, .slice dP aK.length dQ]) (t := 26) ?hr ?_; (case hd => rfl); (case hg => rfl); (case hr => (go_simp; done)); intro mW hg w3 hbox hb; have lI := ae.mk (hbox); replace kJ := ae.mk (Kd.kH (Kd.qh kJ.out mW (Nat.le_of_eq hg.symm)) hb); replace HB := ae.mk (au (by repeat ((with_reducible exact HB.out))) hb); clear hb hbox hg) | ((with_reducible refine aA (N := 6) rfl ?_); refine Kd.Bd k26 _ 26 ?hg (N' := 6) ?hd (xs := ([] : List (ai))) (inner := []) (ok := (fun k_ => (gV k_ ∨ w.heap.size ≤ k_) ∧ k_ ≠ mW)) (gz := (fun k_ => (gV k_ ∨ w.heap.size ≤ k_) ∧ k_ ≠ mW)) ?hr ?hp (fun _ hk => hk) ((show ∀ k_, w3.heap.size ≤ k_ → (fun k_ => (gV k_ ∨ w.heap.size ≤ k_) ∧ k_ ≠ mW) k_ from fun k_ hk => ⟨(.inr (Nat.le_trans (dE (by repeat ((with_reducible exact HB.out)))) hk)), Kd.zQ lI.out k_ hk⟩) _ (Nat.le_refl _)) (Below.refl _ _) (Nat.le_refl _) (by simp) ?_; (case hd => rfl); (case hg => rfl); (case hr => (go_simp; done)); (case hp => exact (dC.none _ _)); intro ajw w4 Cc hb pG jZ; clear pG jZ; (rw [← akd.out] at Cc); have Py := ae.mk (Kd.vU Cc (dE (by repeat ((with_reducible exact HB.out))))); replace kJ := ae.mk (Kd.yO kJ.out (Kd.uY Cc) hb); replace lI := ae.mk (aW lI.out hb); replace HB := ae.mk (au (by repeat ((with_reducible exact HB.out))) hb); clear hb Cc; have BJ : w4.cell? ⟨mW, 0, none⟩ = some (.int .u8 az) := (af lI.out 0).trans rfl; have BK : w4.cell? ⟨mW, 1, none⟩ = some (.int .i64 aI) := (af lI.out 1).trans rfl; have BL : w4.cell? ⟨mW, 2, none⟩ = some (.int .i64 aC) := (af lI.out 2).trans rfl; have BM : w4.cell? ⟨mW, 3, none⟩ = some (.int .i64 aH) := (af lI.out 3).trans rfl; have BN : w4.cell? ⟨mW, 4, none⟩ = some (.int .i64 bu) := (af lI.out 4).trans rfl; have BO : w4.cell? ⟨mW, 5, none⟩ = some (.int .i64 bC) := (af lI.out 5).trans rfl; have BP : w4.cell? ⟨mW, 6, none⟩ = some (.slice dP aK.length dQ) := (af lI.out 6).trans rfl; have BQ := ah lI.out 0; have BR := ah lI.out 1; have BU := ah lI.out 2; have BV := ah lI.out 3; have BX := ah lI.out 4; have BZ := ah lI.out 5; have B_ := ah lI.out 6) | ((with_reducible refine jF (f := 5) rfl ?_); refine mf (some 8) rfl rfl Tryz.func5 (by kernel_rfl) rfl #[.agg #[.int .u8 az, .int .i64 aI, .int .i64 aC, .int .i64 aH, .int .i64 bu, .int .i64 bC, .slice dP aK.length dQ]] rfl (by (try simp only [List.map_toArray, List.map_cons, List.map_nil]); rfl) ?_; (with_reducible refine (eF.calls k az aI aC aH bu bC (fun k_ => (((gV k_ ∨ w.heap.size ≤ k_) ∧ k_ ≠ mW) ∧ some k_ ≠ (ajw : Value).ownBlock)) _ _ aK t146 _ ?nH A2.out).mono ?_); (case nH => exact kJ.out); rintro e w7 ⟨arP, rfl, ho0, hb⟩; refine ⟨_, rfl, ?_⟩; have ab3 := ae.mk (Kd.vU (Kd.iZ (ok' := fun k_ => (gV k_ ∨ w.heap.size ≤ k_) ∧ some k_ ≠ (ajw : Value).ownBlock ∧ k_ ≠ mW) ho0 (fun k_ IL => ⟨Or.elim IL (fun hs_ => hs_.1.1) (fun Cb => (.inr (Nat.le_trans (dE (by repeat ((with_reducible exact HB.out)))) Cb))), Or.elim IL (fun hs_ => hs_.2) (fun Cb => (Kd.fresh' (Kd.Gi Py.out) k_ Cb)), Or.elim IL (fun hs_ => hs_.1.2) (fun Cb => (Kd.zQ lI.out k_ Cb))⟩)) (dE (by repeat ((with_reducible exact HB.out))))); replace kJ := ae.mk (Kd.yO kJ.out (Kd.uY ho0) hb); replace Py := ae.mk (Kd.Qg Py.out (Kd.uY ho0) hb); replace lI := ae.mk (aW lI.out hb); replace HB := ae.mk (au (by repeat ((with_reducible exact HB.out))) hb); (try clear hb); (try clear ho0); obtain ⟨Xb, FT, eo8⟩ := Kd.jO ab3.out; subst eo8))
 go_loopg [3, 11] k (fun kq v3 v11 w' => ∃ (jU : List (ai)) (bM : Int), v11 = .int .i64 bM ∧ ae (dL.l0 kq jU t146 (t146.length : Int) bM = some r) ∧ ae (kq ≤ k) ∧ ae (Kd.N k26 26 w' w.heap.size (fun k_ => (gV k_ ∨ w.heap.size ≤ k_) ∧ some k_ ≠ ((.slice Xb t146.length FT) : Value).ownBlock ∧ k_ ≠ mW) v3 jU) ∧ ae (Kd.N k26 26 w' w.heap.size (fun k_ => (gV k_ ∨ w.heap.size ≤ k_) ∧ some k_ ≠ (v3 : Value).ownBlock ∧ k_ ≠ mW) (.slice Xb t146.length FT) t146) ∧ ae (Kd.V k26 26 w' w.heap.size (fun k_ => (gV k_ ∨ w.heap.size ≤ k_) ∧ some k_ ≠ (v3 : Value).ownBlock ∧ some k_ ≠ ((.slice Xb t146.length FT) : Value).ownBlock ∧ k_ ≠ mW) (.slice dP aK.length dQ) aK) ∧ ae (w'.heap[mW]? = some (.cells #[.int .u8 az, .int .i64 aI, .int .i64 aC, .int .i64 aH, .int .i64 bu, .int .i64 bC, (.slice dP aK.length dQ)] 26 (0, 0))) ∧ ae (Below w.heap.size w w'))
 case atStart => exact ⟨(abR), (0), (by rfl), H', ⟨Nat.le_refl _⟩, ⟨by exact Kd.iZ Py.out (fun _ hk => ⟨hk.1.1, ⟨hk.2, hk.1.2⟩⟩)⟩, ⟨by exact ab3.out⟩, ⟨by exact Kd.iw kJ.out (fun _ hk => ⟨hk.1.1.1, ⟨hk.1.2, ⟨hk.2, hk.1.1.2⟩⟩⟩)⟩, ⟨by exact lI.out⟩, ⟨by repeat ((with_reducible exact HB.out))⟩⟩
 case round =>
  clear H'
  clear BJ BK BL BM BN BO BP BQ BR BU BV BX BZ B_
  obtain ⟨jU, bM, rfl, HA, lh, kZ, tZ, C_, lI, HB⟩ := hrel
  cases gk with
  | zero => exact absurd HA.out (by simp [dL.l0])
  | succ k1 =>
   have H := HA.out
   clear HA
   simp only [dL.l0] at H
   by_cases c9 : bM < (t146.length : Int)
   ·rw [if_pos c9] at H
    have Jh : decide (bM < (t146.length : Int)) = true := decide_eq_true c9
    clear c9
    by_cases c10 : 0 ≤ bM
    ·rw [if_pos c10] at H
     have PG : decide (0 ≤ bM) = true := decide_eq_true c10
     clear c10
     by_cases c11 : bM < (t146.length : Int)
     ·rw [if_pos c11] at H
      have Ic : decide (bM < (t146.length : Int)) = true := decide_eq_true c11
      clear c11
      by_cases c12 : ((aj t146 bM).f0) = 1
      ·rw [if_pos c12] at H
       have EN : (((aj t146 bM).f0) == 1) = true := beq_iff_eq.mpr c12
       have Kt : (((aj t146 bM).f0) != 1) = false := bne_eq_false_iff_eq.mpr c12
       clear c12
       by_cases c13 : jU.length < 1954687338268
       ·rw [if_pos c13] at H
        have aj' := ae.mk c13
        clear c13
        obtain ⟨y151, hy151⟩ : ∃ y_ : List (ai), y_ = (jU ++ [(⟨(aj t146 bM).f0, (⟨(aj t146 bM).f1.f0, (aj t146 bM).f1.f1, (aj t146 bM).f1.f2, (aj t146 bM).f1.f3⟩ : dW), (aj t146 bM).f2, (aj t146 bM).f3⟩ : ai)]) := ⟨_, rfl⟩
        replace H : (dL.l0 k1 y151 t146 (t146.length : Int) (wrap64 (bM + 1))) = some r := by (rw [hy151]; with_reducible exact H)
        have ake := ae.mk hy151
        clear hy151
        have H' := ae.mk H
        clear H
        have Ff : 0 ≤ (bM : Int) := of_decide_eq_true (by (with_reducible assumption))
        have Fj : bM < (t146.length : Int) := of_decide_eq_true (by (with_reducible assumption))
        obtain ⟨Dh, WW, XB, aaw, ae1, ae2, ae3, ae4, ae5, ae6, Iu, Nv, Ns⟩ := qi (Kd.jw tZ.out).2.2 bM Ff Fj
        cases aaw
        obtain ⟨akY, RH, RD, Gu⟩ := Kd.PD tZ.out z26 bM Ff Fj
        obtain ⟨afG, afH, rfl, Ez, Eg⟩ := oK RD
        have vX := Gu 6 _ rfl
        rw [lG _ _ 6 (by omega)] at vX
        replace vX := Option.some.inj (vX.symm.trans Iu)
        injection vX with yC EY yD
        rw [yC] at Eg
        rw [yD] at Ez
        clear yC EY yD Eg Ez
        clear Gu RH
        clear Ns Nv
        replace Ff := eq_true Ff
        replace Fj := eq_true Fj
        have Wl : 0 ≤ (bM : Int) := of_decide_eq_true (by (with_reducible assumption))
        have Ws : bM < (t146.length : Int) := of_decide_eq_true (by (with_reducible assumption))
        obtain ⟨aku, aoQ, apD, am0, aov, aow, aox, aoy, aoz, aoA, UY, aeZ, aeX⟩ := qi (Kd.jw tZ.out).2.2 bM Wl Ws
        obtain rfl : Dh = aku := (by injection am0)
        obtain ⟨aqV, ah4, ahZ, XZ⟩ := Kd.PD tZ.out z26 bM Wl Ws
        obtain ⟨aoJ, aoM, rfl, N_, MM⟩ := oK ahZ
        have Iq := XZ 6 _ rfl
        rw [lG _ _ 6 (by omega)] at Iq
        replace Iq := Option.some.inj (Iq.symm.trans UY)
        injection Iq with yC EY yD
        rw [yC] at MM
        rw [yD] at N_
        have H5 := ae.mk (show Kd.V k26 26 _ w.heap.size _ _ ((aj t146 bM).f3) from Kd.wR N_ MM)
        clear yC EY yD MM N_
        clear XZ ah4
        clear aeX aeZ
        replace Wl := eq_true Wl
        replace Ws := eq_true Ws
        have ea_ := Option.some.inj (Iu.symm.trans UY)
        injection ea_ with ea_ en_ ec_
        subst ea_
        subst ec_
        clear en_
        go_wp2_with (((with_reducible refine oJ (b := .append) (xs := #[.tmp 20, .tmp 25]) rfl ?_); at_builtin; refine Kd.Qe k26 (w0 := w) w.heap.size rfl (.tmp 20) (.tmp 25) 24 26 (.agg #[(.int .u8 0), (.int .i64 0), (.int .i64 0), (.int .i64 0), (.int .i64 0), (.int .i64 0), (.slice none 0 0)]) 72 rfl Tryz.underlying24 info26 rfl (by decide) (by omega) u3 jU (⟨(aj t146 bM).f0, (⟨(aj t146 bM).f1.f0, (aj t146 bM).f1.f1, (aj t146 bM).f1.f2, (aj t146 bM).f1.f3⟩ : dW), (aj t146 bM).f2, (aj t146 bM).f3⟩ : ai) [.int .u8 ((aj t146 bM).f0), .int .i64 ((aj t146 bM).f1.f0), .int .i64 ((aj t146 bM).f1.f1), .int .i64 ((aj t146 bM).f1.f2), .int .i64 ((aj t146 bM).f1.f3), .int .i64 ((aj t146 bM).f2), .slice WW ((aj t146 bM).f3).length XB] (fun k_ => (gV k_ ∨ w.heap.size ≤ k_) ∧ some k_ ≠ (.slice (some Dh) t146.length FT : Value).ownBlock ∧ k_ ≠ mW) (fun k_ => ((fun k_ => (gV k_ ∨ w.heap.size ≤ k_) ∧ some k_ ≠ (.slice (some Dh) t146.length FT : Value).ownBlock ∧ k_ ≠ mW)) k_ ∧ some k_ ≠ (u3 : Value).ownBlock) rfl rfl ?aP (fun _ hk => hk) ?aF ?aO ?aB ?aS ?aL ?_; (case aP => exact (pY _ _ (⟨(aj t146 bM).f0, (⟨(aj t146 bM).f1.f0, (aj t146 bM).f1.f1, (aj t146 bM).f1.f2, (aj t146 bM).f1.f3⟩ : dW), (aj t146 bM).f2, (aj t146 bM).f3⟩ : ai) (Kd.lF (Kd.iw (ok' := (fun k_ => ((fun k_ => (gV k_ ∨ w.heap.size ≤ k_) ∧ some k_ ≠ (.slice (some Dh) t146.length FT : Value).ownBlock ∧ k_ ≠ mW)) k_ ∧ some k_ ≠ (u3 : Value).ownBlock)) (H5.out) (fun k_ hk => ⟨⟨hk.1.1, ⟨hk.2, hk.1.2.2⟩⟩, hk.1.2.1⟩))).2.1 (Kd.Xv (Kd.iw (ok' := (fun k_ => ((fun k_ => (gV k_ ∨ w.heap.size ≤ k_) ∧ some k_ ≠ (.slice (some Dh) t146.length FT : Value).ownBlock ∧ k_ ≠ mW)) k_ ∧ some k_ ≠ (u3 : Value).ownBlock)) (H5.out) (fun k_ hk => ⟨⟨hk.1.1, ⟨hk.2, hk.1.2.2⟩⟩, hk.1.2.1⟩))))); (case aB => exact (by repeat ((with_reducible exact HB.out)))); (case aF => exact (fun k_ hk => ⟨(.inr (Nat.le_trans (dE (by repeat ((with_reducible exact HB.out)))) hk)), Kd.fresh' (Kd.Gi tZ.out) k_ hk, Kd.zQ lI.out k_ hk⟩)); (case aO => exact kZ.out); (case aS => exact (dE (by repeat ((with_reducible exact HB.out))))); (case aL => have := aj'.out; omega); intro v152 w14 ho hb hg hat; rw [← ake.out] at ho; have aj0 := ae.mk (ho); replace tZ := ae.mk (Kd.Jc (ok := (fun k_ => (gV k_ ∨ w.heap.size ≤ k_) ∧ k_ ≠ mW)) (by exact Kd.iZ tZ.out (fun _ hk => ⟨⟨hk.1, hk.2.2⟩, hk.2.1⟩)) hg hat); replace C_ := ae.mk (Kd.BD (ok := (fun k_ => (gV k_ ∨ w.heap.size ≤ k_) ∧ some k_ ≠ (.slice (some Dh) t146.length FT : Value).ownBlock ∧ k_ ≠ mW)) (by exact Kd.iw C_.out (fun _ hk => ⟨⟨hk.1, ⟨hk.2.2.1, hk.2.2.2⟩⟩, hk.2.1⟩)) hg hat); replace lI := ae.mk (dH lI.out hg (Kd.Xm kZ.out (fun _ hk => hk.2.2))); replace H5 := ae.mk (Kd.BD (ok := (fun k_ => (gV k_ ∨ w.heap.size ≤ k_) ∧ some k_ ≠ (.slice (some Dh) t146.length FT : Value).ownBlock ∧ k_ ≠ mW)) (by exact Kd.iw H5.out (fun _ hk => ⟨⟨hk.1.1, ⟨hk.2, hk.1.2.2⟩⟩, hk.1.2.1⟩)) hg hat); replace HB := ae.mk (hb); clear kZ; clear ho hb hg hat))
        go_roundg k1
        case measure => have := lh.out; omega
        case rel => exact ⟨(y151), (wrap64 (bM + 1)), (by rfl), H', ⟨by have := lh.out; omega⟩, ⟨by exact aj0.out⟩, ⟨by exact Kd.iZ tZ.out (fun _ hk => ⟨hk.1.1, ⟨hk.2, hk.1.2⟩⟩)⟩, ⟨by exact Kd.iw C_.out (fun _ hk => ⟨hk.1.1, ⟨hk.2, ⟨hk.1.2.1, hk.1.2.2⟩⟩⟩)⟩, ⟨by exact lI.out⟩, ⟨by repeat ((with_reducible exact HB.out))⟩⟩
       ·rw [if_neg c13] at H
        exact absurd H (by simp)
      ·rw [if_neg c12] at H
       have EN : (((aj t146 bM).f0) == 1) = false := beq_eq_false_iff_ne.mpr c12
       have Kt : (((aj t146 bM).f0) != 1) = true := bne_iff_ne.mpr c12
       have H' := ae.mk H
       clear H
       have Ff : 0 ≤ (bM : Int) := of_decide_eq_true (by (with_reducible assumption))
       have Fj : bM < (t146.length : Int) := of_decide_eq_true (by (with_reducible assumption))
       obtain ⟨Dh, WW, XB, aaw, ae1, ae2, ae3, ae4, ae5, ae6, Iu, Nv, Ns⟩ := qi (Kd.jw tZ.out).2.2 bM Ff Fj
       cases aaw
       obtain ⟨akY, RH, RD, Gu⟩ := Kd.PD tZ.out z26 bM Ff Fj
       obtain ⟨afG, afH, rfl, Ez, Eg⟩ := oK RD
       have vX := Gu 6 _ rfl
       rw [lG _ _ 6 (by omega)] at vX
       replace vX := Option.some.inj (vX.symm.trans Iu)
       injection vX with yC EY yD
       rw [yC] at Eg
       rw [yD] at Ez
       clear yC EY yD Eg Ez
       clear Gu RH
       clear Ns Nv
       replace Ff := eq_true Ff
       replace Fj := eq_true Fj
       go_wp2
       go_roundg k1
       case measure => have := lh.out; omega
       case rel => exact ⟨(jU), (wrap64 (bM + 1)), (by rfl), H', ⟨by have := lh.out; omega⟩, ⟨by exact kZ.out⟩, ⟨by exact tZ.out⟩, ⟨by exact C_.out⟩, ⟨by exact lI.out⟩, ⟨by repeat ((with_reducible exact HB.out))⟩⟩
     ·rw [if_neg c11] at H
      exact absurd H (by simp)
    ·rw [if_neg c10] at H
     exact absurd H (by simp)
   ·rw [if_neg c9] at H
    have Jh : decide (bM < (t146.length : Int)) = false := decide_eq_false c9
    clear c9
    obtain rfl := Option.some.inj H
    go_wp2
    go_ret
    exact ⟨_, by rfl, by exact Kd.iZ kZ.out (fun _ hk => hk.1), by repeat ((with_reducible exact HB.out))⟩
end Go.Proofs.YtfdmfgaiblfbhaaGreat.P
namespace Go.Proofs.YtfdmfgaiblfbhaaGreat.P
open Go.RowKit Go.Proofs.ag.aU Go.Proofs.ag.bK Go.Proofs.ag.cO
theorem jd (pre : List ai) (p : ai) (rest : List ai) : aj (pre ++ p :: rest) (pre.length : Int) = p := by
 simp [aj, List.getD_eq_getElem?_getD]
theorem FI {α : Type} (pre : List α) (p : α) (rest : List α) (h : (pre ++ p :: rest).length ≤ 9223372036854775807) : wrap64 ((pre.length : Int) + 1) = ((pre ++ [p]).length : Int) := by
 simp only [List.length_append, List.length_cons, List.length_nil] at h ⊢
 rw [wq (by omega) (by omega)]
 omega
theorem aaq (L : Int) : ∀ (N : Nat) (c : ai), sz c ≤ N → N ≤ 1048576 → ∃ n : Int, Ev (fun k => dX.f k c.f0 c.f1.f0 c.f1.f1 c.f1.f2 c.f1.f3 c.f2 c.f3 L) n ∧ 1 ≤ n ∧ n ≤ (sz c : Int) ∧ (n > L ∨ n = (sz c : Int)) := by
 intro N
 induction N with
 | zero => intro c h _; rw [bJ] at h; omega
 | succ N ih =>
  intro c hc hN
  have hs := bJ c
  have key : ∀ (rest pre : List ai), pre ++ rest = c.f3 → ∀ acc : Int, 1 ≤ acc → acc + (dY rest : Int) ≤ 1048576 → (acc > L ∨ acc = 1 + (dY pre : Int)) →
    ∃ n : Int, Ev (fun k => dX.l0 k L acc (c.f3.length : Int) (pre.length : Int) c.f0 c.f1.f0 c.f1.f1 c.f1.f2 c.f1.f3 c.f2 c.f3) n ∧ acc ≤ n ∧ n ≤ acc + (dY rest : Int) ∧ (n > L ∨ n = 1 + (dY c.f3 : Int)) := by
   intro rest
   induction rest with
   | nil =>
    intro pre hp acc h1 h2 h3
    rw [List.append_nil] at hp
    refine ⟨acc, Ev.step (f := fun _ => some acc) (fun k => ?_) (Ev.now _), by omega, by omega, by rw [← hp]; exact h3⟩
    simp only [dX.l0]
    rw [if_neg (by rw [hp]; omega)]
   | cons x xs ihr =>
    intro pre hp acc h1 h2 h3
    have hl : (pre.length : Int) < (c.f3.length : Int) := by rw [← hp, List.length_append, List.length_cons]; omega
    have hlen := jf c.f3
    by_cases hL : acc > L
    ·refine ⟨acc, Ev.step (f := fun _ => some acc) (fun k => ?_) (Ev.now _), by omega, by omega, .inl hL⟩
     simp only [dX.l0]
     rw [if_pos hl, if_pos hL]
    ·have h3' : acc = 1 + (dY pre : Int) := by omega
     have hsum : dY c.f3 = dY pre + (sz x + dY xs) := by rw [← hp, l7, bH]
     obtain ⟨n1, e1, a1, b1, c1⟩ := ih x (by omega) (by omega)
     rw [bH] at h2
     obtain ⟨n, e2, a2, b2, c2⟩ := ihr (pre ++ [x]) (by rw [List.append_assoc]; exact hp) (acc + n1) (by omega) (by omega) (by
      rw [l7, bH, l9]
      omega)
     refine ⟨n, ?_, by omega, by rw [bH]; omega, c2⟩
     have hw : wrap64 (acc + n1) = acc + n1 := wq (by omega) (by omega)
     have hr : aj c.f3 (pre.length : Int) = x := by rw [← hp]; exact jd pre x xs
     have hu : wrap64 ((pre.length : Int) + 1) = ((pre ++ [x]).length : Int) := FI pre x xs (by rw [hp]; omega)
     refine Ev.step (f := fun k => (dX.f k x.f0 x.f1.f0 x.f1.f1 x.f1.f2 x.f1.f3 x.f2 x.f3 L).bind fun t => dX.l0 k L (wrap64 (acc + t)) (c.f3.length : Int) (wrap64 ((pre.length : Int) + 1)) c.f0 c.f1.f0 c.f1.f1 c.f1.f2 c.f1.f3 c.f2 c.f3) (fun k => ?_) (Ev.bind e1 ?_)
     ·simp only [dX.l0]
      rw [if_pos hl, if_neg hL, if_pos (by omega), if_pos hl, hr]
     ·rw [hw, hu]
      exact e2
  obtain ⟨n, e, a, b, d⟩ := key c.f3 [] rfl 1 (by omega) (by omega) (.inr (by rw [l9]; rfl))
  refine ⟨n, Ev.step (fun k => ?_) e, a, by omega, by omega⟩
  simp only [dX.f]
  rfl
theorem aaF (c : ai) (h : sz c ≤ 1048576) : ∃ b : Bool, Ev (fun k => kX.f k c.f0 c.f1.f0 c.f1.f1 c.f1.f2 c.f1.f3 c.f2 c.f3) b ∧ (b = false → sz c ≤ 200) := by
 obtain ⟨n, e, h1, h2, h3⟩ := aaq 200 1048576 c h (Nat.le_refl _)
 refine ⟨decide (n > 200), ?_, fun hb => ?_⟩
 ·unfold kX.f
  exact Ev.bind e (Ev.now _)
 ·have := of_decide_eq_false hb
  omega
theorem OC : ∀ (N : Nat) (c : ai), sz c ≤ N → N ≤ 1048576 → Ev (fun k => eF.f k c.f0 c.f1.f0 c.f1.f1 c.f1.f2 c.f1.f3 c.f2 c.f3) (fU c) := by
 intro N
 induction N with
 | zero => intro c h _; rw [bJ] at h; omega
 | succ N ih =>
  intro c hc hN
  have hs := bJ c
  have key : ∀ (rest pre : List ai), pre ++ rest = c.f3 → Ev (fun k => eF.l0 k (c :: allL pre) (c.f3.length : Int) (pre.length : Int) c.f0 c.f1.f0 c.f1.f1 c.f1.f2 c.f1.f3 c.f2 c.f3) (fU c) := by
   intro rest
   induction rest with
   | nil =>
    intro pre hp
    rw [List.append_nil] at hp
    refine Ev.step (f := fun _ => some (fU c)) (fun k => ?_) (Ev.now _)
    simp only [eF.l0]
    rw [if_neg (by rw [hp]; omega), hp, lZ]
   | cons x xs ihr =>
    intro pre hp
    have hl : (pre.length : Int) < (c.f3.length : Int) := by rw [← hp, List.length_append, List.length_cons]; omega
    have hlen := jf c.f3
    have hsum : dY c.f3 = dY pre + (sz x + dY xs) := by rw [← hp, l7, bH]
    have e2 := ihr (pre ++ [x]) (by rw [List.append_assoc]; exact hp)
    have hr : aj c.f3 (pre.length : Int) = x := by rw [← hp]; exact jd pre x xs
    have hu : wrap64 ((pre.length : Int) + 1) = ((pre ++ [x]).length : Int) := FI pre x xs (by rw [hp]; omega)
    have ha : c :: allL (pre ++ [x]) = (c :: allL pre) ++ fU x := by rw [uf, iE, kS, List.append_nil, List.cons_append]
    have hb : (c :: allL pre).length + (fU x).length < 1954687338268 := by
     have h1 : (allL pre).length = dY pre := rfl
     have h2 : (fU x).length = sz x := rfl
     rw [List.length_cons, h1, h2]
     omega
    rw [ha] at e2
    refine Ev.step (f := fun k => (eF.f k x.f0 x.f1.f0 x.f1.f1 x.f1.f2 x.f1.f3 x.f2 x.f3).bind fun t => (if (c :: allL pre).length + t.length < 1954687338268 then (eF.l0 k ((c :: allL pre) ++ t) (c.f3.length : Int) (wrap64 ((pre.length : Int) + 1)) c.f0 c.f1.f0 c.f1.f1 c.f1.f2 c.f1.f3 c.f2 c.f3) else none)) (fun k => ?_) (Ev.bind (ih x (by omega) (by omega)) (KC hb ?_))
    ·simp only [eF.l0]
     rw [if_pos hl, if_pos (by omega), if_pos hl, hr]
    ·rw [hu]
     exact e2
  refine Ev.step (fun k => ?_) (key c.f3 [] rfl)
  simp only [eF.f, kS, Ik]
  rfl
def gX (c : ai) : List ai := (fU c).filter fun x => decide (x.f0 = 1)
theorem KY (c : ai) : (gX c).length ≤ sz c := List.length_filter_le _ _
theorem GH (c : ai) (h : sz c ≤ 1048576) : Ev (fun k => dL.f k c.f0 c.f1.f0 c.f1.f1 c.f1.f2 c.f1.f3 c.f2 c.f3) (gX c) := by
 unfold dL.f
 refine Ev.bind (OC _ c h (Nat.le_refl _)) ?_
 have key : ∀ (rest pre : List ai), pre ++ rest = fU c → Ev (fun k => dL.l0 k (pre.filter fun x => decide (x.f0 = 1)) (fU c) ((fU c).length : Int) (pre.length : Int)) (gX c) := by
  intro rest
  induction rest with
  | nil =>
   intro pre hp
   rw [List.append_nil] at hp
   refine Ev.step (f := fun _ => some (gX c)) (fun k => ?_) (Ev.now _)
   simp only [dL.l0]
   rw [if_neg (by rw [hp]; omega), hp]
   rfl
  | cons x xs ihr =>
   intro pre hp
   have hsz : (fU c).length ≤ 1048576 := h
   have hl : (pre.length : Int) < ((fU c).length : Int) := by rw [← hp, List.length_append, List.length_cons]; omega
   have e2 := ihr (pre ++ [x]) (by rw [List.append_assoc]; exact hp)
   have hr : aj (fU c) (pre.length : Int) = x := by rw [← hp]; exact jd pre x xs
   have hu : wrap64 ((pre.length : Int) + 1) = ((pre ++ [x]).length : Int) := FI pre x xs (by rw [hp]; omega)
   have hb : (pre.filter fun x => decide (x.f0 = 1)).length < 1954687338268 := by
    have := List.length_filter_le (fun x : ai => decide (x.f0 = 1)) pre
    omega
   rw [List.filter_append] at e2
   refine Ev.step (fun k => ?_) e2
   simp only [dL.l0]
   rw [if_pos hl, if_pos (by omega), if_pos hl, hr, hu]
   by_cases h1 : x.f0 = 1
   ·rw [if_pos h1, if_pos hb, List.filter_cons_of_pos (by simpa using h1), Ik]
    rfl
   ·rw [if_neg h1, List.filter_cons_of_neg (by simpa using h1), List.filter_nil, List.append_nil]
 exact key (fU c) [] rfl
end Go.Proofs.YtfdmfgaiblfbhaaGreat.P
namespace Go.Proofs.YtfdmfgaiblfbhaaGreat.P
open Go.RowKit Go.Proofs.ag.aU Go.Proofs.ag.bK Go.Proofs.ag.cO
attribute [local go_sem] jG jR kQ lq jJ jK kT kU
theorem ak1 (d : Nat) (w : World) (x0 y0 : Int) (x1 y1 : Int) (x2 y2 : Int) (x3 y3 : Int) :
  (Op.equalIn (d + 2) 23 (.agg #[.int .i64 x0, .int .i64 x1, .int .i64 x2, .int .i64 x3]) (.agg #[.int .i64 y0, .int .i64 y1, .int .i64 y2, .int .i64 y3])).run Tryz.prog w = .ok (x0 == y0 && (x1 == y1 && (x2 == y2 && (x3 == y3)))) w := by
 refine ahI Tryz.underlying23 (by kernel_rfl) ?_
 refine Jk (by rfl) (by go_simp; rfl) (by go_simp; rfl) (by go_simp) ?_
 refine Jk (by rfl) (by go_simp; rfl) (by go_simp; rfl) (by go_simp) ?_
 refine Jk (by rfl) (by go_simp; rfl) (by go_simp; rfl) (by go_simp) ?_
 exact aaB (by rfl) (by go_simp; rfl) (by go_simp; rfl) (by go_simp)
end Go.Proofs.YtfdmfgaiblfbhaaGreat.P
namespace Go.Proofs.YtfdmfgaiblfbhaaGreat.P
open Go.RowKit Go.Proofs.ag.aU Go.Proofs.ag.bK Go.Proofs.ag.cO
attribute [local go_sem] jG jR kQ lq jJ jK kT kU
attribute [local go_sem high] ak1
mutual
def jS.j0 : Nat → Bool → Int → Int → Int → Int → Int → Int → List (ai) → Int → Int → Int → Int → Int → Int → List (ai) → Option (Bool)
 | 0, _, _, _, _, _, _, _, _, _, _, _, _, _, _, _ => none
 | k + 1, x33, Og, Oh, Oi, Oj, Ol, Om, qU, Oo, Oq, Ot, Ou, Ov, Ox, tJ => if x33 = true then (some false) else (jS.l0 k (qU.length : Int) 0 Og Oh Oi Oj Ol Om qU Oo Oq Ot Ou Ov Ox tJ)
def jS.l0 : Nat → Int → Int → Int → Int → Int → Int → Int → Int → List (ai) → Int → Int → Int → Int → Int → Int → List (ai) → Option (Bool)
 | 0, _, _, _, _, _, _, _, _, _, _, _, _, _, _, _, _ => none
 | k + 1, x36, yL, Og, Oh, Oi, Oj, Ol, Om, qU, Oo, Oq, Ot, Ou, Ov, Ox, tJ => if yL < x36 then (if 0 ≤ yL then (if yL < (qU.length : Int) then (if yL < (tJ.length : Int) then ((jS.f k ((aj qU yL).f0) ((aj qU yL).f1.f0) ((aj qU yL).f1.f1) ((aj qU yL).f1.f2) ((aj qU yL).f1.f3) ((aj qU yL).f2) ((aj qU yL).f3) ((aj tJ yL).f0) ((aj tJ yL).f1.f0) ((aj tJ yL).f1.f1) ((aj tJ yL).f1.f2) ((aj tJ yL).f1.f3) ((aj tJ yL).f2) ((aj tJ yL).f3)).bind fun anB => (if anB = true then (jS.l0 k x36 (wrap64 (yL + 1)) Og Oh Oi Oj Ol Om qU Oo Oq Ot Ou Ov Ox tJ) else (some false))) else (none)) else (none)) else (none)) else (some true)
def jS.f : Nat → Int → Int → Int → Int → Int → Int → List (ai) → Int → Int → Int → Int → Int → Int → List (ai) → Option (Bool)
 | 0, _, _, _, _, _, _, _, _, _, _, _, _, _, _ => none
 | k + 1, az, aI, aC, aH, bu, bC, aK, Qk, Ql, Qm, Qn, Qo, Qp, SE => if az = Qk then (if (!(aI == Ql) || (!(aC == Qm) || (!(aH == Qn) || (!(bu == Qo))))) = true then (jS.j0 k true az aI aC aH bu bC aK Qk Ql Qm Qn Qo Qp SE) else (if bC = Qp then (jS.j0 k ((aK.length : Int) != (SE.length : Int)) az aI aC aH bu bC aK Qk Ql Qm Qn Qo Qp SE) else (jS.j0 k true az aI aC aH bu bC aK Qk Ql Qm Qn Qo Qp SE))) else (jS.j0 k true az aI aC aH bu bC aK Qk Ql Qm Qn Qo Qp SE)
end
def jS.T6 : Bool × List (List Nat × List Nat) := (true, [([], []), ([0], [0]), ([], []), ([1, 2], [1, 2]), ([3], [3]), ([], []), ([5], [5]), ([], []), ([6, 7], [6, 7]), ([8], [8]), ([4, 9], [4, 9]), ([10], [10])])
def jS.B6 : List Nat := [0, 1, 0, 7, 15, 0, 32, 0, 224, 480, 1023, 2047]
end Go.Proofs.YtfdmfgaiblfbhaaGreat.P
namespace Go.Proofs.YtfdmfgaiblfbhaaGreat.P
open Go.RowKit Go.Proofs.ag.aU Go.Proofs.ag.bK Go.Proofs.ag.cO
def o7 (a b : dW) : Bool := a.f0 == b.f0 && (a.f1 == b.f1 && (a.f2 == b.f2 && a.f3 == b.f3))
mutual
def xw : ai → ai → Bool
 | ⟨a, r, d, l⟩, ⟨a', r', d', l'⟩ => a == a' && (o7 r r' && (d == d' && (l.length == l'.length && v_ l l')))
def v_ : List ai → List ai → Bool
 | [], _ => true
 | _ :: _, [] => true
 | c :: cs, e :: es => xw c e && v_ cs es
end
theorem Tu (a b : ai) : xw a b = (a.f0 == b.f0 && (o7 a.f1 b.f1 && (a.f2 == b.f2 && (a.f3.length == b.f3.length && v_ a.f3 b.f3)))) := by cases a; cases b; simp [xw]
theorem zX (b : List ai) : v_ [] b = true := by cases b <;> simp [v_]
theorem yJ (c e : ai) (cs es : List ai) : v_ (c :: cs) (e :: es) = (xw c e && v_ cs es) := by simp [v_]
theorem WE : ∀ (N : Nat), (∀ c : ai, sz c ≤ N → xw c c = true) ∧ (∀ l : List ai, dY l ≤ N → v_ l l = true) := by
 intro N
 induction N with
 | zero =>
  refine ⟨fun c h => ?_, fun l h => ?_⟩
  ·rw [bJ] at h; omega
  ·cases l with
   | nil => exact zX _
   | cons x xs => rw [bH, bJ] at h; omega
 | succ N ih =>
  have hC : ∀ c : ai, sz c ≤ N + 1 → xw c c = true := by
   intro c h
   rw [bJ] at h
   rw [Tu, ih.2 c.f3 (by omega)]
   simp [o7]
  refine ⟨hC, fun l => ?_⟩
  induction l with
  | nil => intro _; exact zX _
  | cons x xs ihl =>
   intro h
   rw [bH] at h
   rw [yJ, hC x (by omega), ihl (by omega)]
   rfl
theorem vk {P : Program} {f : FuncId} {fn : Func} (hf : P.funcs[f]? = some fn) (hname : (fn.name == "runtime.NumGoroutine") = false) (hb : fn.body.isSome = true) : ∀ args w, (callFunc f args).run P w = .ok (.enter f args) w := by
 intro args w
 obtain ⟨c, hc⟩ := Option.isSome_iff_exists.1 hb
 have h1 : fn.name ≠ "runtime.NumGoroutine" := by simpa using hname
 simp [callFunc, hf, h1, hc, mark]
section
variable {σ α : Type}
def mY (step : σ → α → Bool × σ) : Int → σ → List α → Int × σ
 | _, s, [] => (-1, s)
 | i, s, x :: xs => if (step s x).1 = true then (i, (step s x).2) else mY step (i + 1) (step s x).2 xs
def uT (step : σ → α → Bool × σ) : σ → List α → Bool × σ
 | s, [] => (false, s)
 | s, x :: xs => if (step s x).1 = true then (true, (step s x).2) else uT step (step s x).2 xs
theorem aft (step : σ → α → Bool × σ) : ∀ (l : List α) (i : Int) (s : σ), 0 ≤ i → (uT step s l).1 = decide (0 ≤ (mY step i s l).1) ∧ (uT step s l).2 = (mY step i s l).2 := by
 intro l
 induction l with
 | nil => intro i s h; exact ⟨by simp [uT, mY], rfl⟩
 | cons x xs ih =>
  intro i s h
  simp only [uT, mY]
  split
  ·exact ⟨by simp [h], rfl⟩
  ·exact ih (i + 1) _ (by omega)
theorem Tv (step : σ → α → Bool × σ) (s : σ) (l : List α) : uT step s l = (decide (0 ≤ (mY step 0 s l).1), (mY step 0 s l).2) := by
 have h := aft step l 0 s (by omega)
 exact Prod.ext h.1 h.2
theorem Va (step : σ → α → Bool × σ) (z : α) (l : List α) (k : Nat) (h : k < l.length) (t : σ) :
  mY step k t (l.drop k) = if (step t (l.getD (k : Int).toNat z)).1 = true then ((k : Int), (step t (l.getD (k : Int).toNat z)).2) else mY step ((k + 1 : Nat) : Int) (step t (l.getD (k : Int).toNat z)).2 (l.drop (k + 1)) := by
 rw [List.drop_eq_getElem_cons h]
 simp only [mY, Int.toNat_natCast, List.getD_eq_getElem?_getD, List.getElem?_eq_getElem h, Option.getD_some]
 rfl
theorem FB (z : α) (l : List α) (k : Nat) (h : k < l.length) : l.getD (k : Int).toNat z ∈ l := by
 simp only [Int.toNat_natCast, List.getD_eq_getElem?_getD, List.getElem?_eq_getElem h, Option.getD_some]
 exact List.getElem_mem h
theorem O6 (p : α → Bool) : ∀ (l : List α) (s : Unit), uT (fun _ x => (p x, ())) s l = (l.any p, ()) := by
 intro l
 induction l with
 | nil => intro s; rfl
 | cons x xs ih =>
  intro s
  simp only [uT, List.any_cons]
  cases h : p x with
  | true => simp
  | false => simp [ih]
end
def vw {α β : Type} (r : α → β → Bool) : List α → List β → Bool
 | a :: ta, b :: tb => r a b && vw r ta tb
 | [], _ => true
 | _ :: _, [] => true
theorem ahJ {α β : Type} (r : α → β → Bool) (za : α) (zb : β) (la : List α) (lb : List β) (k : Nat) (ha : k < la.length) (hb : k < lb.length) :
  vw r (la.drop k) (lb.drop k) = (r (la.getD (k : Int).toNat za) (lb.getD (k : Int).toNat zb) && vw r (la.drop (k + 1)) (lb.drop (k + 1))) := by
 rw [List.drop_eq_getElem_cons ha, List.drop_eq_getElem_cons hb]
 simp only [vw, Int.toNat_natCast, List.getD_eq_getElem?_getD, List.getElem?_eq_getElem ha, List.getElem?_eq_getElem hb, Option.getD_some]
theorem MJ {α β : Type} (r : α → β → Bool) (lb : List β) : vw r ([] : List α) lb = true := by cases lb <;> rfl
def A8 (k : Int) : Int := (((k - 2) % 256) + 1) % 256
def tV (f0 : Int) (k : ai) : Int := if f0 = 2 then k.f1.f2 else k.f1.f3
def szK (c k : ai) : Int := tV c.f0 k
def kM (c : ai) : List Int := c.f3.map (szK c)
def AU (c : ai) : List dW × List dW × Bool := ui c.f1.f0 c.f1.f1 c.f1.f2 c.f1.f3 (A8 c.f0) (kM c)
theorem Rn (c : ai) : (AU c).1.length ≤ c.f3.length ∧ (AU c).2.1.length ≤ c.f3.length := by
 have h := aar c.f1.f0 c.f1.f1 c.f1.f2 c.f1.f3 (A8 c.f0) (kM c)
 rwa [show (kM c).length = c.f3.length from List.length_map _] at h
theorem Gp {c : ai} (h : (AU c).2.2 = true) : (A8 c.f0 = 1 ∨ A8 c.f0 = 2) ∧ (AU c).1 = AQ (A8 c.f0) c.f1.f0 c.f1.f1 c.f1.f2 c.f1.f3 0 (kM c) ∧ (kM c).sum + ((kM c).length : Int) - 1 = tX (A8 c.f0) c.f1.f2 c.f1.f3 ∧ ∀ m, m ∈ kM c → 1 ≤ m := XI h
def Fb (c : ai) (t : List dW × List dW × Bool) : Bool := c.f0 == 1 || (t.2.2 && (c.f3.length == t.1.length && vw (fun k r => o7 k.f1 r) c.f3 t.1))
def pz (c : ai) : Bool := Fb c (AU c)
def mP (c : ai) : Bool := (fU c).all pz
theorem vO (c : ai) : mP c = (pz c && c.f3.all mP) := by
 unfold mP
 rw [lZ, List.all_cons]
 congr 1
 generalize c.f3 = l
 induction l with
 | nil => rw [kS]; rfl
 | cons x xs ih => rw [iE, List.all_append, List.all_cons, ih]
theorem Uo {W : World} {f : FuncId} {args : Array Value} {t1 t2 : List dW} (h : Calls Tryz.prog f args W (PR W (t1, t2, true))) :
  Calls Tryz.prog f args W fun e w' => ∃ A c A' c' o o', e = .returned (.tuple #[.slice A t1.length c, .slice A' t2.length c', .bool true]) ∧ Two k23 23 k23 23 W w' (.slice A t1.length c) t1 (.slice A' t2.length c') t2 o o' ∧ Below W.heap.size W w' :=
 h.mono (fun _ _ ⟨A, c, A', c', o, o', h1, h2, h3⟩ => ⟨A, c, A', c', o, o', h1, h2 rfl, h3⟩)
theorem Ro {W : World} {f : FuncId} {args : Array Value} {t1 t2 : List dW} (h : Calls Tryz.prog f args W (PR W (t1, t2, false))) :
  Calls Tryz.prog f args W fun e w' => ∃ A n c A' n' c', e = .returned (.tuple #[.slice A n c, .slice A' n' c', .bool false]) ∧ Below W.heap.size W w' :=
 h.mono (fun _ _ ⟨A, c, A', c', _, _, h1, _, h3⟩ => ⟨A, _, c, A', _, c', h1, h3⟩)
abbrev VA (w : World) (c : ai) (e : Ending) (w' : World) : Prop := ∃ A n cc, e = .returned (.tuple #[.slice A n cc, .bool (pz c)]) ∧ (pz c = true → ∃ ls : List dW, n = ls.length ∧ ls.length ≤ c.f3.length ∧ k23.R 23 w' w.heap.size (fun _ => True) (.slice A ls.length cc) ls) ∧ Below w.heap.size w w'
theorem ado (k : Int) : (k - 1) % 256 = A8 k := by unfold A8; omega
theorem Ut {α β : Type} {r : α → β → Bool} : ∀ {a b : List α} {a' b' : List β}, a.length = a'.length → vw r (a ++ b) (a' ++ b') = (vw r a a' && vw r b b') := by
 intro a
 induction a with
 | nil => intro b a' b' h; cases a' with
  | nil => rw [MJ]; rfl
  | cons y ys => simp at h
 | cons x xs ih =>
  intro b a' b' h
  cases a' with
  | nil => simp at h
  | cons y ys =>
   simp only [List.cons_append, vw]
   rw [ih (by simpa using h), Bool.and_assoc]
theorem ai1 {α : Type} {r k : dW} (h : o7 k r = false) (x y : α) : (if r.f0 = k.f0 then if r.f1 = k.f1 then if r.f2 = k.f2 then if r.f3 = k.f3 then x else y else y else y else y) = y := by
 unfold o7 at h
 repeat' split
 all_goals first | rfl | (simp_all; done)
theorem agQ {base n c : Nat} {A : Option Addr} {l : List dW} {o : Obj} (h : KR k23 23 base (.slice A n c) l o) {W : World} (hm : ∀ g, (Value.slice A n c).ownBlock = some g → W.heap[g]? = some o) (pre rest : List dW) (r : dW) (hl : pre ++ r :: rest = l) :
  ∃ ad, A = some ad ∧ ∀ W : World, (∀ g, (Value.slice A n c).ownBlock = some g → W.heap[g]? = some o) → W.cell? (ad.add (pre.length * 4)) = some (.int .i64 r.f0) ∧ W.cell? ⟨(ad.add (pre.length * 4)).block, (ad.add (pre.length * 4)).off + 1, none⟩ = some (.int .i64 r.f1) ∧ W.cell? ⟨(ad.add (pre.length * 4)).block, (ad.add (pre.length * 4)).off + 2, none⟩ = some (.int .i64 r.f2) ∧ W.cell? ⟨(ad.add (pre.length * 4)).block, (ad.add (pre.length * 4)).off + 3, none⟩ = some (.int .i64 r.f3) := by
 have hi : (pre.length : Int) < l.length := by rw [← hl, List.length_append, List.length_cons]; omega
 have hr : tC l pre.length = r := by rw [← hl]; simp [tC, List.getD_eq_getElem?_getD]
 have key : ∀ W : World, (∀ g, (Value.slice A n c).ownBlock = some g → W.heap[g]? = some o) → ∃ ad, A = some ad ∧ W.cell? (ad.add (pre.length * 4)) = some (.int .i64 r.f0) ∧ W.cell? ⟨(ad.add (pre.length * 4)).block, (ad.add (pre.length * 4)).off + 1, none⟩ = some (.int .i64 r.f1) ∧ W.cell? ⟨(ad.add (pre.length * 4)).block, (ad.add (pre.length * 4)).off + 2, none⟩ = some (.int .i64 r.f2) ∧ W.cell? ⟨(ad.add (pre.length * 4)).block, (ad.add (pre.length * 4)).off + 3, none⟩ = some (.int .i64 r.f3) := fun W hW => by
  have hC := (Kd.eX (h W hW)).2.2
  have h2 := Qw hC (pre.length : Int) (Int.natCast_nonneg _) hi
  rw [hr] at h2
  exact h2
 obtain ⟨ad, hA, _⟩ := key W hm
 refine ⟨ad, hA, fun W hW => ?_⟩
 obtain ⟨ad2, h1, h2⟩ := key W hW
 rw [hA] at h1
 injection h1 with h1
 rw [h1]
 exact h2
end Go.Proofs.YtfdmfgaiblfbhaaGreat.P
