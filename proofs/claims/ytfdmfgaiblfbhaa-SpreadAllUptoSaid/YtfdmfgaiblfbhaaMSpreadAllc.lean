/- SpreadAll: part 3 of 7 of this claim's texts, one behind the other, made small by a program: the words of the kit's printer cut down to those that are used, the claim's own names made short. -/
import Derived.Test.YtfdmfgaiblfbhaaProg
import Derived.Below
import Derived.Deep.Draws
import Derived.Deep.AppendLies
import Derived.Maps.AppendAt
import Derived.OwnWalk
import Derived.Laws.BytesArg
import Derived.Laws.MakeOwn
import Derived.Laws.OwnMore
import Derived.Deep.OwnRows
import Derived.Tactics
import Derived.Lib.ConvBytes
import Derived.Laws.Slices
import Derived.WalkKit
import Derived.KernelRfl
import Derived.RowKit3
import Derived.Deep.LoopGhost
import Derived.Deep.QuietTactic
import Derived.BigQuiet
import Derived.WideLaws
import Derived.Deep.DeepCutAuto
import Derived.Deep.CutBlock
import Derived.Deep.RegionHeld3
import Derived.Laws.Rows
import Derived.Lib.AppendStr
import Derived.ArgAppend
import Derived.Laws.IdiomCopy
import Derived.OrdersHeld
import Derived.Laws.BitsLemmas
import Derived.RowKit
import Derived.Test.YtfdmfgaiblfbhaaMSpreadAlla
import Derived.Test.YtfdmfgaiblfbhaaMSpreadAllb
import Derived.Lib.Hide
set_option maxHeartbeats 8000000
set_option maxRecDepth 100000
set_option linter.unusedVariables false
set_option linter.unusedSimpArgs false
namespace Go.Proofs.Ytfdmfgaiblfbhaa.P
open Go.RowKit Go.Proofs.ai.bg Go.Proofs.ai.di Go.Proofs.ai.dG
attribute [local go_sem] kD kF lN lQ jF jG kE kG
def aws : Option Int → Value
 | none => .nilIface
 | some c => .iface 0 (.int .i64 c)
theorem info3 : (Try.prog.info? 3).map (fun i => (i.zero, i.size, i.bytes)) = some (some (.int .i64 0), 1, 8) := by kernel_rfl
theorem info23 : (Try.prog.info? 23).map (fun i => (i.zero, i.size, i.bytes)) = some (some (.agg #[(.int .i64 0), (.int .i64 0), (.int .i64 0), (.int .i64 0)]), 4, 32) := by kernel_rfl
theorem info26 : (Try.prog.info? 26).map (fun i => (i.zero, i.size, i.bytes)) = some (some (.agg #[(.int .u8 0), (.int .i64 0), (.int .i64 0), (.int .i64 0), (.int .i64 0), (.int .i64 0), (.slice none 0 0)]), 7, 72) := by kernel_rfl
structure bC where
 f0 : Int
 f1 : Int
 f2 : Int
 f3 : Int
def z23 : bC := ⟨(0 : Int), (0 : Int), (0 : Int), (0 : Int)⟩
def k23 : Kd bC := Kd.Xq (Kd.pair (Kd.int .i64) (Kd.pair (Kd.int .i64) (Kd.pair (Kd.int .i64) (Kd.int .i64)))) (fun x : bC => (x.f0, x.f1, x.f2, x.f3))
theorem ac0 : Kd.Heap k23 := Kd.Ul _ (Kd.yN (Kd.Ad .i64) (Kd.yN (Kd.Ad .i64) (Kd.yN (Kd.Ad .i64) (Kd.Ad .i64))))
theorem LD {w : World} {x : bC} {cs : List Value} (h : k23.K w x cs) : cs = [.int .i64 x.f0, .int .i64 x.f1, .int .i64 x.f2, .int .i64 x.f3] := by
 obtain ⟨_, _, rfl, rfl, ⟨_, _, rfl, rfl, ⟨_, _, rfl, rfl, rfl⟩⟩⟩ := h
 exact rfl
theorem UN (w : World) (x : bC)  : k23.K w x [.int .i64 x.f0, .int .i64 x.f1, .int .i64 x.f2, .int .i64 x.f3] := ⟨[.int .i64 x.f0], [.int .i64 x.f1, .int .i64 x.f2, .int .i64 x.f3], rfl, rfl, ⟨[.int .i64 x.f1], [.int .i64 x.f2, .int .i64 x.f3], rfl, rfl, ⟨[.int .i64 x.f2], [.int .i64 x.f3], rfl, rfl, rfl⟩⟩⟩
theorem qV (w : World) (base : Nat) (ok : Nat → Prop) (x : bC)  : k23.M w base ok x [.int .i64 x.f0, .int .i64 x.f1, .int .i64 x.f2, .int .i64 x.f3] := ⟨[.int .i64 x.f0], [.int .i64 x.f1, .int .i64 x.f2, .int .i64 x.f3], rfl, rfl, ⟨[.int .i64 x.f1], [.int .i64 x.f2, .int .i64 x.f3], rfl, rfl, ⟨[.int .i64 x.f2], [.int .i64 x.f3], rfl, rfl, rfl⟩⟩⟩
def fQ (xs : List bC) (i : Int) : bC := xs.getD i.toNat z23
theorem Nq {w : World} {A : Option Addr} {n : Nat} {xs : List bC} (h : Kd.C k23 w A n xs) (i : Int) (h0 : 0 ≤ i) (h1 : i < n) : ∃ ad , A = some ad ∧ w.cell? (ad.add (i.toNat * 4)) = some (.int .i64 (fQ xs i).f0) ∧ w.cell? ⟨(ad.add (i.toNat * 4)).block, (ad.add (i.toNat * 4)).off + 1, none⟩ = some (.int .i64 (fQ xs i).f1) ∧ w.cell? ⟨(ad.add (i.toNat * 4)).block, (ad.add (i.toNat * 4)).off + 2, none⟩ = some (.int .i64 (fQ xs i).f2) ∧ w.cell? ⟨(ad.add (i.toNat * 4)).block, (ad.add (i.toNat * 4)).off + 3, none⟩ = some (.int .i64 (fQ xs i).f3) := by
 obtain ⟨ad, c, e, _, hK, hc0⟩ := Kd.MO h z23 i h0 h1
 have hc : ∀ j u, c[j]? = some u → w.cell? (ad.add (i.toNat * 4 + j)) = some u := hc0
 obtain rfl := LD hK
 exact ⟨ad, e, hc 0 _ rfl, by rw [← mJ _ _ 1 (by omega)]; exact hc 1 _ rfl, by rw [← mJ _ _ 2 (by omega)]; exact hc 2 _ rfl, by rw [← mJ _ _ 3 (by omega)]; exact hc 3 _ rfl⟩
structure aI where
 f0 : Int
 f1 : bC
 f2 : Int
 f3 : (List aI)
def z26 : aI := ⟨(0 : Int), z23, (0 : Int), ([] : List aI)⟩
def VJ (d : Kd aI) : Kd aI := Kd.Xq (Kd.pair (Kd.int .u8) (Kd.pair k23 (Kd.pair (Kd.int .i64) (Kd.slice 26 d)))) (fun x : aI => (x.f0, x.f1, x.f2, x.f3))
theorem UU : Kd.zo VJ := Kd.ac9 _ (Kd.Jo (Kd.Hw _) (Kd.Jo (Kd.Hw _) (Kd.Jo (Kd.Hw _) (Kd.Zo 26 Kd.ah_))))
theorem anZ : Kd.Sub VJ [26] := Kd.ain _ (Kd.Mc (Kd.sub_const _ (by decide)) (Kd.Mc (Kd.sub_const _ (by decide)) (Kd.Mc (Kd.sub_const _ (by decide)) (Kd.abJ 26 (by decide) Kd.alh))))
theorem ZC : ∀ n, (Kd.upto VJ 7 [26] n).sz = 7 := Kd.aiw (fun _ => rfl)
def k26 : Kd aI := Kd.fix VJ 7 [26] ZC (Kd.abN anZ)
theorem wX : Kd.Heap k26 := Kd.acV (fun _ h_ => Kd.Ul _ (Kd.yN (Kd.Ad .u8) (Kd.yN ac0 (Kd.yN (Kd.Ad .i64) (Kd.YR 26 h_)))))
theorem Ht {w : World} {x : aI} {cs : List Value} (h : k26.K w x cs) : ∃ A6 c6, cs = [.int .u8 x.f0, .int .i64 x.f1.f0, .int .i64 x.f1.f1, .int .i64 x.f1.f2, .int .i64 x.f1.f3, .int .i64 x.f2, .slice A6 x.f3.length c6] ∧ x.f3.length ≤ c6 ∧ k26.C w A6 x.f3.length x.f3 := by
 obtain ⟨n, h⟩ := h
 cases n with
 | zero => exact h.elim
 | succ n =>
  obtain ⟨_, _, rfl, rfl, ⟨_, _, rfl, s1, ⟨_, _, rfl, rfl, ⟨A6, c6, rfl, l6, g6⟩⟩⟩⟩ := h
  obtain rfl := LD s1
  exact ⟨A6, c6, rfl, l6, Kd.anC g6⟩
theorem akP (w : World) (x : aI) {A6 : Option Addr} {c6 : Nat} (l6 : x.f3.length ≤ c6) (g6 : k26.C w A6 x.f3.length x.f3) : k26.K w x [.int .u8 x.f0, .int .i64 x.f1.f0, .int .i64 x.f1.f1, .int .i64 x.f1.f2, .int .i64 x.f1.f3, .int .i64 x.f2, .slice A6 x.f3.length c6] := by
 obtain ⟨n6, q6⟩ := Kd.YJ UU g6
 have r6 := Kd.abM UU ZC (show n6 ≤ n6 by omega) q6
 exact ⟨n6 + 1, ⟨[.int .u8 x.f0], [.int .i64 x.f1.f0, .int .i64 x.f1.f1, .int .i64 x.f1.f2, .int .i64 x.f1.f3, .int .i64 x.f2, .slice A6 x.f3.length c6], rfl, rfl, ⟨[.int .i64 x.f1.f0, .int .i64 x.f1.f1, .int .i64 x.f1.f2, .int .i64 x.f1.f3], [.int .i64 x.f2, .slice A6 x.f3.length c6], rfl, (UN w x.f1 ), ⟨[.int .i64 x.f2], [.slice A6 x.f3.length c6], rfl, rfl, ⟨A6, c6, rfl, l6, r6⟩⟩⟩⟩⟩
theorem qQ {W : World} {ok : Nat → Prop} {x : aI} {cs : List Value} (h : Kd.FK k26 W ok x cs) : ∃ A6 c6, cs = [.int .u8 x.f0, .int .i64 x.f1.f0, .int .i64 x.f1.f1, .int .i64 x.f1.f2, .int .i64 x.f1.f3, .int .i64 x.f2, .slice A6 x.f3.length c6] ∧ x.f3.length ≤ c6 ∧ Kd.F k26 W ok A6 x.f3.length x.f3 := by
 obtain ⟨A6, c6, rfl, l6, _⟩ := Ht (Kd.xN h)
 exact ⟨A6, c6, rfl, l6, (fun W' hW => by obtain ⟨A6_, c6_, he, l6_, g6_⟩ := Ht (h W' hW); injection (Option.some.inj (show some (Value.slice A6 x.f3.length c6) = some (Value.slice A6_ x.f3.length c6_) from congrArg (fun l => l[6]?) he)) with ha_ _ _; rw [ha_]; exact g6_)⟩
theorem vP (W : World) (ok : Nat → Prop) (x : aI) {A6 : Option Addr} {c6 : Nat} (l6 : x.f3.length ≤ c6) (g6 : Kd.F k26 W ok A6 x.f3.length x.f3) : Kd.FK k26 W ok x [.int .u8 x.f0, .int .i64 x.f1.f0, .int .i64 x.f1.f1, .int .i64 x.f1.f2, .int .i64 x.f1.f3, .int .i64 x.f2, .slice A6 x.f3.length c6] := fun W2 hW => akP W2 x l6 (g6 W2 hW)
def au (xs : List aI) (i : Int) : aI := xs.getD i.toNat z26
theorem nV {w : World} {A : Option Addr} {n : Nat} {xs : List aI} (h : Kd.C k26 w A n xs) (i : Int) (h0 : 0 ≤ i) (h1 : i < n) : ∃ ad A6 c6, A = some ad ∧ w.cell? (ad.add (i.toNat * 7)) = some (.int .u8 (au xs i).f0) ∧ w.cell? ⟨(ad.add (i.toNat * 7)).block, (ad.add (i.toNat * 7)).off + 1, none⟩ = some (.int .i64 (au xs i).f1.f0) ∧ w.cell? ⟨(ad.add (i.toNat * 7)).block, (ad.add (i.toNat * 7)).off + 2, none⟩ = some (.int .i64 (au xs i).f1.f1) ∧ w.cell? ⟨(ad.add (i.toNat * 7)).block, (ad.add (i.toNat * 7)).off + 3, none⟩ = some (.int .i64 (au xs i).f1.f2) ∧ w.cell? ⟨(ad.add (i.toNat * 7)).block, (ad.add (i.toNat * 7)).off + 4, none⟩ = some (.int .i64 (au xs i).f1.f3) ∧ w.cell? ⟨(ad.add (i.toNat * 7)).block, (ad.add (i.toNat * 7)).off + 5, none⟩ = some (.int .i64 (au xs i).f2) ∧ w.cell? ⟨(ad.add (i.toNat * 7)).block, (ad.add (i.toNat * 7)).off + 6, none⟩ = some (.slice A6 (au xs i).f3.length c6) ∧ (au xs i).f3.length ≤ c6 ∧ k26.C w A6 (au xs i).f3.length (au xs i).f3 := by
 obtain ⟨ad, c, e, _, hK, hc0⟩ := Kd.MO h z26 i h0 h1
 have hc : ∀ j u, c[j]? = some u → w.cell? (ad.add (i.toNat * 7 + j)) = some u := hc0
 obtain ⟨A6, c6, rfl, l6, g6⟩ := Ht hK
 exact ⟨ad, A6, c6, e, hc 0 _ rfl, by rw [← mJ _ _ 1 (by omega)]; exact hc 1 _ rfl, by rw [← mJ _ _ 2 (by omega)]; exact hc 2 _ rfl, by rw [← mJ _ _ 3 (by omega)]; exact hc 3 _ rfl, by rw [← mJ _ _ 4 (by omega)]; exact hc 4 _ rfl, by rw [← mJ _ _ 5 (by omega)]; exact hc 5 _ rfl, by rw [← mJ _ _ 6 (by omega)]; exact hc 6 _ rfl, l6, g6⟩
structure Nh where
 f0 : Int
 f1 : bC
def z35 : Nh := ⟨(0 : Int), z23⟩
def k35 : Kd Nh := Kd.Xq (Kd.pair (Kd.int .i64) k23) (fun x : Nh => (x.f0, x.f1))
def auu (xs : List Nh) (i : Int) : Nh := xs.getD i.toNat z35
def avZ (xs : List (List Nh)) (i : Int) : (List Nh) := xs.getD i.toNat ([] : List Nh)
def av1 (xs : List (List Int)) (i : Int) : (List Int) := xs.getD i.toNat ([] : List Int)
def av2 (xs : List (List bC)) (i : Int) : (List bC) := xs.getD i.toNat ([] : List bC)
def av3 (xs : List (List aI)) (i : Int) : (List aI) := xs.getD i.toNat ([] : List aI)
def aut (xs : List (List Int)) (i : Int) : (List Int) := xs.getD i.toNat ([] : List Int)
end Go.Proofs.Ytfdmfgaiblfbhaa.P
namespace Go.Proofs.Ytfdmfgaiblfbhaa.P
open Go.RowKit Go.Proofs.ai.bg Go.Proofs.ai.di Go.Proofs.ai.dG
section
variable {P : Program} {ops : Array Oper} {rest : List Oper} {o : Oper} {a : Act} {Q : Exit → Act → World → Prop}
theorem grown_below {w0 W w1 : World} {g base : Nat} (HB : Below base w0 W) (hg : W.grownBy w1 (some g)) (hbg : base ≤ g) (hs : base ≤ W.heap.size) : Below base w0 w1 := HB.trans ⟨hg.os, hg.tape, hg.output, hg.size, fun k hk => hg.block k (by omega) (fun he => by injection he with he; omega)⟩
theorem Iw {W : World} {g j : Nat} {cs cs' : Array Value} {t0 : TypeId} {dL : List Value} (hb : W.heap[g]? = some (.cells cs t0 (0, 0))) (hj : j + dL.length ≤ cs.size) (he : cs.toList.take j ++ dL ++ cs.toList.drop (j + dL.length) = cs'.toList) :
  (W.setCells g j dL).heap[g]? = some (.cells cs' t0 (0, 0)) ∧ W.grownBy (W.setCells g j dL) (some g) := by
 obtain ⟨cur', h3, h4, h5⟩ := zM dL j W cs hb hj
 obtain ⟨s1, s2, s3, s4⟩ := yf g dL j W
 have hc : cur' = cs' := Array.toList_inj.1 (h5.trans he)
 subst hc
 exact ⟨h3, ⟨s1, s2, s3, by rw [s4]; exact Nat.le_refl _, fun k _ hk => zL dL _ k (fun e => hk (by rw [e]))⟩⟩
theorem lY {W w0 : World} (hN : o.dst = none) (hgd : o.guard = none) (t : TypeId) (p x : Operand) (ho : o.op = .store t p x) {g j base : Nat} {cs : Array Value} (cs' : Array Value) {t0 : TypeId} {u : Value} {dL : List Value}
  (o_ : a.eval p = .pointer (some ⟨g, j, none⟩)) (hx : a.eval x = u) (hu : u.cells.toList = dL) (ht : (P.info? t).map (·.size) = some dL.length) (h1 : ∀ q ∈ dL, q.oneCell' = true)
  (hb : W.heap[g]? = some (.cells cs t0 (0, 0))) (hj : j + dL.length ≤ cs.size) (he : cs.toList.take j ++ dL ++ cs.toList.drop (j + dL.length) = cs'.toList) (HB : Below base w0 W) (hbs : base ≤ W.heap.size) (hbg : base ≤ g)
  (h : ∀ w1, w1.heap[g]? = some (.cells cs' t0 (0, 0)) → Below base w0 w1 → W.grownBy w1 (some g) → wpList P ops Q rest a w1) : wpList P ops Q (o :: rest) a W := by
 obtain ⟨h2, h3⟩ := Iw hb hj he
 refine wpList_plain hgd fun K hK => ?_
 have hrun := Ig (P := P) t u dL hb hu ht hj h1
 unfold Oper.wp execOp
 simp only [ho, o_, hx, Sem.run_bind, Sem.run_pure, Result.andThen_ok, hrun]
 show K (a.put o.dst undef) _
 rw [hN]
 exact hK a _ (h _ h2 (grown_below HB h3 hbg hbs) h3)
theorem H_ {W : World} (t : TypeId) (p x : Operand) (ho : o.op = .store t p x) {g j : Nat} {cs : Array Value} {t0 : TypeId} {u : Value} {dL : List Value}
  (o_ : a.eval p = .pointer (some ⟨g, j, none⟩)) (hx : a.eval x = u) (hu : u.cells.toList = dL) (ht : (P.info? t).map (·.size) = some dL.length) (h1 : ∀ q ∈ dL, q.oneCell' = true)
  (hb : W.heap[g]? = some (.cells cs t0 (0, 0))) (hj : j + dL.length ≤ cs.size) : (execOp a.eval o).run P W = .ok .skip (W.setCells g j dL) := by
 have hrun := Ig (P := P) t u dL hb hu ht hj h1
 unfold execOp
 simp only [ho, o_, hx, Sem.run_bind, Sem.run_pure, Result.andThen_ok, hrun]
end
theorem ab6 {α : Type} {d : Kd α} {e base b c : Nat} {P : Nat → Prop} {W w1 : World} {v : Value} {xs : List α} (h : Kd.N d e w1 W.heap.size (fun k => ((P k ∧ k ≠ b) ∧ k ≠ c) ∨ W.heap.size ≤ k) v xs) (hb : b < W.heap.size) (hc : c < W.heap.size) (hs : base ≤ W.heap.size) :
  Kd.N d e w1 base (fun k => ((P k ∨ base ≤ k) ∧ k ≠ b) ∧ k ≠ c) v xs :=
 Kd.yG (Kd.kV h (fun k hk => hk.elim (fun q => ⟨⟨.inl q.1.1, q.1.2⟩, q.2⟩) (fun q => ⟨⟨.inr (by omega), by omega⟩, by omega⟩))) hs
def keys (bs : List (Option Nat × Obj)) (ow : List (Value × List aI)) : List Nat := bs.filterMap (·.1) ++ ow.flatMap (fun r => r.1.ownBlock.toList)
def Ok (w : World) (P : Nat → Prop) (ks : List Nat) (k : Nat) : Prop := (P k ∨ w.heap.size ≤ k) ∧ k ∉ ks
structure St (w : World) (P : Nat → Prop) (bs : List (Option Nat × Obj)) (ow : List (Value × List aI)) (ts : List (Value × List aI)) (ro : List (Addr × Value)) (W : World) : Prop where
 below : Below w.heap.size w W
 blk : ∀ p, p ∈ bs → ∀ g, p.1 = some g → W.heap[g]? = some p.2
 new : ∀ k, k ∈ keys bs ow → w.heap.size ≤ k ∧ k < W.heap.size
 nd : (keys bs ow).Nodup
 tree : ∀ t, t ∈ ts → Kd.V k26 26 W 0 (Ok w P (keys bs ow)) t.1 t.2
 own : ∀ r, r ∈ ow → Kd.N k26 26 W w.heap.size (fun k => Ok w P (keys bs ow) k ∨ r.1.ownBlock = some k) r.1 r.2
 cell : ∀ c, c ∈ ro → W.cell? c.1 = some c.2 ∧ c.1.block ∉ keys bs ow
section
variable {w : World} {P : Nat → Prop} {bs : List (Option Nat × Obj)} {ow : List (Value × List aI)} {ts : List (Value × List aI)} {ro : List (Addr × Value)} {W W1 : World} {g b0 cap : Nat} {o o' : Obj} {v : Value} {l : List aI}
theorem jS {α : Type} {d : Kd α} {e base base' : Nat} {ok : Nat → Prop} {W : World} {v : Value} {xs : List α} (h : Kd.V d e W base ok v xs) : Kd.V d e W base' ok v xs := Kd.B_ h (fun _ hf => hf)
theorem St.start (h : ∀ t, t ∈ ts → Kd.V k26 26 w b0 P t.1 t.2) : St w P [] [] ts [] w where
 below := Below.refl _ _
 blk := fun _ h => by cases h
 new := fun _ h => by cases h
 nd := List.nodup_nil
 tree := fun t ht => jS (Kd.iT (h t ht) (fun k hk => ⟨.inl hk, by simp [keys]⟩))
 own := fun _ h => by cases h
 cell := fun _ h => by cases h
theorem St.lt (S : St w P bs ow ts ro W) {k : Nat} (h : k ∈ keys bs ow) : k < W.heap.size := (S.new k h).2
theorem St.box (S : St w P bs ow ts ro W) (hg : g = W.heap.size) (hbox : W1.heap[g]? = some o) (hb : Below W.heap.size W W1) : St w P ((some g, o) :: bs) ow ts ro W1 where
 below := aH S.below hb
 blk := fun p hp q hq => by
  rcases List.mem_cons.1 hp with rfl | hp
  ·rw [← Option.some.inj hq]; exact hbox
  ·exact aK (S.blk p hp q hq) hb
 new := fun k hk => by
  rcases List.mem_cons.1 (show k ∈ g :: keys bs ow from hk) with rfl | hk
  ·exact ⟨by rw [hg]; exact S.below.size, eP hbox⟩
  ·exact ⟨(S.new k hk).1, Nat.lt_of_lt_of_le (S.new k hk).2 hb.size⟩
 nd := show (g :: keys bs ow).Nodup from List.nodup_cons.2 ⟨fun h => by have := (S.new g h).2; omega, S.nd⟩
 tree := fun t ht => Kd.iT (Kd.pF (Kd.wO (S.tree t ht) g (Nat.le_of_eq hg.symm)) hb) (fun k hk => ⟨hk.1.1, fun h => (List.mem_cons.1 (show k ∈ g :: keys bs ow from h)).elim hk.2 hk.1.2⟩)
 own := fun r hr => Kd.kV (Kd.vO (Kd.Lh (S.own r hr) g (Nat.le_of_eq hg.symm)) hb) (fun k hk => hk.1.elim (fun h1 => .inl ⟨h1.1, fun h => (List.mem_cons.1 (show k ∈ g :: keys bs ow from h)).elim hk.2 h1.2⟩) .inr)
 cell := fun c hc => ⟨(hb.cell (World.block_lt_of_cell? W _ (S.cell c hc).1)).trans (S.cell c hc).1, fun h => (List.mem_cons.1 (show c.1.block ∈ g :: keys bs ow from h)).elim (fun he => by have := World.block_lt_of_cell? W _ (S.cell c hc).1; omega) (S.cell c hc).2⟩
theorem St.call (S : St w P bs ow ts ro W) (hb : Below W.heap.size W W1) : St w P bs ow ts ro W1 where
 below := aH S.below hb
 blk := fun p hp q hq => aK (S.blk p hp q hq) hb
 new := fun k hk => ⟨(S.new k hk).1, Nat.lt_of_lt_of_le (S.new k hk).2 hb.size⟩
 nd := S.nd
 tree := fun t ht => Kd.pF (S.tree t ht) hb
 own := fun r hr => Kd.vO (S.own r hr) hb
 cell := fun c hc => ⟨(hb.cell (World.block_lt_of_cell? W _ (S.cell c hc).1)).trans (S.cell c hc).1, (S.cell c hc).2⟩
theorem St.add (S : St w P bs ow ts ro W) (h : Kd.V k26 26 W b0 (Ok w P (keys bs ow)) v l) : St w P bs ow ((v, l) :: ts) ro W :=
 ⟨S.below, S.blk, S.new, S.nd, fun t ht => by
  rcases List.mem_cons.1 ht with rfl | ht
  ·exact jS h
  ·exact S.tree t ht, S.own, S.cell⟩
theorem St.res (S : St w P bs ow ts ro W) (h : Kd.V k26 26 W1 b0 (fun k => Ok w P (keys bs ow) k ∨ W.heap.size ≤ k) v l) (hb : Below W.heap.size W W1) : St w P bs ow ((v, l) :: ts) ro W1 :=
 (S.call hb).add (Kd.iT h (fun k hk => hk.elim id (fun h1 => ⟨.inr (Nat.le_trans S.below.size h1), fun h2 => by have := S.lt h2; omega⟩)))
theorem kT {k : Nat} : k ∈ keys bs [(v, l)] ↔ k ∈ keys bs [] ∨ v.ownBlock = some k := by
 simp only [keys, List.flatMap_cons, List.flatMap_nil, List.append_nil, List.mem_append, Option.mem_toList]
theorem St.Qv (S : St w P bs [] ts ro W) (h : Kd.N k26 26 W1 W.heap.size (fun k => Ok w P (keys bs []) k ∨ W.heap.size ≤ k) v l) (hb : Below W.heap.size W W1) : St w P bs [(v, l)] ts ro W1 := by
 have hgb : ∀ g, v.ownBlock = some g → W.heap.size ≤ g := Kd.xP h
 have hgl : ∀ g, v.ownBlock = some g → g < W1.heap.size := Kd.GR h
 have hlt : ∀ k, k < W.heap.size → v.ownBlock ≠ some k := fun k hk e => by have := hgb k e; omega
 refine ⟨aH S.below hb, fun p hp q hq => aK (S.blk p hp q hq) hb, fun k hk => ?_, ?_, fun t ht => ?_, fun r hr => ?_, fun c hc => ?_⟩
 ·rcases kT.1 hk with h1 | h1
  ·exact ⟨(S.new k h1).1, Nat.lt_of_lt_of_le (S.new k h1).2 hb.size⟩
  ·exact ⟨Nat.le_trans S.below.size (hgb k h1), hgl k h1⟩
 ·have h1 := S.nd
  simp only [keys, List.flatMap_nil, List.append_nil] at h1
  simp only [keys, List.flatMap_cons, List.flatMap_nil, List.append_nil]
  refine List.nodup_append.2 ⟨h1, by cases v.ownBlock <;> simp, fun a ha b hb2 => ?_⟩
  rintro rfl
  exact hlt a (S.lt (by simpa [keys] using ha)) (by simpa using hb2)
 ·exact Kd.iT (Kd.pF (Kd.OL (S.tree t ht)) hb) (fun k hk => ⟨hk.1.1, fun h2 => (kT.1 h2).elim hk.1.2 (hlt k hk.2)⟩)
 ·rw [List.mem_singleton] at hr
  subst hr
  refine Kd.yG (Kd.kV h (fun k hk => ?_)) S.below.size
  by_cases hkg : v.ownBlock = some k
  ·exact .inr hkg
  ·refine .inl ?_
   rcases hk with h1 | h1
   ·exact ⟨h1.1, fun h2 => (kT.1 h2).elim h1.2 hkg⟩
   ·exact ⟨.inr (Nat.le_trans S.below.size h1), fun h2 => (kT.1 h2).elim (fun h3 => by have := S.lt h3; omega) hkg⟩
 ·exact ⟨(hb.cell (World.block_lt_of_cell? W _ (S.cell c hc).1)).trans (S.cell c hc).1, fun h2 => (kT.1 h2).elim (S.cell c hc).2 (hlt _ (World.block_lt_of_cell? W _ (S.cell c hc).1))⟩
theorem TK {W W1 : World} {g : Nat} (hg : W.grownBy W1 (some g)) {a : Addr} {u : Value} (h : W.cell? a = some u) (hn : a.block ≠ g) : W1.cell? a = some u := cell_grown hg h (fun e => hn (Option.some.inj e))
theorem ac1 {i : Nat} : ∀ {bs : List (Option Nat × Obj)} (ow : List (Value × List aI)) (_ : bs[i]? = some (some g, o)), keys (bs.set i (some g, o')) ow = keys bs ow := by
 induction i with
 | zero => intro bs ow h; cases bs with
  | nil => simp at h
  | cons b bs => simp at h; subst h; rfl
 | succ i ih => intro bs ow h; cases bs with
  | nil => simp at h
  | cons b bs =>
   have := ih (bs := bs) ow (by simpa using h)
   unfold keys at this ⊢
   have h2 := List.append_cancel_right this
   rw [List.set_cons_succ, List.filterMap_cons, List.filterMap_cons, h2]
theorem mem_keys {bs : List (Option Nat × Obj)} {ow : List (Value × List aI)} {p : Option Nat × Obj} {g : Nat} (hp : p ∈ bs) (hg : p.1 = some g) : g ∈ keys bs ow := List.mem_append.2 (.inl (List.mem_filterMap.2 ⟨p, hp, hg⟩))
theorem anQ {p q : Option Nat × Obj} {g : Nat} : ∀ {bs : List (Option Nat × Obj)} {i j : Nat}, (bs.filterMap (·.1)).Nodup → bs[i]? = some p → bs[j]? = some q → i ≠ j → p.1 = some g → q.1 = some g → False := by
 intro bs
 induction bs with
 | nil => intro i j _ hi; simp at hi
 | cons b bs ih =>
  intro i j hn hi hj hij hp hq
  have hn' : (bs.filterMap (·.1)).Nodup := by
   rw [List.filterMap_cons] at hn
   split at hn
   ·exact hn
   ·exact (List.nodup_cons.1 hn).2
  cases i with
  | zero =>
   cases j with
   | zero => exact hij rfl
   | succ j =>
    simp at hi hj
    subst hi
    rw [List.filterMap_cons, hp] at hn
    exact (List.nodup_cons.1 hn).1 (List.mem_filterMap.2 ⟨q, List.mem_of_getElem? hj, hq⟩)
  | succ i =>
   cases j with
   | zero =>
    simp at hi hj
    subst hj
    rw [List.filterMap_cons, hq] at hn
    exact (List.nodup_cons.1 hn).1 (List.mem_filterMap.2 ⟨p, List.mem_of_getElem? hi, hp⟩)
   | succ j => exact ih hn' (by simpa using hi) (by simpa using hj) (by omega) hp hq
theorem St.put (S : St w P bs ow ts ro W) (i : Nat) (hi : bs[i]? = some (some g, o)) (hbk : W1.heap[g]? = some o') (hb : Below w.heap.size w W1) (hg : W.grownBy W1 (some g)) : St w P (bs.set i (some g, o')) ow ts ro W1 := by
 have hk := ac1 (o' := o') ow hi
 have hm : g ∈ keys bs ow := mem_keys (List.mem_of_getElem? hi) rfl
 refine ⟨hb, fun p hp q hq => ?_, by rw [hk]; exact fun k h => ⟨(S.new k h).1, Nat.lt_of_lt_of_le (S.new k h).2 hg.size⟩, by rw [hk]; exact S.nd, fun t ht => ?_, fun r hr => ?_, fun c hc => ?_⟩
 ·obtain ⟨j, hj⟩ := List.mem_iff_getElem?.1 hp
  rw [List.getElem?_set] at hj
  by_cases hij : i = j
  ·subst hij
   rw [if_pos rfl] at hj
   split at hj
   ·injection hj with e; subst e; rw [← Option.some.inj hq]; exact hbk
   ·cases hj
  ·rw [if_neg hij] at hj
   exact bZ (S.blk p (List.mem_of_getElem? hj) q hq) hg (fun e => anQ (List.nodup_append.1 S.nd).1 hi hj hij rfl (by rw [hq]; exact e))
 ·rw [hk]; exact Kd.zV (S.tree t ht) hg (fun k h e => h.2 (by rw [Option.some.inj e]; exact hm))
 ·rw [hk]
  have hrg : r.1.ownBlock ≠ some g := fun e => (List.nodup_append.1 S.nd).2.2 g (List.mem_filterMap.2 ⟨_, List.mem_of_getElem? hi, rfl⟩) g (List.mem_flatMap.2 ⟨r, hr, by simp [e]⟩) rfl
  exact Kd.Fq (S.own r hr) hg (fun k h e => h.elim (fun h1 => h1.2 (by rw [Option.some.inj e]; exact hm)) (fun h1 => hrg (by rw [h1]; exact e)))
 ·rw [hk]; exact ⟨TK hg (S.cell c hc).1 (fun e => (S.cell c hc).2 (by rw [e]; exact hm)), (S.cell c hc).2⟩
def qH (x : aI) (A : Option Addr) (c : Nat) : List Value := [.int .u8 x.f0, .int .i64 x.f1.f0, .int .i64 x.f1.f1, .int .i64 x.f1.f2, .int .i64 x.f1.f3, .int .i64 x.f2, .slice A x.f3.length c]
theorem St.dL {n : Nat} (S : St w P bs [(.slice (some ⟨g, 0, none⟩) n cap, l)] ts ro W) (i : Int) (h0 : 0 ≤ i) (h1 : i < l.length) (x : aI) {A : Option Addr} {c : Nat} (hm : (.slice A x.f3.length c, x.f3) ∈ ts) (hW : W1 = W.setCells g (i.toNat * 7 + 0) (qH x A c)) :
  St w P bs [(.slice (some ⟨g, 0, none⟩) n cap, l.set i.toNat x)] ts ro W1 ∧ W.grownBy W1 (some g) := by
 have hN := S.own _ (List.mem_singleton.2 rfl)
 have hob : (Value.slice (some ⟨g, 0, none⟩) n cap).ownBlock = some g := by simp [Value.ownBlock]
 have hmem : g ∈ keys bs [(.slice (some ⟨g, 0, none⟩) n cap, l)] := kT.2 (.inr hob)
 have hn : n = l.length := (Kd.kY hN).1
 obtain ⟨c0, hcl, hM, hcc, hfr⟩ := Kd.Fp hN z26 i h0 (by rw [hn]; exact h1)
 obtain ⟨hl1, hl2, hF⟩ := Kd.Iq (S.tree _ hm)
 have hMk := vP W _ x hl2 hF
 have hseg := Kd.aeC hN i h0 (by rw [hn]; exact h1) (dL := qH x A c) (j := 0) hcl hcc (show 0 + 7 ≤ 7 from by decide) (x' := x) (iO := Ok w P (keys bs [(.slice (some ⟨g, 0, none⟩) n cap, l)])) (by
  have e : c0.take 0 ++ qH x A c ++ c0.drop (0 + (qH x A c).length) = qH x A c := by
   rw [show (0 + (qH x A c).length) = c0.length by rw [hcl]; rfl, List.drop_length, List.take_zero, List.nil_append, List.append_nil]
  rw [e]; exact hMk) (fun k hk => ⟨.inl hk, fun e => hk.2 (by rw [e]; exact hmem)⟩)
 have Hr : Kd.N k26 26 W1 w.heap.size (fun k => Ok w P (keys bs [(.slice (some ⟨g, 0, none⟩) n cap, l)]) k ∨ (Value.slice (some ⟨g, 0, none⟩) n cap).ownBlock = some k) (.slice (some ⟨g, 0, none⟩) n cap) (l.set i.toNat x) ∧ W.grownBy W1 (some g) := by rw [hW]; exact hseg
 have hne : ∀ p, p ∈ bs → p.1 ≠ some g := fun p hp e => (List.nodup_append.1 S.nd).2.2 g (List.mem_filterMap.2 ⟨p, hp, e⟩) g (by simp [hob]) rfl
 refine ⟨⟨grown_below S.below Hr.2 (S.new g hmem).1 S.below.size, fun p hp q hq => bZ (S.blk p hp q hq) Hr.2 (fun e => hne p hp (by rw [hq]; exact e)), fun k h => ⟨(S.new k h).1, Nat.lt_of_lt_of_le (S.new k h).2 Hr.2.size⟩, S.nd, fun t ht => ?_, fun r hr => ?_, fun c hc => ?_⟩, Hr.2⟩
 ·exact Kd.zV (S.tree t ht) Hr.2 (fun k h e => h.2 (by rw [Option.some.inj e]; exact hmem))
 ·rw [List.mem_singleton] at hr
  subst hr
  exact Hr.1
 ·exact ⟨TK Hr.2 (S.cell c hc).1 (fun e => (S.cell c hc).2 (by rw [e]; exact hmem)), (S.cell c hc).2⟩
theorem St.free (S : St w P bs [(v, l)] ts ro W) : St w P bs [] ((v, l) :: ts) ro W := by
 have hk : ∀ k, k ∈ keys bs [] → k ∈ keys bs [(v, l)] := fun k h => kT.2 (.inl h)
 have hne : ∀ k, k ∈ keys bs [] → v.ownBlock ≠ some k := fun k h e => (List.nodup_append.1 S.nd).2.2 k (by simpa [keys] using h) k (by simp [e]) rfl
 refine ⟨S.below, S.blk, fun k h => S.new k (hk k h), ?_, fun t ht => ?_, fun _ h => (by cases h), fun c hc => ⟨(S.cell c hc).1, fun h => (S.cell c hc).2 (hk _ h)⟩⟩
 ·simp only [keys, List.flatMap_nil, List.append_nil]; exact (List.nodup_append.1 S.nd).1
 ·rcases List.mem_cons.1 ht with rfl | ht
  ·exact Kd.iT (Kd.xO (S.own _ (List.mem_singleton.2 rfl))) (fun k h => h.elim (fun h1 => ⟨h1.1, fun h2 => h1.2 (hk k h2)⟩) (fun h1 => ⟨.inr (S.new k (kT.2 (.inr h1))).1, fun h2 => hne k h2 h1⟩))
  ·exact Kd.iT (S.tree t ht) (fun k h => ⟨h.1, fun h2 => h.2 (hk k h2)⟩)
theorem St.Aj (S : St w P bs [(v, l)] ts ro W) : Kd.N k26 26 W w.heap.size (fun k => P k ∨ w.heap.size ≤ k) v l :=
 Kd.kV (S.own _ (List.mem_singleton.2 rfl)) (fun k h => h.elim (fun h1 => h1.1) (fun h1 => .inr (S.new k (kT.2 (.inr h1))).1))
theorem St.UY (S : St w P bs ow ts ro W) (hm : (v, l) ∈ ts) : Kd.V k26 26 W b0 (fun k => P k ∨ w.heap.size ≤ k) v l := jS (Kd.iT (S.tree _ hm) (fun _ h => h.1))
theorem St.at (S : St w P bs ow ts ro W) {cs : Array Value} {t : TypeId} (hm : (some g, .cells cs t (0, 0)) ∈ bs) (j : Nat) : W.cell? ⟨g, j, none⟩ = cs[j]? := af (S.blk _ hm g rfl) j
theorem St.elem (S : St w P bs ow ts ro W) {A : Option Addr} {n c : Nat} (hm : (.slice A n c, l) ∈ ts) (i : Int) (h0 : 0 ≤ i) (h1 : i < l.length) :
  ∃ ad ua uc, A = some ad ∧ St w P bs ow ((.slice ua (au l i).f3.length uc, (au l i).f3) :: ts) ((ad.add (i.toNat * 7), .int .u8 (au l i).f0) :: (⟨(ad.add (i.toNat * 7)).block, (ad.add (i.toNat * 7)).off + 1, none⟩, .int .i64 (au l i).f1.f0) :: (⟨(ad.add (i.toNat * 7)).block, (ad.add (i.toNat * 7)).off + 2, none⟩, .int .i64 (au l i).f1.f1) :: (⟨(ad.add (i.toNat * 7)).block, (ad.add (i.toNat * 7)).off + 3, none⟩, .int .i64 (au l i).f1.f2) :: (⟨(ad.add (i.toNat * 7)).block, (ad.add (i.toNat * 7)).off + 4, none⟩, .int .i64 (au l i).f1.f3) :: (⟨(ad.add (i.toNat * 7)).block, (ad.add (i.toNat * 7)).off + 5, none⟩, .int .i64 (au l i).f2) :: (⟨(ad.add (i.toNat * 7)).block, (ad.add (i.toNat * 7)).off + 6, none⟩, .slice ua (au l i).f3.length uc) :: ro) W := by
 have hV := S.tree _ hm
 obtain ⟨hn, hl, hF⟩ := Kd.Iq hV
 obtain ⟨ad, ua, uc, ek, y0, y1, y2, y3, y4, y5, y6, hlu, hgu⟩ := nV (Kd.MP hF) i h0 h1
 subst ek
 obtain ⟨ad2, ce, e2, hcl, hFK, hcc, hok⟩ := Kd.X5 hF z26 i h0 h1
 injection e2 with e2
 subst e2
 obtain ⟨ub, ud, rfl, lub, fub⟩ := qQ hFK
 have e6 := hcc 6 _ rfl
 rw [show k26.sz = 7 from rfl, mJ _ _ 6 (by omega)] at e6
 have e7 := Option.some.inj (e6.symm.trans y6)
 injection e7 with ea en ec
 subst ea
 subst ec
 have hO := (hok (by decide)).2
 have TU : (ad.add (i.toNat * 7)).block ∉ keys bs ow := by rw [add_block]; exact hO
 refine ⟨ad, ub, ud, rfl, (S.add (Kd.C9 (base := 0) lub fub)).below, S.blk, S.new, S.nd, (S.add (Kd.C9 (base := 0) lub fub)).tree, S.own, ?_⟩
 intro c hc
 rcases List.mem_cons.1 hc with rfl | hc
 ·exact ⟨y0, TU⟩
 rcases List.mem_cons.1 hc with rfl | hc
 ·exact ⟨y1, TU⟩
 rcases List.mem_cons.1 hc with rfl | hc
 ·exact ⟨y2, TU⟩
 rcases List.mem_cons.1 hc with rfl | hc
 ·exact ⟨y3, TU⟩
 rcases List.mem_cons.1 hc with rfl | hc
 ·exact ⟨y4, TU⟩
 rcases List.mem_cons.1 hc with rfl | hc
 ·exact ⟨y5, TU⟩
 rcases List.mem_cons.1 hc with rfl | hc
 ·exact ⟨y6, TU⟩
 exact S.cell c hc
end
section
variable {Pr : Program} {ops : Array Oper} {rest : List Oper} {op : Oper} {a : Act} {Q : Exit → Act → World → Prop} {w W : World} {P : Nat → Prop} {bs : List (Option Nat × Obj)} {ow : List (Value × List aI)} {ts : List (Value × List aI)} {ro : List (Addr × Value)}
theorem ajQ {N : Tmp} (hd : op.dst = some N) (hgd : op.guard = none) (cs : Array Value) (t : TypeId) (S : St w P bs ow ts ro W)
  (hr : (execOp a.eval op).run Pr W = .ok (.value (.pointer (some ⟨W.heap.size, 0, none⟩))) (W.alloc (.cells cs t (0, 0))))
  (h : ∀ g w1, St w P ((some g, .cells cs t (0, 0)) :: bs) ow ts ro w1 → wpList Pr ops Q rest (a.put op.dst (.pointer (some ⟨g, 0, none⟩))) w1) : wpList Pr ops Q (op :: rest) a W :=
 aX hgd hd hr (fun g hg w1 hbox hb => h g w1 (S.box hg hbox hb))
theorem ak3 (i : Nat) {g : Nat} {cs : Array Value} {t0 : TypeId} (hi : bs[i]? = some (some g, .cells cs t0 (0, 0))) (t : TypeId) (p x : Operand) (ho : op.op = .store t p x) {j : Nat} (cs' : Array Value) {u : Value} {dL : List Value} (S : St w P bs ow ts ro W)
  (o_ : a.eval p = .pointer (some ⟨g, j, none⟩)) (hx : a.eval x = u) (hu : u.cells.toList = dL) (ht : (Pr.info? t).map (·.size) = some dL.length) (h1 : ∀ q ∈ dL, q.oneCell' = true) (hj : j + dL.length ≤ cs.size)
  (he : cs.toList.take j ++ dL ++ cs.toList.drop (j + dL.length) = cs'.toList) (hN : op.dst = none) (hgd : op.guard = none)
  (h : ∀ w1, St w P (bs.set i (some g, .cells cs' t0 (0, 0))) ow ts ro w1 → wpList Pr ops Q rest a w1) : wpList Pr ops Q (op :: rest) a W := by
 have hm : g ∈ keys bs ow := mem_keys (List.mem_of_getElem? hi) rfl
 exact lY hN hgd t p x ho cs' o_ hx hu ht h1 (S.blk _ (List.mem_of_getElem? hi) g rfl) hj he S.below S.below.size (S.new g hm).1 (fun w1 h2 h3 h4 => h w1 (S.put i hi h2 h3 h4))
theorem aia (i : Nat) {g : Nat} {cs : Array Value} {t0 : TypeId} (hi : bs[i]? = some (some g, .cells cs t0 (0, 0))) (t : TypeId) (p x : Operand) (ho : op.op = .store t p x) {j : Nat} (cs' : Array Value) {u : Value} {dL : List Value} (S : St w P bs ow ts ro W)
  (o_ : a.eval p = .pointer (some ⟨g, j, none⟩)) (hx : a.eval x = u) (hu : u.cells.toList = dL) (ht : (Pr.info? t).map (·.size) = some dL.length) (h1 : ∀ q ∈ dL, q.oneCell' = true) (hj : j + dL.length ≤ cs.size)
  (he : cs.toList.take j ++ dL ++ cs.toList.drop (j + dL.length) = cs'.toList) :
  (execOp a.eval op).run Pr W = .ok .skip (W.setCells g j dL) ∧ St w P (bs.set i (some g, .cells cs' t0 (0, 0))) ow ts ro (W.setCells g j dL) := by
 have hm : g ∈ keys bs ow := mem_keys (List.mem_of_getElem? hi) rfl
 have hb := S.blk _ (List.mem_of_getElem? hi) g rfl
 have hc := Iw hb hj he
 exact ⟨H_ t p x ho o_ hx hu ht h1 hb hj, S.put i hi hc.1 (grown_below S.below hc.2 (S.new g hm).1 S.below.size) hc.2⟩
theorem XD {g n cap : Nat} {l : List aI} (i : Int) (x : aI) {A : Option Addr} {c : Nat} (p y : Operand) (ho : op.op = .store 26 p y) (S : St w P bs [(.slice (some ⟨g, 0, none⟩) n cap, l)] ts ro W) (h0 : 0 ≤ i) (h1 : i < l.length)
  (o_ : a.eval p = .pointer (some ⟨g, i.toNat * 7, none⟩)) (hx : a.eval y = .agg (qH x A c).toArray) (hsz : (Pr.info? 26).map (·.size) = some 7) (hm : (.slice A x.f3.length c, x.f3) ∈ ts) :
  ∃ w1, (execOp a.eval op).run Pr W = .ok .skip w1 ∧ St w P bs [(.slice (some ⟨g, 0, none⟩) n cap, l.set i.toNat x)] ts ro w1 := by
 obtain ⟨h2, h3⟩ := S.dL i h0 h1 x hm rfl
 obtain ⟨cells, hcells⟩ := Kd.afK (S.own _ (List.mem_singleton.2 rfl)) g (by simp [Value.ownBlock])
 have hN := S.own _ (List.mem_singleton.2 rfl)
 obtain ⟨c0, hcl, hM, hcc, hfr⟩ := Kd.Fp hN z26 i h0 (by rw [(Kd.kY hN).1]; exact h1)
 have hcl : c0.length = 7 := hcl
 have hlt : i.toNat * 7 + 7 ≤ cells.size := by
  have h4 := hcc 6 _ (List.getElem?_eq_getElem (by omega))
  have h5 := af hcells (i.toNat * 7 + 6)
  have h6 : W.cell? ⟨g, i.toNat * k26.sz + 6, none⟩ = W.cell? ⟨g, i.toNat * 7 + 6, none⟩ := rfl
  rw [h6, h5] at h4
  by_cases h7 : i.toNat * 7 + 6 < cells.size
  ·omega
  ·rw [Array.getElem?_eq_none (by omega)] at h4; cases h4
 refine ⟨_, ?_, h2⟩
 rw [show i.toNat * 7 + 0 = i.toNat * 7 from rfl]
 exact H_ 26 p y ho o_ hx (by rfl) hsz (by simp [qH, Value.oneCell']) hcells (by simpa [qH] using hlt)
theorem CP {K : Act → World → Prop} (i : Nat) {g : Nat} {cs : Array Value} {t0 : TypeId} (hi : bs[i]? = some (some g, .cells cs t0 (0, 0))) (t : TypeId) (p x : Operand) (ho : op.op = .store t p x) {j : Nat} (cs' : Array Value) {u : Value} {dL : List Value} (S : St w P bs ow ts ro W)
  (hw : Region.wanted op (yielded ops a.tmps) = true) (hN : op.dst = none)
  (o_ : a.eval p = .pointer (some ⟨g, j, none⟩)) (hx : a.eval x = u) (hu : u.cells.toList = dL) (ht : (Pr.info? t).map (·.size) = some dL.length) (h1 : ∀ q ∈ dL, q.oneCell' = true) (hj : j + dL.length ≤ cs.size)
  (he : cs.toList.take j ++ dL ++ cs.toList.drop (j + dL.length) = cs'.toList) (h : ∀ w1, St w P (bs.set i (some g, .cells cs' t0 (0, 0))) ow ts ro w1 → K a w1) :
  if Region.wanted op (yielded ops a.tmps) = true then Oper.wp Pr op a W K Q else K (a.put none undef) W := by
 obtain ⟨h2, h3⟩ := aia (a := a) (Pr := Pr) i hi t p x ho cs' S o_ hx hu ht h1 hj he
 exact Sr hw hN h2 (h _ h3)
theorem XC {K : Act → World → Prop} {g n cap : Nat} {l : List aI} (i : Int) (x : aI) {A : Option Addr} {c : Nat} (p y : Operand) (ho : op.op = .store 26 p y) (S : St w P bs [(.slice (some ⟨g, 0, none⟩) n cap, l)] ts ro W)
  (hw : Region.wanted op (yielded ops a.tmps) = true) (hN : op.dst = none) (h0 : 0 ≤ i) (h1 : i < l.length)
  (o_ : a.eval p = .pointer (some ⟨g, i.toNat * 7, none⟩)) (hx : a.eval y = .agg (qH x A c).toArray) (hsz : (Pr.info? 26).map (·.size) = some 7) (hm : (.slice A x.f3.length c, x.f3) ∈ ts) (h : ∀ w1, St w P bs [(.slice (some ⟨g, 0, none⟩) n cap, l.set i.toNat x)] ts ro w1 → K a w1) :
  if Region.wanted op (yielded ops a.tmps) = true then Oper.wp Pr op a W K Q else K (a.put none undef) W := by
 obtain ⟨w1, hr, S1⟩ := XD (a := a) (Pr := Pr) i x p y ho S h0 h1 o_ hx hsz hm
 exact Sr hw hN hr (h _ S1)
theorem St.jT {k : Option Nat} {o : Obj} (S : St w P ((k, o) :: bs) ow ts ro W) : St w P bs ow ts ro W := by
 have hin : ∀ x, x ∈ keys bs ow → x ∈ keys ((k, o) :: bs) ow := fun x h => by
  unfold keys at h ⊢
  rw [List.filterMap_cons]
  cases k with
  | none => exact h
  | some g => exact List.mem_cons_of_mem _ h
 refine ⟨S.below, fun p hp => S.blk p (List.mem_cons_of_mem _ hp), fun x hx => S.new x (hin x hx), ?_, fun t ht => Kd.iT (S.tree t ht) (fun x h => ⟨h.1, fun h2 => h.2 (hin x h2)⟩), fun r hr => Kd.kV (S.own r hr) (fun x h => h.elim (fun h1 => .inl ⟨h1.1, fun h2 => h1.2 (hin x h2)⟩) .inr), fun c hc => ⟨(S.cell c hc).1, fun h2 => (S.cell c hc).2 (hin _ h2)⟩⟩
 have h := S.nd
 unfold keys at h ⊢
 rw [List.filterMap_cons] at h
 cases k with
 | none => exact h
 | some g => exact (List.nodup_cons.1 h).2
theorem St.dW {t : Value × List aI} (S : St w P bs ow (t :: ts) ro W) : St w P bs ow ts ro W :=
 ⟨S.below, S.blk, S.new, S.nd, fun t ht => S.tree t (List.mem_cons_of_mem _ ht), S.own, S.cell⟩
theorem St.Sl {t : Value × List aI} (S : St w P bs ow ts ro W) (hm : t ∈ ts) : St w P bs ow [t] ro W :=
 ⟨S.below, S.blk, S.new, S.nd, fun x hx => by rw [List.mem_singleton.1 hx]; exact S.tree t hm, S.own, S.cell⟩
theorem St.dK {c : Addr × Value} (S : St w P bs ow ts (c :: ro) W) : St w P bs ow ts ro W :=
 ⟨S.below, S.blk, S.new, S.nd, S.tree, S.own, fun c hc => S.cell c (List.mem_cons_of_mem _ hc)⟩
theorem alf {g n cap : Nat} {l : List aI} (i : Int) (x : aI) {A : Option Addr} {c : Nat} (p y : Operand) (ho : op.op = .store 26 p y) (S : St w P bs [(.slice (some ⟨g, 0, none⟩) n cap, l)] ts ro W) (h0 : 0 ≤ i) (h1 : i < l.length)
  (o_ : a.eval p = .pointer (some ⟨g, i.toNat * 7, none⟩)) (hx : a.eval y = .agg (qH x A c).toArray) (hsz : (Pr.info? 26).map (·.size) = some 7) (hm : (.slice A x.f3.length c, x.f3) ∈ ts) (hN : op.dst = none) (hgd : op.guard = none)
  (h : ∀ w1, St w P bs [(.slice (some ⟨g, 0, none⟩) n cap, l.set i.toNat x)] ts ro w1 → wpList Pr ops Q rest a w1) : wpList Pr ops Q (op :: rest) a W := by
 obtain ⟨w1, hr, S1⟩ := XD (a := a) (Pr := Pr) i x p y ho S h0 h1 o_ hx hsz hm
 refine wpList_plain hgd fun K hK => ?_
 unfold Oper.wp
 rw [hr]
 show K (a.put op.dst undef) _
 rw [hN]
 exact hK a _ (h _ S1)
end
section
variable {Pr : Program} {ops : Array Oper} {rest : List Oper} {op : Oper} {a : Act} {Q : Exit → Act → World → Prop} {w W W1 : World} {P : Nat → Prop} {bs : List (Option Nat × Obj)} {ts : List (Value × List aI)} {ro : List (Addr × Value)} {v v1 : Value} {xs ys : List aI}
theorem St.ak' (S : St w P bs [(v, xs)] ts ro W) (hb : Below w.heap.size w W1) (hg : W.grownBy W1 v.ownBlock) (hat : v1.ownBlock = v.ownBlock ∨ ∃ b, v1.ownBlock = some b ∧ W.heap.size ≤ b) (hN : Kd.N k26 26 W1 w.heap.size (Ok w P (keys bs [])) v1 ys) :
  St w P bs [(v1, ys)] ts ro W1 := by
 have hkeep : ∀ k, k ∉ keys bs [(v, xs)] → k < W.heap.size → k ∉ keys bs [(v1, ys)] := fun k h1 h2 h3 => by
  rcases kT.1 h3 with h4 | h4
  ·exact h1 (kT.2 (.inl h4))
  ·rcases hat with e | ⟨b, e, hle⟩
   ·exact h1 (kT.2 (.inr (by rw [← e]; exact h4)))
   ·rw [e] at h4; injection h4 with h4; omega
 have hin : ∀ k, k ∈ keys bs [] → k ∈ keys bs [(v, xs)] := fun k h => kT.2 (.inl h)
 have hnb : ∀ k, k ∈ keys bs [] → v1.ownBlock ≠ some k := fun k h e => (hN.1 k e).2 h
 refine ⟨hb, fun p hp q hq => bZ (S.blk p hp q hq) hg (fun e => (List.nodup_append.1 S.nd).2.2 q (List.mem_filterMap.2 ⟨p, hp, hq⟩) q (by simp [← e]) rfl), fun k hk => ?_, ?_, fun t ht => ?_, fun r hr => ?_, fun c hc => ?_⟩
 ·rcases kT.1 hk with h1 | h1
  ·exact ⟨(S.new k (hin k h1)).1, Nat.lt_of_lt_of_le (S.new k (hin k h1)).2 hg.size⟩
  ·exact ⟨Kd.xP hN k h1, Kd.GR hN k h1⟩
 ·simp only [keys, List.flatMap_cons, List.flatMap_nil, List.append_nil]
  refine List.nodup_append.2 ⟨(List.nodup_append.1 S.nd).1, by cases v1.ownBlock <;> simp, fun q hq b hb2 => ?_⟩
  rintro rfl
  exact hnb q (by simpa [keys] using hq) (by simpa using hb2)
 ·exact Kd.iT (Kd.zV (Kd.OL (S.tree t ht)) hg (fun k h e => h.1.2 (kT.2 (.inr e.symm)))) (fun k h => ⟨h.1.1, hkeep k h.1.2 h.2⟩)
 ·rw [List.mem_singleton] at hr
  subst hr
  refine Kd.kV hN (fun k h => ?_)
  by_cases hk : v1.ownBlock = some k
  ·exact .inr hk
  ·exact .inl ⟨h.1, fun h2 => (kT.1 h2).elim h.2 hk⟩
 ·exact ⟨cell_grown hg (S.cell c hc).1 (fun e => (S.cell c hc).2 (kT.2 (.inr e.symm))), hkeep _ (S.cell c hc).2 (World.block_lt_of_cell? W _ (S.cell c hc).1)⟩
theorem St.anS (S : St w P bs [(v, xs)] ts ro W) : Kd.N k26 26 W w.heap.size (Ok w P (keys bs [])) v xs :=
 Kd.kV (S.own _ (List.mem_singleton.2 rfl)) (fun k h => h.elim (fun h1 => ⟨h1.1, fun h2 => h1.2 (kT.2 (.inl h2))⟩) (fun h1 => ⟨.inr (S.new k (kT.2 (.inr h1))).1, fun h2 => (List.nodup_append.1 S.nd).2.2 k (by simpa [keys] using h2) k (by simp [h1]) rfl⟩))
theorem Di {W W1 : World} (hg : W.grownBy W1 none) : Below W.heap.size W W1 := ⟨hg.os, hg.tape, hg.output, hg.size, fun k hk => hg.block k hk (by simp)⟩
theorem Dy {N : Tmp} (hd : op.dst = some N) (hgd : op.guard = none) (S : St w P bs [] ts ro W) (hrun : (execOp a.eval op).run Pr W = .ok (.value (.slice (some ⟨W.heap.size, 0, none⟩) 0 0)) (W.alloc (.cells #[] 26)))
  (h : ∀ A c w1, St w P bs [(.slice A 0 c, [])] ts ro w1 → wpList Pr ops Q rest (a.put op.dst (.slice A 0 c)) w1) : wpList Pr ops Q (op :: rest) a W :=
 Kd.BZ k26 (w0 := W) W.heap.size 26 hgd hd (xs := []) (inner := []) (ok := fun k => Ok w P (keys bs []) k ∨ W.heap.size ≤ k) (iO := fun _ => False) hrun (dB.none _ _) (fun _ h => h.elim) (.inr (Nat.le_refl _)) (Below.refl _ _) (Nat.le_refl _) (by simp) (fun v1 w1 hN _ hg _ => by
  obtain ⟨A, c, rfl⟩ := Kd.nH hN
  exact h A c w1 (S.Qv hN (Di hg)))
end
section
variable {w : World} {P : Nat → Prop} {bs bs' : List (Option Nat × Obj)} {ow : List (Value × List aI)} {ts : List (Value × List aI)} {ro : List (Addr × Value)} {W W1 : World} {b0 : Nat} {o o1 : Obj} {v v1 : Value} {xs : List Int} {ok : Nat → Prop}
def IR (base : Nat) (v : Value) (xs : List Int) (o : Obj) : Prop := ∀ W : World, (∀ g, v.ownBlock = some g → W.heap[g]? = some o) → (Kd.int .i64).R 3 W base (fun k => some k = v.ownBlock) v xs
theorem Yd {b' : Nat} (h : (Kd.int .i64).R 3 W1 b0 ok v xs) (hb : b' ≤ b0) : ∃ o, (∀ g, v.ownBlock = some g → W1.heap[g]? = some o) ∧ IR b' v xs o := by
 have ht := Kd.iQ (Kd.OJ rfl h) hb
 cases hv : v.ownBlock with
 | none => exact ⟨.cells #[] 0 (0, 0), fun g hg => (by cases hg), fun W hW => Kd.CY ht (fun k hk => (by rw [hv] at hk; cases hk))⟩
 | some g =>
  obtain ⟨cells, hc⟩ := Kd.VN h g hv
  refine ⟨_, fun g' hg => (by injection hg with hg; rw [← hg]; exact hc), fun W hW => Kd.CY ht (fun k hk _ => ?_)⟩
  rw [hv] at hk
  injection hk with hk
  rw [hk, hc]
  exact hW g hv
theorem afH {base n c : Nat} {ad : Addr} (h : IR base (.slice (some ad) n c) xs o) (hW : ∀ g, (Value.slice (some ad) n c).ownBlock = some g → W.heap[g]? = some o) (i : Int) (h0 : 0 ≤ i) (h1 : i < xs.length) : W.cell? (ad.add i.toNat) = some (.int .i64 (rd xs i)) := by
 have hC := (Kd.dH (h W hW)).2.2
 obtain ⟨ad', he, hc⟩ := Kd.iU hC i h0 h1
 injection he with he
 rw [he]
 exact hc
theorem GM {base n c : Nat} {ad : Addr} (h : IR base (.slice (some ad) n c) xs o) (hW : ∀ g, (Value.slice (some ad) n c).ownBlock = some g → W.heap[g]? = some o) (i : Nat) (h1 : (i : Int) < xs.length) : W.cell? (ad.add i) = some (.int .i64 (rd xs (i : Int))) := afH h hW (i : Int) (Int.natCast_nonneg _) h1
theorem St.aoL (S : St w P bs ow ts ro W) (k : Option Nat) (hk : ∀ g, k = some g → W.heap.size ≤ g ∧ W1.heap[g]? = some o) (hb : Below W.heap.size W W1) : St w P ((k, o) :: bs) ow ts ro W1 := by
 cases k with
 | none =>
  have S1 := S.call hb
  exact ⟨S1.below, fun p hp q hq => by
   rcases List.mem_cons.1 hp with rfl | hp
   ·cases hq
   ·exact S1.blk p hp q hq, S1.new, S1.nd, S1.tree, S1.own, S1.cell⟩
 | some g =>
  obtain ⟨hg, hbox⟩ := hk g rfl
  refine ⟨aH S.below hb, fun p hp q hq => ?_, fun k hk => ?_, List.nodup_cons.2 ⟨fun h => by have := (S.new g h).2; omega, S.nd⟩, fun t ht => ?_, fun r hr => ?_, fun c hc => ?_⟩
  ·rcases List.mem_cons.1 hp with rfl | hp
   ·rw [← Option.some.inj hq]; exact hbox
   ·exact aK (S.blk p hp q hq) hb
  ·rcases List.mem_cons.1 (show k ∈ g :: keys bs ow from hk) with rfl | hk
   ·exact ⟨Nat.le_trans S.below.size hg, eP hbox⟩
   ·exact ⟨(S.new k hk).1, Nat.lt_of_lt_of_le (S.new k hk).2 hb.size⟩
  ·exact Kd.iT (Kd.pF (Kd.wO (S.tree t ht) g hg) hb) (fun k hk => ⟨hk.1.1, fun h => (List.mem_cons.1 (show k ∈ g :: keys bs ow from h)).elim hk.2 hk.1.2⟩)
  ·exact Kd.kV (Kd.vO (Kd.Lh (S.own r hr) g hg) hb) (fun k hk => hk.1.elim (fun h1 => .inl ⟨h1.1, fun h => (List.mem_cons.1 (show k ∈ g :: keys bs ow from h)).elim hk.2 h1.2⟩) .inr)
  ·exact ⟨(hb.cell (World.block_lt_of_cell? W _ (S.cell c hc).1)).trans (S.cell c hc).1, fun h => (List.mem_cons.1 (show c.1.block ∈ g :: keys bs ow from h)).elim (fun he => by have := World.block_lt_of_cell? W _ (S.cell c hc).1; omega) (S.cell c hc).2⟩
theorem St.Ju (S : St w P bs ow ts ro W) (h : (Kd.int .i64).R 3 W1 W.heap.size ok v xs) (hb : Below W.heap.size W W1) : ∃ o, St w P ((v.ownBlock, o) :: bs) ow ts ro W1 ∧ IR w.heap.size v xs o := by
 obtain ⟨o, h1, h2⟩ := Yd h S.below.size
 exact ⟨o, S.aoL v.ownBlock (fun g hg => ⟨Kd.nT h g hg, h1 g hg⟩) hb, h2⟩
theorem St.noI (S : St w P bs ow ts ro W) : ∃ o, St w P (((Value.slice none 0 0).ownBlock, o) :: bs) ow ts ro W ∧ IR w.heap.size (.slice none 0 0) [] o :=
 S.Ju (ok := fun _ => True) (Kd.nI _ _ _ _ _) (Below.refl _ _)
theorem St.Ox {p q : Option Nat × Obj} (S : St w P (p :: q :: bs) ow ts ro W) : St w P (q :: p :: bs) ow ts ro W := by
 have hp : (keys (q :: p :: bs) ow).Perm (keys (p :: q :: bs) ow) := by
  unfold keys
  refine List.Perm.append_right _ ?_
  rw [List.filterMap_cons, List.filterMap_cons, List.filterMap_cons, List.filterMap_cons]
  cases p.1 <;> cases q.1 <;> simp
  exact List.Perm.swap _ _ _
 have hm : ∀ k, k ∈ keys (q :: p :: bs) ow ↔ k ∈ keys (p :: q :: bs) ow := fun k => hp.mem_iff
 have hO : ∀ k, Ok w P (keys (p :: q :: bs) ow) k → Ok w P (keys (q :: p :: bs) ow) k := fun k h => ⟨h.1, fun h2 => h.2 ((hm k).1 h2)⟩
 exact ⟨S.below, fun x hx => S.blk x (by simp only [List.mem_cons] at hx ⊢; rcases hx with h | h | h <;> simp [h]), fun k hk => S.new k ((hm k).1 hk), hp.nodup_iff.2 S.nd, fun t ht => Kd.iT (S.tree t ht) hO, fun r hr => Kd.kV (S.own r hr) (fun k h => h.imp (hO k) id), fun c hc => ⟨(S.cell c hc).1, fun h => (S.cell c hc).2 ((hm _).1 h)⟩⟩
theorem St.XA (S : St w P ((v.ownBlock, o) :: bs) ow ts ro W) (hb : Below w.heap.size w W1) (hg : W.grownBy W1 v.ownBlock) (hat : v1.ownBlock = v.ownBlock ∨ ∃ b, v1.ownBlock = some b ∧ W.heap.size ≤ b) (ho : ∀ g, v1.ownBlock = some g → W1.heap[g]? = some o1) :
  St w P ((v1.ownBlock, o1) :: bs) ow ts ro W1 := by
 have kc : ∀ (x : Value) (o : Obj) k, k ∈ keys ((x.ownBlock, o) :: bs) ow ↔ x.ownBlock = some k ∨ k ∈ keys bs ow := fun x o k => by
  unfold keys
  rw [List.filterMap_cons]
  cases x.ownBlock with
  | none => simp
  | some g => simp [eq_comm]
 have hnv : ∀ k, k ∈ keys bs ow → v.ownBlock ≠ some k := fun k hk e => by
  have h := S.nd
  unfold keys at h hk
  rw [List.filterMap_cons, e] at h
  exact (List.nodup_cons.1 h).1 hk
 have hnb : (keys bs ow).Nodup := by
  have h := S.nd
  unfold keys at h ⊢
  rw [List.filterMap_cons] at h
  split at h
  ·exact h
  ·exact (List.nodup_cons.1 h).2
 have hin : ∀ k, k ∈ keys bs ow → k ∈ keys ((v.ownBlock, o) :: bs) ow := fun k h => (kc v o k).2 (.inr h)
 have hnew : ∀ k, k ∈ keys bs ow → v1.ownBlock ≠ some k := fun k hk e => by
  rcases hat with h | ⟨b, h, hle⟩
  ·exact hnv k hk (by rw [← h]; exact e)
  ·rw [h] at e; injection e with e; have := S.lt (hin k hk); omega
 have hkeep : ∀ k, k ∉ keys ((v.ownBlock, o) :: bs) ow → k < W.heap.size → k ∉ keys ((v1.ownBlock, o1) :: bs) ow := fun k h1 h2 h3 => by
  rcases (kc v1 o1 k).1 h3 with h4 | h4
  ·rcases hat with h | ⟨b, h, hle⟩
   ·exact h1 ((kc v o k).2 (.inl (by rw [← h]; exact h4)))
   ·rw [h] at h4; injection h4 with h4; omega
  ·exact h1 (hin k h4)
 refine ⟨hb, fun p hp q hq => ?_, fun k hk => ?_, ?_, fun t ht => ?_, fun r hr => ?_, fun c hc => ?_⟩
 ·rcases List.mem_cons.1 hp with rfl | hp
  ·exact ho q hq
  ·exact bZ (S.blk p (List.mem_cons_of_mem _ hp) q hq) hg (fun e => hnv q (mem_keys hp hq) e.symm)
 ·rcases (kc v1 o1 k).1 hk with h1 | h1
  ·rcases hat with h | ⟨b, h, hle⟩
   ·have := S.new k ((kc v o k).2 (.inl (by rw [← h]; exact h1)))
    exact ⟨this.1, Nat.lt_of_lt_of_le this.2 hg.size⟩
   ·rw [h] at h1
    injection h1 with h1
    subst h1
    exact ⟨Nat.le_trans S.below.size hle, eP (ho b h)⟩
  ·exact ⟨(S.new k (hin k h1)).1, Nat.lt_of_lt_of_le (S.new k (hin k h1)).2 hg.size⟩
 ·unfold keys
  rw [List.filterMap_cons]
  cases hv1 : v1.ownBlock with
  | none => exact hnb
  | some g => exact List.nodup_cons.2 ⟨fun h => hnew g h hv1, hnb⟩
 ·exact Kd.iT (Kd.zV (Kd.OL (S.tree t ht)) hg (fun k h e => h.1.2 ((kc v o k).2 (.inl e.symm)))) (fun k h => ⟨h.1.1, hkeep k h.1.2 h.2⟩)
 ·have hrv : ∀ k, r.1.ownBlock = some k → some k ≠ v.ownBlock := fun k h1 e => hnv k (List.mem_append.2 (.inr (List.mem_flatMap.2 ⟨r, hr, by simp [h1]⟩))) e.symm
  exact Kd.kV (Kd.Fq (Kd.JM (S.own r hr)) hg (fun k h e => h.1.elim (fun h1 => h1.2 ((kc v o k).2 (.inl e.symm))) (fun h1 => hrv k h1 e))) (fun k h => h.1.imp (fun h1 => ⟨h1.1, hkeep k h1.2 h.2⟩) id)
 ·exact ⟨cell_grown hg (S.cell c hc).1 (fun e => (S.cell c hc).2 ((kc v o _).2 (.inl e.symm))), hkeep _ (S.cell c hc).2 (World.block_lt_of_cell? W _ (S.cell c hc).1)⟩
end
section
variable {Pr : Program} {ops : Array Oper} {rest : List Oper} {op : Oper} {a : Act} {Q : Exit → Act → World → Prop} {w W : World} {P : Nat → Prop} {bs : List (Option Nat × Obj)} {ow : List (Value × List aI)} {ts : List (Value × List aI)} {ro : List (Addr × Value)} {v : Value} {xs : List Int} {o : Obj}
theorem afR (s x : Operand) (hgd : op.guard = none) (ho : op.op = .call { callee := .builtin .append, args := #[s, x], argTypes := #[41, 41] }) (ht : Pr.underlying 41 = some (.slice 3)) (hinfo : (Pr.info? 3).map (fun i => (i.zero, i.size, i.bytes)) = some (some (.int .i64 0), 1, 8))
  (S : St w P ((v.ownBlock, o) :: bs) ow ts ro W) (hI : IR w.heap.size v xs o) (y : Int) (hs : a.eval s = v) (hx : a.eval x = .slice (some ⟨W.heap.size, 0, none⟩) 1 1) (hl : xs.length ≤ 1000000000)
  (h : ∀ A1 c1 o1 w1, St w P (((Value.slice A1 (xs ++ [y]).length c1).ownBlock, o1) :: bs) ow ts ro w1 → IR w.heap.size (.slice A1 (xs ++ [y]).length c1) (xs ++ [y]) o1 → wpList Pr ops Q rest (a.put op.dst (.slice A1 (xs ++ [y]).length c1)) w1) :
  wpList Pr ops Q (op :: rest) a (W.alloc (.cells #[.int .i64 y] 3)) := by
 have hR := hI W (S.blk _ List.mem_cons_self)
 refine Kd.oG (Kd.int .i64) (w0 := w) w.heap.size hgd s x 41 3 (.int .i64 0) 8 ho ht hinfo rfl (by decide) (by omega) v xs y [.int .i64 y] (fun _ => True) (fun _ => False) hs hx rfl (fun _ hk => hk.elim) (fun _ _ => trivial) (Kd.cZ hR (fun _ _ => trivial)) S.below S.below.size (by omega) ?_
 intro v1 w1 hr hb hg hat
 obtain ⟨A1, c1, rfl⟩ := Kd.iJ hr
 obtain ⟨o1, h1, h2⟩ := Yd hr (Nat.le_refl _)
 exact h A1 c1 o1 w1 (S.XA hb hg hat h1) h2
end
section
variable {w : World} {P : Nat → Prop} {bs : List (Option Nat × Obj)} {ts : List (Value × List aI)} {ro : List (Addr × Value)} {W : World} {l : List aI} {g n cap : Nat}
theorem St.JR (S : St w P bs [(.slice (some ⟨g, 0, none⟩) n cap, l)] ts ro W) (i : Int) (h0 : 0 ≤ i) (h1 : i < l.length) :
  ∃ ua uc, St w P bs [(.slice (some ⟨g, 0, none⟩) n cap, l)] ((.slice ua (au l i).f3.length uc, (au l i).f3) :: ts) ro W ∧ ∀ (j : Nat) (u : Value), (qH (au l i) ua uc)[j]? = some u → W.cell? ⟨g, i.toNat * 7 + j, none⟩ = some u := by
 have hN := S.own _ (List.mem_singleton.2 rfl)
 have hob : (Value.slice (some ⟨g, 0, none⟩) n cap).ownBlock = some g := by simp [Value.ownBlock]
 obtain ⟨c0, hcl, hM, hcc, hfr⟩ := Kd.Fp hN z26 i h0 (by rw [(Kd.kY hN).1]; exact h1)
 obtain ⟨A6, c6, rfl, l6, g6⟩ := qQ hM
 have l6 : (au l i).f3.length ≤ c6 := l6
 have g6 : Kd.F k26 W _ A6 (au l i).f3.length (au l i).f3 := g6
 exact ⟨A6, c6, S.add (b0 := 0) (Kd.C9 l6 (Kd.zk g6 (fun k hk => hk.1.elim id (fun e => absurd (by rw [hob] at e; exact (Option.some.inj e).symm) hk.2)))), fun j u h => hcc j u h⟩
end
section
variable {Pr : Program} {ops : Array Oper} {rest : List Oper} {op : Oper} {a : Act} {Q : Exit → Act → World → Prop} {Kc : Act → World → Prop} {w W : World} {P : Nat → Prop} {bs : List (Option Nat × Obj)} {ts : List (Value × List aI)} {ro : List (Addr × Value)}
theorem acd {ow : List (Value × List aI)} {v : Value} {xs : List Int} {o : Obj} (s x : Operand) (hw : Region.wanted op (yielded ops a.tmps) = true) (ho : op.op = .call { callee := .builtin .append, args := #[s, x], argTypes := #[41, 41] }) (ht : Pr.underlying 41 = some (.slice 3)) (hinfo : (Pr.info? 3).map (fun i => (i.zero, i.size, i.bytes)) = some (some (.int .i64 0), 1, 8))
  (S : St w P ((v.ownBlock, o) :: bs) ow ts ro W) (hI : IR w.heap.size v xs o) (y : Int) (hs : a.eval s = v) (hx : a.eval x = .slice (some ⟨W.heap.size, 0, none⟩) 1 1) (hl : xs.length ≤ 1000000000)
  (h : ∀ A1 c1 o1 w1, St w P (((Value.slice A1 (xs ++ [y]).length c1).ownBlock, o1) :: bs) ow ts ro w1 → IR w.heap.size (.slice A1 (xs ++ [y]).length c1) (xs ++ [y]) o1 → Kc (a.put op.dst (.slice A1 (xs ++ [y]).length c1)) w1) :
  if Region.wanted op (yielded ops a.tmps) = true then Oper.wp Pr op a (W.alloc (.cells #[.int .i64 y] 3)) Kc Q else Kc (a.put op.dst undef) (W.alloc (.cells #[.int .i64 y] 3)) := by
 have hR := hI W (S.blk _ List.mem_cons_self)
 refine Kd.BM (Kd.int .i64) (w0 := w) w.heap.size hw s x 41 3 (.int .i64 0) 8 ho ht hinfo rfl (by decide) (by omega) v xs y [.int .i64 y] (fun _ => True) (fun _ => False) hs hx rfl (fun _ hk => hk.elim) (fun _ _ => trivial) (Kd.cZ hR (fun _ _ => trivial)) S.below S.below.size (by omega) ?_
 intro v1 w1 hr hb hg hat
 obtain ⟨A1, c1, rfl⟩ := Kd.iJ hr
 obtain ⟨o1, h1, h2⟩ := Yd hr (Nat.le_refl _)
 exact h A1 c1 o1 w1 (S.XA hb hg hat h1) h2
theorem CG {v : Value} {xs : List aI} (s x : Operand) (hgd : op.guard = none) (ho : op.op = .call { callee := .builtin .append, args := #[s, x], argTypes := #[24, 24] }) (ht : Pr.underlying 24 = some (.slice 26)) (hinfo : (Pr.info? 26).map (fun i => (i.zero, i.size, i.bytes)) = some (some (.agg #[(.int .u8 0), (.int .i64 0), (.int .i64 0), (.int .i64 0), (.int .i64 0), (.int .i64 0), (.slice none 0 0)]), 7, 72))
  (S : St w P bs [(v, xs)] ts ro W) (y : aI) {A : Option Addr} {c : Nat} (hm : (.slice A y.f3.length c, y.f3) ∈ ts) (hs : a.eval s = v) (hx : a.eval x = .slice (some ⟨W.heap.size, 0, none⟩) 1 1) (hl : xs.length ≤ 1000000000)
  (h : ∀ A1 c1 w1, St w P bs [(.slice A1 (xs ++ [y]).length c1, xs ++ [y])] ts ro w1 → wpList Pr ops Q rest (a.put op.dst (.slice A1 (xs ++ [y]).length c1)) w1) :
  wpList Pr ops Q (op :: rest) a (W.alloc (.cells (qH y A c).toArray 26)) := by
 obtain ⟨_, hl2, hF⟩ := Kd.Iq (S.tree _ hm)
 exact Kd.SY k26 (w0 := w) w.heap.size hgd s x 24 26 _ 72 ho ht hinfo rfl (by decide) (by omega) v xs y (qH y A c) (Ok w P (keys bs [])) (Ok w P (keys bs [(v, xs)])) hs hx (vP W _ y hl2 hF)
  (fun k h => ⟨⟨h.1, fun h2 => h.2 (kT.2 (.inl h2))⟩, fun e => h.2 (kT.2 (.inr e.symm))⟩) (fun k h => ⟨.inr (Nat.le_trans S.below.size h), fun h2 => by have := S.lt ((kT (v := v) (l := xs)).2 (.inl h2)); omega⟩) S.anS S.below S.below.size (by omega)
  (fun v1 w1 hN hb hg hat => by
   obtain ⟨A1, c1, rfl⟩ := Kd.nH hN
   exact h A1 c1 w1 (S.ak' hb hg hat hN))
end
section
variable {Pr : Program} {ops : Array Oper} {md : Region.Mode} {Q : Exit → Act → World → Prop} {S : World → Prop} {ds : List Nat} {T : Bool × List (List Nat × List Nat)} {B : List Nat} {fuel : Nat} {l : Array Bool} {a a' : Act} {w : World} {v : Value} {oi : Oper}
def bA (n m : Nat) : Array Bool := ((List.range n).map fun i => m.testBit i).toArray
theorem bH (i : Nat) (N : Tmp) (l' : Array Bool) (HT : ae (lC md ops = T)) (h : dS Pr md ops Q S ds fuel l' a' w) (hi : ops[i]? = some oi := by rfl) (hN : oi.dst = some N := by rfl) (hc : acb T l.toList l'.toList i = true := by kernel_rfl)
  (hQ : ∀ c a w, Q (.panic c) (a.put oi.dst v) w → Q (.panic c) a w := by exact fun _ _ _ h => h) (hw : Region.wanted oi (yielded ops a.tmps) = true := by rfl) (hv : ∀ w, (execOp a.eval oi).run Pr w = .ok (.value v) w := by intro w'; go_simp; with_reducible rfl)
  (ha : a.put (some N) v = a' := by simp only [Act.put, List.setIfInBounds_toArray, List.set_cons_zero, List.set_cons_succ, cO, b_]; rfl) : dS Pr md ops Q S ds (fuel + 1) l a w :=
 eG l' hi hN (dO HT.out hc) hQ (.inl ⟨hw, hv⟩) ha h
theorem jq (i : Nat) (N : Tmp) (l' : Array Bool) (HT : ae (lC md ops = T)) (HW : ae (lu T.2 B = true)) (hS : S w) (h : dS Pr md ops Q S ds fuel l' a' w) (hi : ops[i]? = some oi := by rfl) (hN : oi.dst = some N := by rfl)
  (hc : ZK T B ds l.toList l'.toList i = true := by kernel_rfl) (hQ : ∀ c a w, Q (.panic c) (a.put oi.dst v) w → Q (.panic c) a w := by exact fun _ _ _ h => h) (hw : Region.wanted oi (yielded ops a.tmps) = true := by rfl) (hv : ∀ w, S w → (execOp a.eval oi).run Pr w = .ok (.value v) w)
  (ha : a.put (some N) v = a' := by simp only [Act.put, List.setIfInBounds_toArray, List.set_cons_zero, List.set_cons_succ, cO, b_]; rfl) : dS Pr md ops Q S ds (fuel + 1) l a w :=
 mF l' hi hN (jd HT.out HW.out hc) hQ (.inl ⟨hw, hv⟩) hS ha h
end
end Go.Proofs.Ytfdmfgaiblfbhaa.P
namespace Go.Proofs.Ytfdmfgaiblfbhaa.P
open Go.RowKit Go.Proofs.ai.bg Go.Proofs.ai.di Go.Proofs.ai.dG
attribute [local go_sem] kD kF lN lQ jF jG kE kG
mutual
def bD.l0 : Nat → Int → List Int → List Int → Option (List Int)
 | 0, _, _, _ => none
 | k + 1, x0, x1, x5 => if x0 > 0 then (bD.l1 k x0 x1 x5 0 x0 x1 (x1.length : Int) 0) else (some x5)
def bD.l1 : Nat → Int → List Int → List Int → Int → Int → List Int → Int → Int → Option (List Int)
 | 0, _, _, _, _, _, _, _, _ => none
 | k + 1, x0, x1, x5, x6, x7, x20, zN, xq => if xq < zN then (if 0 ≤ xq then (if xq < (x20.length : Int) then (if xq < (x5.length : Int) then (if (wrap64 ((rd x20 xq) + (rd x5 xq))) > 0 then (bD.l1 k x0 x1 x5 (wrap64 (x6 + 1)) (mn x7 (wrap64 ((rd x20 xq) + (rd x5 xq)))) x20 zN (wrap64 (xq + 1))) else (bD.l1 k x0 x1 x5 x6 x7 x20 zN (wrap64 (xq + 1)))) else (none)) else (none)) else (none)) else (if x6 = 0 then (none) else (bD.l2 k x0 x1 x5 (mx 1 (mn x7 (wrap64 (Int.tdiv x0 x6)))) x1 (x1.length : Int) 0))
def bD.l2 : Nat → Int → List Int → List Int → Int → List Int → Int → Int → Option (List Int)
 | 0, _, _, _, _, _, _, _ => none
 | k + 1, x0, x1, x5, x10, x51, x52, JI => if JI < x52 then (if 0 ≤ JI then (if JI < (x51.length : Int) then (if JI < (x5.length : Int) then (if (wrap64 ((rd x51 JI) + (rd x5 JI))) > 0 then (if x0 > 0 then (bD.l2 k (wrap64 (x0 - (mn x10 x0))) x1 (x5.set (JI : Int).toNat (wrap64 ((rd x5 JI) - (mn x10 x0)))) x10 x51 x52 (wrap64 (JI + 1))) else (bD.l2 k x0 x1 x5 x10 x51 x52 (wrap64 (JI + 1)))) else (bD.l2 k x0 x1 x5 x10 x51 x52 (wrap64 (JI + 1)))) else (none)) else (none)) else (none)) else (bD.l0 k x0 x1 x5)
end
def bD.f (k : Nat) (a0 : Int) (l1 : List Int) : Option (List Int) := if 0 ≤ (l1.length : Int) then (if ((l1.length : Int) : Int).toNat ≤ 35184372088832 then (bD.l0 k a0 l1 (List.replicate ((l1.length : Int) : Int).toNat 0)) else (none)) else (none)
theorem bD.wZ : ∀ k, (∀ y0 y1 y2, jC (bD.l0 k y0 y1 y2) (bD.l0 (k + 1) y0 y1 y2)) ∧ (∀ y0 y1 y2 y3 y4 y5 y6 y7, jC (bD.l1 k y0 y1 y2 y3 y4 y5 y6 y7) (bD.l1 (k + 1) y0 y1 y2 y3 y4 y5 y6 y7)) ∧ (∀ y0 y1 y2 y3 y4 y5 y6, jC (bD.l2 k y0 y1 y2 y3 y4 y5 y6) (bD.l2 (k + 1) y0 y1 y2 y3 y4 y5 y6))
 | 0 => ⟨fun _ _ _ r h => by simp [bD.l0] at h, fun _ _ _ _ _ _ _ _ r h => by simp [bD.l1] at h, fun _ _ _ _ _ _ _ r h => by simp [bD.l2] at h⟩
 | k + 1 => by
  obtain ⟨EC, ih1, ih2⟩ := bD.wZ k
  refine ⟨?_, ?_, ?_⟩
  ·intro y0 y1 y2
   unfold bD.l0
   repeat' first | (with_reducible exact ih1 _ _ _ _ _ _ _ _) | (with_reducible exact jC.refl _) | (with_reducible refine jC.ite ?_ ?_)
  ·intro y0 y1 y2 y3 y4 y5 y6 y7
   unfold bD.l1
   repeat' first | (with_reducible exact ih1 _ _ _ _ _ _ _ _) | (with_reducible exact ih2 _ _ _ _ _ _ _) | (with_reducible exact jC.refl _) | (with_reducible refine jC.ite ?_ ?_)
  ·intro y0 y1 y2 y3 y4 y5 y6
   unfold bD.l2
   repeat' first | (with_reducible exact EC _ _ _) | (with_reducible exact ih2 _ _ _ _ _ _ _) | (with_reducible exact jC.refl _) | (with_reducible refine jC.ite ?_ ?_)
theorem bD.mono : ∀ a0 a1 k, jC (bD.f k a0 a1) (bD.f (k + 1) a0 a1) := by
 intro a0 a1 k
 obtain ⟨EC, ih1, ih2⟩ := bD.wZ k
 unfold bD.f
 repeat' first | (with_reducible exact EC _ _ _) | (with_reducible exact jC.refl _) | (with_reducible refine jC.ite ?_ ?_)
theorem bD.calls (k : Nat) (a0 : Int) (A1 : Option Addr) (c1 : Nat) (l1 : List Int) (r : List Int) (w : World) (hr1 : Kd.C (Kd.int .i64) w A1 l1.length l1) (hc1 : l1.length ≤ c1) (h : bD.f k a0 l1 = some r) :
  Calls Try.prog 130 #[.int .i64 a0, .slice A1 l1.length c1] w fun e w' => ∃ ng : Value, e = .returned (ng) ∧ Kd.R (Kd.int .i64) 3 w' w.heap.size (fun _ => True) ng r ∧ Below w.heap.size w w' := by
 have HR1 := ae.mk hr1
 clear hr1 hc1
 have HB := ae.mk (Below.refl w.heap.size w)
 have H : (if 0 ≤ (l1.length : Int) then (if ((l1.length : Int) : Int).toNat ≤ 35184372088832 then (bD.l0 k a0 l1 (List.replicate ((l1.length : Int) : Int).toNat 0)) else (none)) else (none)) = some r := h
 clear h
 by_cases c3 : 0 ≤ (l1.length : Int)
 ·rw [if_pos c3] at H
  have pY := eq_true c3
  have uq : decide (0 ≤ (l1.length : Int)) = true := decide_eq_true c3
  clear c3
  by_cases c4 : ((l1.length : Int) : Int).toNat ≤ 35184372088832
  ·rw [if_pos c4] at H
   have zy := eq_true c4
   have TE : decide (((l1.length : Int) : Int).toNat ≤ 35184372088832) = true := decide_eq_true c4
   clear c4
   obtain ⟨alH, Y6⟩ : ∃ y_ : List Int, y_ = (List.replicate ((l1.length : Int) : Int).toNat 0) := ⟨_, rfl⟩
   replace H : (bD.l0 k a0 l1 alH) = some r := by (rw [Y6]; with_reducible exact H)
   have amF := ae.mk Y6
   clear Y6
   have H' := ae.mk H
   clear H
   go_enter Try.func130, Try.ntmps130
   go_wp2_with (((with_reducible refine aQ (N := 16) rfl ?_); refine Kd.aao (Kd.int .i64) _ 3 rfl (N := 16) rfl 41 _ _ rfl (l1.length : Int) rfl rfl Try.underlying41 (.int .i64 0) 8 info3 rfl (by decide) (by omega) 0 (ok := fun _ => True) (iO := fun _ => True) rfl (fun _ hk => hk) trivial (of_decide_eq_true (by (with_reducible assumption))) (Nat.le_trans (Nat.mul_le_mul_right _ (of_decide_eq_true (by (with_reducible assumption)) : (l1.length : Int).toNat ≤ 35184372088832)) (by omega)) (Below.refl _ _) (Nat.le_refl _) ?_; intro ad3 w5 UG hb kW gK; clear kW gK; (rw [← amF.out] at UG); have al4 := ae.mk (Kd.iQ UG (aY (by repeat ((with_reducible exact HB.out))))); replace HB := ae.mk (aH (by repeat ((with_reducible exact HB.out))) hb); clear hb UG))
   go_loopg [0] k (fun kq v0 w' => ∃ (yE : Int) (gV : List Int), v0 = .int .i64 yE ∧ ae (bD.l0 kq yE l1 gV = some r) ∧ ae (kq ≤ k) ∧ ae (Kd.R (Kd.int .i64) 3 w' w.heap.size (fun _ => True) ad3 gV) ∧ ae (Below w.heap.size w w'))
   case atStart => exact ⟨(a0), (alH), (by rfl), H', ⟨Nat.le_refl _⟩, ⟨by exact al4.out⟩, ⟨by repeat ((with_reducible exact HB.out))⟩⟩
   case round =>
    clear H'
    clear pY uq zy TE
    obtain ⟨yE, gV, rfl, HA, jI, iy, HB⟩ := hrel
    cases gk with
    | zero => exact absurd HA.out (by simp [bD.l0])
    | succ k1 =>
     have H := HA.out
     clear HA
     simp only [bD.l0] at H
     by_cases c7 : yE > 0
     ·rw [if_pos c7] at H
      have t_ : decide (0 < yE) = true := decide_eq_true c7
      clear c7
      have H' := ae.mk H
      clear H
      go_wp2
      go_loopg [6, 7, 22] k1 (fun kq v6 v7 v22 w' => ∃ (rW : Int) (Fa : Int) (jH : Int), v6 = .int .i64 rW ∧ v7 = .int .i64 Fa ∧ v22 = .int .i64 jH ∧ ae (bD.l1 kq yE l1 gV rW Fa l1 (l1.length : Int) jH = some r) ∧ ae (kq ≤ k1) ∧ ae (Kd.R (Kd.int .i64) 3 w' w.heap.size (fun _ => True) ad3 gV) ∧ ae (Below w.heap.size w w'))
      case atStart => exact ⟨(0), (yE), (0), (by rfl), (by rfl), (by rfl), H', ⟨Nat.le_refl _⟩, ⟨by exact iy.out⟩, ⟨by repeat ((with_reducible exact HB.out))⟩⟩
      case round =>
       clear H'
       clear t_
       obtain ⟨rW, Fa, jH, rfl, rfl, rfl, HA, v_, iy, HB⟩ := hrel
       cases gk with
       | zero => exact absurd HA.out (by simp [bD.l1])
       | succ k2 =>
        have H := HA.out
        clear HA
        simp only [bD.l1] at H
        by_cases c8 : jH < (l1.length : Int)
        ·rw [if_pos c8] at H
         have vZ : decide (jH < (l1.length : Int)) = true := decide_eq_true c8
         clear c8
         by_cases c9 : 0 ≤ jH
         ·rw [if_pos c9] at H
          have IA : decide (0 ≤ jH) = true := decide_eq_true c9
          clear c9
          by_cases c10 : jH < (l1.length : Int)
          ·rw [if_pos c10] at H
           have Cb : decide (jH < (l1.length : Int)) = true := decide_eq_true c10
           clear c10
           by_cases c11 : jH < (gV.length : Int)
           ·rw [if_pos c11] at H
            have GZ : decide (jH < (gV.length : Int)) = true := decide_eq_true c11
            clear c11
            by_cases c12 : (wrap64 ((rd l1 jH) + (rd gV jH))) > 0
            ·rw [if_pos c12] at H
             have Cc : decide (0 < (wrap64 ((rd l1 jH) + (rd gV jH)))) = true := decide_eq_true c12
             clear c12
             obtain ⟨acZ, ae5⟩ : ∃ j_ : Int, (mn Fa (wrap64 ((rd l1 jH) + (rd gV jH)))) = j_ := ⟨_, rfl⟩
             replace H : (bD.l1 k2 yE l1 gV (wrap64 (rW + 1)) acZ l1 (l1.length : Int) (wrap64 (jH + 1))) = some r := by (rw [ae5] at H; exact H)
             have auf : (if (wrap64 ((rd l1 jH) + (rd gV jH))) < Fa then (wrap64 ((rd l1 jH) + (rd gV jH))) else Fa) = acZ := ae5
             have H' := ae.mk H
             clear H
             have LJ : 0 ≤ (jH : Int) := of_decide_eq_true (by (with_reducible assumption))
             have LX : jH < (l1.length : Int) := of_decide_eq_true (by (with_reducible assumption))
             obtain ⟨am4, acx, Ah⟩ := Kd.iU HR1.out jH LJ LX
             cases acx
             replace Ah := (HB.out.cell (World.block_lt_of_cell? w _ Ah)).trans Ah
             replace LJ := eq_true LJ
             replace LX := eq_true LX
             obtain ⟨OC, Hf, TR⟩ := Kd.iJ iy.out
             subst TR
             have LM : 0 ≤ (jH : Int) := of_decide_eq_true (by (with_reducible assumption))
             have LY : jH < (gV.length : Int) := of_decide_eq_true (by (with_reducible assumption))
             obtain ⟨aeI, acy, ahP⟩ := Kd.iU (Kd.dH iy.out).2.2 jH LM LY
             cases acy
             replace LM := eq_true LM
             replace LY := eq_true LY
             have adp : 0 ≤ (jH : Int) := of_decide_eq_true (by (with_reducible assumption))
             have adD : jH < (gV.length : Int) := of_decide_eq_true (by (with_reducible assumption))
             obtain ⟨am5, aoX, asx⟩ := Kd.iU (Kd.dH iy.out).2.2 jH adp adD
             obtain rfl : aeI = am5 := (by injection aoX)
             replace adp := eq_true adp
             replace adD := eq_true adD
             go_wp2
             go_roundg k2
             case measure => have := jI.out; have := v_.out; omega
             case rel => exact ⟨(wrap64 (rW + 1)), (acZ), (wrap64 (jH + 1)), (by rfl), (by rfl), (by rfl), H', ⟨by have := jI.out; have := v_.out; omega⟩, ⟨by exact iy.out⟩, ⟨by repeat ((with_reducible exact HB.out))⟩⟩
            ·rw [if_neg c12] at H
             have Cc : decide (0 < (wrap64 ((rd l1 jH) + (rd gV jH)))) = false := decide_eq_false c12
             clear c12
             have H' := ae.mk H
             clear H
             have LJ : 0 ≤ (jH : Int) := of_decide_eq_true (by (with_reducible assumption))
             have LX : jH < (l1.length : Int) := of_decide_eq_true (by (with_reducible assumption))
             obtain ⟨am4, acx, Ah⟩ := Kd.iU HR1.out jH LJ LX
             cases acx
             replace Ah := (HB.out.cell (World.block_lt_of_cell? w _ Ah)).trans Ah
             replace LJ := eq_true LJ
             replace LX := eq_true LX
             obtain ⟨X0, YE, acG⟩ := Kd.iJ iy.out
             subst acG
             have LM : 0 ≤ (jH : Int) := of_decide_eq_true (by (with_reducible assumption))
             have LY : jH < (gV.length : Int) := of_decide_eq_true (by (with_reducible assumption))
             obtain ⟨aeI, acy, ahP⟩ := Kd.iU (Kd.dH iy.out).2.2 jH LM LY
             cases acy
             replace LM := eq_true LM
             replace LY := eq_true LY
             go_wp2
             go_roundg k2
             case measure => have := jI.out; have := v_.out; omega
             case rel => exact ⟨(rW), (Fa), (wrap64 (jH + 1)), (by rfl), (by rfl), (by rfl), H', ⟨by have := jI.out; have := v_.out; omega⟩, ⟨by exact iy.out⟩, ⟨by repeat ((with_reducible exact HB.out))⟩⟩
           ·rw [if_neg c11] at H
            exact absurd H (by simp)
          ·rw [if_neg c10] at H
           exact absurd H (by simp)
         ·rw [if_neg c9] at H
          exact absurd H (by simp)
        ·rw [if_neg c8] at H
         have vZ : decide (jH < (l1.length : Int)) = false := decide_eq_false c8
         clear c8
         by_cases c16 : rW = 0
         ·rw [if_pos c16] at H
          exact absurd H (by simp)
         ·rw [if_neg c16] at H
          have RX : (rW == 0) = false := beq_eq_false_iff_ne.mpr c16
          have am_ : (rW != 0) = true := bne_iff_ne.mpr c16
          obtain ⟨UM, ae6⟩ : ∃ j_ : Int, (mn Fa (wrap64 (Int.tdiv yE rW))) = j_ := ⟨_, rfl⟩
          replace H : (bD.l2 k2 yE l1 gV (mx 1 (UM)) l1 (l1.length : Int) 0) = some r := by (rw [ae6] at H; exact H)
          have aug : (if (wrap64 (Int.tdiv yE rW)) < Fa then (wrap64 (Int.tdiv yE rW)) else Fa) = UM := ae6
          obtain ⟨Jm, ae7⟩ : ∃ j_ : Int, (mx 1 (UM)) = j_ := ⟨_, rfl⟩
          replace H : (bD.l2 k2 yE l1 gV Jm l1 (l1.length : Int) 0) = some r := by (rw [ae7] at H; exact H)
          have auh : (if 1 < (UM) then (UM) else 1) = Jm := ae7
          have H' := ae.mk H
          clear H
          go_wp2
          go_loopg [0, 53] k2 (fun kq v0 v53 w' => ∃ (yF : Int) (rF : List Int) (iq : Int), v0 = .int .i64 yF ∧ v53 = .int .i64 iq ∧ ae (bD.l2 kq yF l1 rF Jm l1 (l1.length : Int) iq = some r) ∧ ae (kq ≤ k2) ∧ ae (Kd.R (Kd.int .i64) 3 w' w.heap.size (fun _ => True) ad3 rF) ∧ ae (Below w.heap.size w w'))
          case atStart => exact ⟨(yE), (gV), (0), (by rfl), (by rfl), H', ⟨Nat.le_refl _⟩, ⟨by exact iy.out⟩, ⟨by repeat ((with_reducible exact HB.out))⟩⟩
          case round =>
           clear H'
           clear vZ c16 RX am_
           obtain ⟨yF, rF, iq, rfl, rfl, HA, zl, iy, HB⟩ := hrel
           cases gk with
           | zero => exact absurd HA.out (by simp [bD.l2])
           | succ k3 =>
            have H := HA.out
            clear HA
            simp only [bD.l2] at H
            by_cases c19 : iq < (l1.length : Int)
            ·rw [if_pos c19] at H
             have aeP : decide (iq < (l1.length : Int)) = true := decide_eq_true c19
             clear c19
             by_cases c20 : 0 ≤ iq
             ·rw [if_pos c20] at H
              have am' : decide (0 ≤ iq) = true := decide_eq_true c20
              clear c20
              by_cases c21 : iq < (l1.length : Int)
              ·rw [if_pos c21] at H
               have aeQ : decide (iq < (l1.length : Int)) = true := decide_eq_true c21
               clear c21
               by_cases c22 : iq < (rF.length : Int)
               ·rw [if_pos c22] at H
                have auS : decide (iq < (rF.length : Int)) = true := decide_eq_true c22
                clear c22
                by_cases c23 : (wrap64 ((rd l1 iq) + (rd rF iq))) > 0
                ·rw [if_pos c23] at H
                 have G5 : decide (0 < (wrap64 ((rd l1 iq) + (rd rF iq)))) = true := decide_eq_true c23
                 clear c23
                 by_cases c24 : yF > 0
                 ·rw [if_pos c24] at H
                  have Yv : decide (0 < yF) = true := decide_eq_true c24
                  clear c24
                  obtain ⟨Jn, ae8⟩ : ∃ j_ : Int, (mn Jm yF) = j_ := ⟨_, rfl⟩
                  replace H : (bD.l2 k3 (wrap64 (yF - (Jn))) l1 (rF.set (iq : Int).toNat (wrap64 ((rd rF iq) - (Jn)))) Jm l1 (l1.length : Int) (wrap64 (iq + 1))) = some r := by (rw [ae8] at H; exact H)
                  have aui : (if yF < Jm then yF else Jm) = Jn := ae8
                  obtain ⟨aej, Y7⟩ : ∃ y_ : List Int, y_ = (rF.set (iq : Int).toNat (wrap64 ((rd rF iq) - (Jn)))) := ⟨_, rfl⟩
                  replace H : (bD.l2 k3 (wrap64 (yF - (Jn))) l1 aej Jm l1 (l1.length : Int) (wrap64 (iq + 1))) = some r := by (rw [Y7]; with_reducible exact H)
                  have amG := ae.mk Y7
                  clear Y7
                  have H' := ae.mk H
                  clear H
                  have DD : 0 ≤ (iq : Int) := of_decide_eq_true (by (with_reducible assumption))
                  have DK : iq < (l1.length : Int) := of_decide_eq_true (by (with_reducible assumption))
                  obtain ⟨aeJ, TM, uw⟩ := Kd.iU HR1.out iq DD DK
                  cases TM
                  replace uw := (HB.out.cell (World.block_lt_of_cell? w _ uw)).trans uw
                  replace DD := eq_true DD
                  replace DK := eq_true DK
                  obtain ⟨awd, aoS, ao5⟩ := Kd.iJ iy.out
                  subst ao5
                  have DF : 0 ≤ (iq : Int) := of_decide_eq_true (by (with_reducible assumption))
                  have DL : iq < (rF.length : Int) := of_decide_eq_true (by (with_reducible assumption))
                  obtain ⟨Yk, TN, PY⟩ := Kd.iU (Kd.dH iy.out).2.2 iq DF DL
                  cases TN
                  replace DF := eq_true DF
                  replace DL := eq_true DL
                  have adr : 0 ≤ (iq : Int) := of_decide_eq_true (by (with_reducible assumption))
                  have adE : iq < (rF.length : Int) := of_decide_eq_true (by (with_reducible assumption))
                  obtain ⟨am6, aoY, ahQ⟩ := Kd.iU (Kd.dH iy.out).2.2 iq adr adE
                  obtain rfl : Yk = am6 := (by injection aoY)
                  replace adr := eq_true adr
                  replace adE := eq_true adE
                  have p26 : 0 ≤ (iq : Int) := of_decide_eq_true (by (with_reducible assumption))
                  have q26 : (iq : Int) < ((rF.length : Int) : Int) := of_decide_eq_true (by (with_reducible assumption))
                  obtain ⟨acO, awo, ao4, aki, ao8, awl, aoF⟩ := Kd.aan iy.out (by omega)
                  (cases ao4)
                  have aoE := ae.mk aki
                  clear aki ao8 aoF
                  (simp only [add_plain] at PY)
                  (simp only [add_plain] at ahQ)
                  obtain ⟨aum, aud⟩ := Kd.afL 0 iy.out (iq : Int) p26 q26
                  replace p26 := eq_true p26
                  replace q26 := eq_true q26
                  have ab2 := Kd.ajD iy.out (iq : Int) (wrap64 ((rd rF iq) - (Jn)))
                  go_wp2_with (((with_reducible refine YK (t := 3) (p := 78) rfl ?_); refine VF (t := 3) (p := 78) (v := ?auz) (w1 := (wr.setCell ⟨acO, (iq : Int).toNat, none⟩ (.int .i64 (wrap64 ((rd rF iq) - (Jn)))))) ?hg ?ho ?hn ?hr ?_; (case ho => rfl); (case hg => rfl); (case hn => rfl); (case hr => (go_simp; done)); intro zO hw; have hg : wr.grownBy zO (some acO) := (by rw [hw]; exact ab2.2); have hp_ : Kd.R (Kd.int .i64) 3 zO w.heap.size (fun _ => True) (.slice (some ⟨acO, 0, none⟩) rF.length aoS) aej := (by rw [hw, amG.out]; exact ab2.1); clear ab2; replace iy := ae.mk (hp_); replace HB := ae.mk ((by rw [hw]; exact iw (HB.out) aoE.out : Below w.heap.size w zO)); clear hg hw hp_))
                  go_roundg k3
                  case measure => have := jI.out; have := v_.out; have := zl.out; omega
                  case rel => exact ⟨(wrap64 (yF - (Jn))), (aej), (wrap64 (iq + 1)), (by rfl), (by rfl), H', ⟨by have := jI.out; have := v_.out; have := zl.out; omega⟩, ⟨by exact iy.out⟩, ⟨by repeat ((with_reducible exact HB.out))⟩⟩
                 ·rw [if_neg c24] at H
                  have Yv : decide (0 < yF) = false := decide_eq_false c24
                  clear c24
                  have H' := ae.mk H
                  clear H
                  have DD : 0 ≤ (iq : Int) := of_decide_eq_true (by (with_reducible assumption))
                  have DK : iq < (l1.length : Int) := of_decide_eq_true (by (with_reducible assumption))
                  obtain ⟨aeJ, TM, uw⟩ := Kd.iU HR1.out iq DD DK
                  cases TM
                  replace uw := (HB.out.cell (World.block_lt_of_cell? w _ uw)).trans uw
                  replace DD := eq_true DD
                  replace DK := eq_true DK
                  obtain ⟨X3, YF, acK⟩ := Kd.iJ iy.out
                  subst acK
                  have DF : 0 ≤ (iq : Int) := of_decide_eq_true (by (with_reducible assumption))
                  have DL : iq < (rF.length : Int) := of_decide_eq_true (by (with_reducible assumption))
                  obtain ⟨Yk, TN, PY⟩ := Kd.iU (Kd.dH iy.out).2.2 iq DF DL
                  cases TN
                  replace DF := eq_true DF
                  replace DL := eq_true DL
                  go_wp2
                  go_roundg k3
                  case measure => have := jI.out; have := v_.out; have := zl.out; omega
                  case rel => exact ⟨(yF), (rF), (wrap64 (iq + 1)), (by rfl), (by rfl), H', ⟨by have := jI.out; have := v_.out; have := zl.out; omega⟩, ⟨by exact iy.out⟩, ⟨by repeat ((with_reducible exact HB.out))⟩⟩
                ·rw [if_neg c23] at H
                 have G5 : decide (0 < (wrap64 ((rd l1 iq) + (rd rF iq)))) = false := decide_eq_false c23
                 clear c23
                 have H' := ae.mk H
                 clear H
                 have DD : 0 ≤ (iq : Int) := of_decide_eq_true (by (with_reducible assumption))
                 have DK : iq < (l1.length : Int) := of_decide_eq_true (by (with_reducible assumption))
                 obtain ⟨aeJ, TM, uw⟩ := Kd.iU HR1.out iq DD DK
                 cases TM
                 replace uw := (HB.out.cell (World.block_lt_of_cell? w _ uw)).trans uw
                 replace DD := eq_true DD
                 replace DK := eq_true DK
                 obtain ⟨awe, awp, ao6⟩ := Kd.iJ iy.out
                 subst ao6
                 have DF : 0 ≤ (iq : Int) := of_decide_eq_true (by (with_reducible assumption))
                 have DL : iq < (rF.length : Int) := of_decide_eq_true (by (with_reducible assumption))
                 obtain ⟨Yk, TN, PY⟩ := Kd.iU (Kd.dH iy.out).2.2 iq DF DL
                 cases TN
                 replace DF := eq_true DF
                 replace DL := eq_true DL
                 go_wp2
                 go_roundg k3
                 case measure => have := jI.out; have := v_.out; have := zl.out; omega
                 case rel => exact ⟨(yF), (rF), (wrap64 (iq + 1)), (by rfl), (by rfl), H', ⟨by have := jI.out; have := v_.out; have := zl.out; omega⟩, ⟨by exact iy.out⟩, ⟨by repeat ((with_reducible exact HB.out))⟩⟩
               ·rw [if_neg c22] at H
                exact absurd H (by simp)
              ·rw [if_neg c21] at H
               exact absurd H (by simp)
             ·rw [if_neg c20] at H
              exact absurd H (by simp)
            ·rw [if_neg c19] at H
             have aeP : decide (iq < (l1.length : Int)) = false := decide_eq_false c19
             clear c19
             have H' := ae.mk H
             clear H
             go_wp2
             go_roundg k3
             case measure => have := jI.out; have := v_.out; have := zl.out; omega
             case rel => exact ⟨(yF), (rF), (by rfl), H', ⟨by have := jI.out; have := v_.out; have := zl.out; omega⟩, ⟨by exact iy.out⟩, ⟨by repeat ((with_reducible exact HB.out))⟩⟩
     ·rw [if_neg c7] at H
      have t_ : decide (0 < yE) = false := decide_eq_false c7
      clear c7
      obtain rfl := Option.some.inj H
      go_wp2
      go_ret
      exact ⟨_, by rfl, by exact iy.out, by repeat ((with_reducible exact HB.out))⟩
  ·rw [if_neg c4] at H
   exact absurd H (by simp)
 ·rw [if_neg c3] at H
  exact absurd H (by simp)
end Go.Proofs.Ytfdmfgaiblfbhaa.P
namespace Go.Proofs.Ytfdmfgaiblfbhaa.P
open Go.RowKit Go.Proofs.ai.bg Go.Proofs.ai.di Go.Proofs.ai.dG
def oz (a n : Int) (i : Int) : Int := a / n + if i < a % n then 1 else 0
def moreL (a : Int) (n : Nat) : List Int := (List.range n).map fun i => oz a n (i : Nat)
theorem qo (a : Int) (n : Nat) : (moreL a n).length = n := by simp [moreL]
theorem abf (a : Int) (n k : Nat) (h : k < n) : (moreL a n)[k]? = some (oz a n k) := by simp [moreL, h]
theorem adR {α : Type} (L : List α) (x z : α) (k : Nat) (hx : L[k]? = some x) : (L.take k ++ List.replicate (L.length - k) z).set k x = L.take (k + 1) ++ List.replicate (L.length - (k + 1)) z := by
 obtain ⟨h, rfl⟩ := List.getElem?_eq_some_iff.1 hx
 obtain ⟨m, hm⟩ : ∃ m, L.length - k = m + 1 := ⟨L.length - k - 1, by omega⟩
 rw [List.set_append_right _ _ (by simp; omega), List.length_take, show k - min k L.length = 0 by omega, hm, List.replicate_succ, List.set_cons_zero, List.take_succ_eq_append_getElem h, List.append_assoc, show L.length - (k + 1) = m by omega]
 rfl
theorem Oh (a : Int) (n k : Nat) (h : k < n) : ((moreL a n).take k ++ List.replicate (n - k) 0).set k (oz a n k) = (moreL a n).take (k + 1) ++ List.replicate (n - (k + 1)) 0 := by
 have := adR (moreL a n) (oz a n k) 0 k (abf a n k h)
 rwa [qo] at this
theorem ac_ (a : Int) (n : Nat) (w : World) (h0 : 0 ≤ a) (h1 : a ≤ 9000000000000000000) (h2 : 1 ≤ n) (h3 : n ≤ 100000) :
  Calls Try.prog 129 #[.int .i64 a, .int .i64 n] w fun e w' => ∃ ng : Value, e = .returned ng ∧ Kd.R (Kd.int .i64) 3 w' w.heap.size (fun _ => True) ng (moreL a n) ∧ Below w.heap.size w w' := by
 have hmk := Oj (P := Try.prog) 41 3 .i64 8 Try.underlying41 info3 (by decide) n (by omega)
 have hs := UZ w w.heap.size 3 .i64 n (Nat.le_refl _) (by omega)
 have hq0 : 0 ≤ a / (n : Int) := Int.ediv_nonneg h0 (by omega)
 have hq1 : a / (n : Int) ≤ a := Int.ediv_le_self _ h0
 have HS := ae.mk hs
 clear hs
 go_enter Try.func129, Try.ntmps129
 go_wp2
 go_loopw [11] (fun v11 wr => ∃ k : Nat, k ≤ n ∧ v11 = .int .i64 k ∧ ae (wr.ownsRow w.heap.size 3 1 (.slice (some ⟨w.heap.size, 0, none⟩) n n) n (nums .i64 ((moreL a n).take k ++ List.replicate (n - k) 0))) ∧ ae (Below w.heap.size w wr)) (fun v11 _ => n - (intOf v11).toNat)
 case atStart => exact ⟨0, by omega, rfl, ⟨by simpa using HS.out⟩, ⟨kz (Below.refl _ _) _⟩⟩
 case round =>
  obtain ⟨k, hk, rfl, HO, HB⟩ := hrel
  clear hmk HS
  by_cases hlt : k < n
  ·have hlt' : (k : Int) < (n : Int) := by omega
   obtain ⟨hc, hf⟩ := abm HO.out (k : Int) (by omega) (by omega)
   simp only [Int.toNat_natCast] at hc hf
   by_cases hr : (k : Int) < a % (n : Int)
   ·have HK := ae.mk (Oh a n k hlt)
    have HR := ae.mk hr
    go_wp2
    go_roundw
    case rel =>
     obtain ⟨s1, _⟩ := EG HO.out (k : Int) (a / n)
     obtain ⟨s2, _⟩ := EG s1 (k : Int) (a / n + 1)
     simp only [Int.toNat_natCast, List.set_set] at s1 s2
     have e : oz a n k = a / n + 1 := by unfold oz; rw [if_pos HR.out]
     rw [← e, HK.out] at s2
     exact ⟨k + 1, by omega, by go_num, ⟨by rw [← e]; exact s2⟩, ⟨iw (iw HB.out (Nat.le_refl _)) (Nat.le_refl _)⟩⟩
    case measure => simp [intOf]; omega
   ·have HK := ae.mk (Oh a n k hlt)
    have HR := ae.mk hr
    go_wp2
    go_roundw
    case rel =>
     obtain ⟨s1, _⟩ := EG HO.out (k : Int) (a / n)
     simp only [Int.toNat_natCast] at s1
     have e : oz a n k = a / n := by unfold oz; rw [if_neg HR.out]; omega
     rw [← e, HK.out] at s1
     exact ⟨k + 1, by omega, by go_num, ⟨by rw [← e]; exact s1⟩, ⟨iw HB.out (Nat.le_refl _)⟩⟩
    case measure => simp [intOf]; omega
  ·obtain rfl : k = n := by omega
   go_wp2
   go_ret
   refine ⟨_, rfl, ?_, HB.out⟩
   have h := HO.out
   rw [List.take_of_length_le (by rw [qo]; omega), Nat.sub_self] at h
   simp only [List.replicate_zero, List.append_nil] at h
   exact Kd.zU (enc := Value.int .i64) (h1 := fun _ => rfl) (by rw [qo]; exact h) (fun _ _ => trivial)
def tV.f (a0 a1 : Int) : Option (List Int) := if 0 ≤ a0 ∧ a0 ≤ 9000000000000000000 ∧ 1 ≤ a1 ∧ a1 ≤ 100000 then some (moreL a0 a1.toNat) else none
theorem tV.calls (a0 a1 : Int) (r : List Int) (w : World) (h : tV.f a0 a1 = some r) : Calls Try.prog 129 #[.int .i64 a0, .int .i64 a1] w fun e w' => ∃ ng : Value, e = .returned (ng) ∧ Kd.R (Kd.int .i64) 3 w' w.heap.size (fun _ => True) ng r ∧ Below w.heap.size w w' := by
 unfold tV.f at h
 split at h
 ·rename_i hc
  obtain ⟨n, rfl⟩ := Int.eq_ofNat_of_zero_le (show 0 ≤ a1 by omega)
  obtain rfl := Option.some.inj h
  exact ac_ a0 n w hc.1 hc.2.1 (by omega) (by omega)
 ·exact absurd h (by simp)
end Go.Proofs.Ytfdmfgaiblfbhaa.P
namespace Go.Proofs.Ytfdmfgaiblfbhaa.P
open Go.RowKit Go.Proofs.ai.bg Go.Proofs.ai.di Go.Proofs.ai.dG
attribute [local go_sem] kD kF lN lQ jF jG kE kG
mutual
def bF.l0 : Nat → Int → List Int → Int → List Int → Int → Int → Option (List Int × Bool)
 | 0, _, _, _, _, _, _ => none
 | k + 1, x0, x1, x6, x9, x10, x11 => if x11 < x10 then (if 0 ≤ x11 then (if x11 < (x9.length : Int) then (if (rd x9 x11) < 0 then (some (([] : List Int), false)) else (if (rd x9 x11) > 2147483647 then (some (([] : List Int), false)) else (bF.l0 k x0 x1 (mn 2147483647 (wrap64 (x6 + (rd x9 x11)))) x9 x10 (wrap64 (x11 + 1))))) else (none)) else (none)) else (if (x1.length : Int) = 0 then (bF.j1 k x0 x1 true) else (if x0 < (wrap64 (-x6)) then (bF.j1 k x0 x1 true) else (bF.j1 k x0 x1 (decide (x0 > 2147483647)))))
def bF.j1 : Nat → Int → List Int → Bool → Option (List Int × Bool)
 | 0, _, _, _ => none
 | k + 1, x0, x1, x26 => if x26 = true then (some (([] : List Int), false)) else (if x0 ≥ 0 then ((tV.f x0 (x1.length : Int)).bind fun Qw => (some (Qw, true))) else ((bD.f k (wrap64 (-x0)) x1).bind fun Qx => (some (Qx, true))))
end
def bF.f (k : Nat) (a0 : Int) (l1 : List Int) : Option (List Int × Bool) := bF.l0 k a0 l1 0 l1 (l1.length : Int) 0
theorem bF.wZ : ∀ k, (∀ y0 y1 y2 y3 y4 y5, jC (bF.l0 k y0 y1 y2 y3 y4 y5) (bF.l0 (k + 1) y0 y1 y2 y3 y4 y5)) ∧ (∀ y0 y1 y2, jC (bF.j1 k y0 y1 y2) (bF.j1 (k + 1) y0 y1 y2))
 | 0 => ⟨fun _ _ _ _ _ _ r h => by simp [bF.l0] at h, fun _ _ _ r h => by simp [bF.j1] at h⟩
 | k + 1 => by
  obtain ⟨EC, ih1⟩ := bF.wZ k
  refine ⟨?_, ?_⟩
  ·intro y0 y1 y2 y3 y4 y5
   unfold bF.l0
   repeat' first | (with_reducible exact EC _ _ _ _ _ _) | (with_reducible exact ih1 _ _ _) | (with_reducible exact jC.refl _) | (with_reducible refine jC.ite ?_ ?_)
  ·intro y0 y1 y2
   unfold bF.j1
   repeat' first | (with_reducible exact bD.mono _ _ _) | (with_reducible exact jC.refl _) | (with_reducible refine jC.ite ?_ ?_) | (with_reducible refine jC.bind ?_ (fun _ => ?_))
theorem bF.mono : ∀ a0 a1 k, jC (bF.f k a0 a1) (bF.f (k + 1) a0 a1) := by
 intro a0 a1 k
 obtain ⟨EC, ih1⟩ := bF.wZ k
 unfold bF.f
 repeat' (with_reducible exact EC _ _ _ _ _ _)
theorem bF.calls (k : Nat) (a0 : Int) (A1 : Option Addr) (c1 : Nat) (l1 : List Int) (r1 : List Int) (r2 : Bool) (w : World) (hr1 : Kd.C (Kd.int .i64) w A1 l1.length l1) (hc1 : l1.length ≤ c1) (h : bF.f k a0 l1 = some (r1, r2)) :
  Calls Try.prog 49 #[.int .i64 a0, .slice A1 l1.length c1] w fun e w' => ∃ ng : Value, e = .returned (.tuple #[ng, .bool r2]) ∧ Kd.R (Kd.int .i64) 3 w' w.heap.size (fun _ => True) ng r1 ∧ Below w.heap.size w w' := by
 have HR1 := ae.mk hr1
 have Fg := ae.mk hc1
 clear hr1 hc1
 have HB := ae.mk (Below.refl w.heap.size w)
 have H : (bF.l0 k a0 l1 0 l1 (l1.length : Int) 0) = some (r1, r2) := h
 clear h
 have H' := ae.mk H
 clear H
 go_enter Try.func49, Try.ntmps49
 go_wp2
 go_loopg [6, 11] k (fun kq v6 v11 w' => ∃ (vJ : Int) (bf : Int), v6 = .int .i64 vJ ∧ v11 = .int .i64 bf ∧ ae (bF.l0 kq a0 l1 vJ l1 (l1.length : Int) bf = some (r1, r2)) ∧ ae (kq ≤ k) ∧ ae (Below w.heap.size w w'))
 case atStart => exact ⟨(0), (0), (by rfl), (by rfl), H', ⟨Nat.le_refl _⟩, ⟨by repeat ((with_reducible exact HB.out))⟩⟩
 case round =>
  clear H'
  obtain ⟨vJ, bf, rfl, rfl, HA, jI, HB⟩ := hrel
  cases gk with
  | zero => exact absurd HA.out (by simp [bF.l0])
  | succ k1 =>
   have H := HA.out
   clear HA
   simp only [bF.l0] at H
   by_cases c3 : bf < (l1.length : Int)
   ·rw [if_pos c3] at H
    have pY : decide (bf < (l1.length : Int)) = true := decide_eq_true c3
    clear c3
    by_cases c4 : 0 ≤ bf
    ·rw [if_pos c4] at H
     have zy : decide (0 ≤ bf) = true := decide_eq_true c4
     clear c4
     by_cases c5 : bf < (l1.length : Int)
     ·rw [if_pos c5] at H
      have ET : decide (bf < (l1.length : Int)) = true := decide_eq_true c5
      clear c5
      by_cases c6 : (rd l1 bf) < 0
      ·rw [if_pos c6] at H
       have wS : decide ((rd l1 bf) < 0) = true := decide_eq_true c6
       clear c6
       simp only [Option.some.injEq, Prod.mk.injEq] at H
       obtain ⟨rfl, rfl⟩ := H
       have DI : 0 ≤ (bf : Int) := of_decide_eq_true (by (with_reducible assumption))
       have DN : bf < (l1.length : Int) := of_decide_eq_true (by (with_reducible assumption))
       obtain ⟨aeK, TP, uy⟩ := Kd.iU HR1.out bf DI DN
       cases TP
       replace uy := (HB.out.cell (World.block_lt_of_cell? w _ uy)).trans uy
       replace DI := eq_true DI
       replace DN := eq_true DN
       go_wp2
       go_ret2
       exact ⟨_, by rfl, by exact Kd.nI _ _ _ _ _, by repeat ((with_reducible exact HB.out))⟩
      ·rw [if_neg c6] at H
       have wS : decide ((rd l1 bf) < 0) = false := decide_eq_false c6
       clear c6
       by_cases c7 : (rd l1 bf) > 2147483647
       ·rw [if_pos c7] at H
        have t_ : decide (2147483647 < (rd l1 bf)) = true := decide_eq_true c7
        clear c7
        simp only [Option.some.injEq, Prod.mk.injEq] at H
        obtain ⟨rfl, rfl⟩ := H
        have DI : 0 ≤ (bf : Int) := of_decide_eq_true (by (with_reducible assumption))
        have DN : bf < (l1.length : Int) := of_decide_eq_true (by (with_reducible assumption))
        obtain ⟨aeK, TP, uy⟩ := Kd.iU HR1.out bf DI DN
        cases TP
        replace uy := (HB.out.cell (World.block_lt_of_cell? w _ uy)).trans uy
        replace DI := eq_true DI
        replace DN := eq_true DN
        go_wp2
        go_ret2
        exact ⟨_, by rfl, by exact Kd.nI _ _ _ _ _, by repeat ((with_reducible exact HB.out))⟩
       ·rw [if_neg c7] at H
        have t_ : decide (2147483647 < (rd l1 bf)) = false := decide_eq_false c7
        clear c7
        obtain ⟨ji8, akD⟩ : ∃ j_ : Int, (mn 2147483647 (wrap64 (vJ + (rd l1 bf)))) = j_ := ⟨_, rfl⟩
        replace H : (bF.l0 k1 a0 l1 ji8 l1 (l1.length : Int) (wrap64 (bf + 1))) = some (r1, r2) := by (rw [akD] at H; exact H)
        have au' : (if (wrap64 (vJ + (rd l1 bf))) < 2147483647 then (wrap64 (vJ + (rd l1 bf))) else 2147483647) = ji8 := akD
        have H' := ae.mk H
        clear H
        have DI : 0 ≤ (bf : Int) := of_decide_eq_true (by (with_reducible assumption))
        have DN : bf < (l1.length : Int) := of_decide_eq_true (by (with_reducible assumption))
        obtain ⟨aeK, TP, uy⟩ := Kd.iU HR1.out bf DI DN
        cases TP
        replace uy := (HB.out.cell (World.block_lt_of_cell? w _ uy)).trans uy
        replace DI := eq_true DI
        replace DN := eq_true DN
        go_wp2
        go_roundg k1
        case measure => have := jI.out; omega
        case rel => exact ⟨(ji8), (wrap64 (bf + 1)), (by rfl), (by rfl), H', ⟨by have := jI.out; omega⟩, ⟨by repeat ((with_reducible exact HB.out))⟩⟩
     ·rw [if_neg c5] at H
      exact absurd H (by simp)
    ·rw [if_neg c4] at H
     exact absurd H (by simp)
   ·rw [if_neg c3] at H
    have pY : decide (bf < (l1.length : Int)) = false := decide_eq_false c3
    clear c3
    have HC9 := ae.mk H
    clear H
    go_upto_region 9 with (fail)
    go_cut [26] (fun v26 wc => ∃ (kq : Nat) (Su : Bool), v26 = .bool Su ∧ ae (bF.j1 kq a0 l1 Su = some (r1, r2)) ∧ ae (kq ≤ k1) ∧ ae (Below w.heap.size w wc))
    case first =>
     have H := HC9.out
     clear HC9
     by_cases c10 : (l1.length : Int) = 0
     ·rw [if_pos c10] at H
      have Cb : ((l1.length : Int) == 0) = true := beq_iff_eq.mpr c10
      have Yt : ((l1.length : Int) != 0) = false := bne_eq_false_iff_eq.mpr c10
      clear c10
      (skip)
      have H' := ae.mk H
      clear H
      go_wp2
      go_meet
      case rel => exact ⟨_, (true), (by rfl), H', ⟨by have := jI.out; omega⟩, ⟨by repeat ((with_reducible exact HB.out))⟩⟩
     ·rw [if_neg c10] at H
      have Cb : ((l1.length : Int) == 0) = false := beq_eq_false_iff_ne.mpr c10
      have Yt : ((l1.length : Int) != 0) = true := bne_iff_ne.mpr c10
      have auR : ¬ (l1 = []) := fun h_ => c10 (by rw [h_]; rfl)
      (skip)
      by_cases c11 : a0 < (wrap64 (-vJ))
      ·rw [if_pos c11] at H
       have GZ : decide (a0 < (wrap64 (-vJ))) = true := decide_eq_true c11
       clear c11
       have H' := ae.mk H
       clear H
       go_wp2
       go_meet
       case rel => exact ⟨_, (true), (by rfl), H', ⟨by have := jI.out; omega⟩, ⟨by repeat ((with_reducible exact HB.out))⟩⟩
      ·rw [if_neg c11] at H
       have GZ : decide (a0 < (wrap64 (-vJ))) = false := decide_eq_false c11
       clear c11
       have H' := ae.mk H
       clear H
       go_wp2
       go_meet
       case rel => exact ⟨_, (decide (a0 > 2147483647)), (by rfl), H', ⟨by have := jI.out; omega⟩, ⟨by repeat ((with_reducible exact HB.out))⟩⟩
    case rest =>
     clear HC9
     clear pY
     obtain ⟨kq, Su, rfl, HA, HJ8, HB⟩ := hcut
     cases kq with
     | zero => exact absurd HA.out (by simp [bF.j1])
     | succ kj8 =>
      have H := HA.out
      clear HA
      simp only [bF.j1] at H
      by_cases c12 : Su = true
      ·subst c12
       have H1 : (some (([] : List Int), false)) = some (r1, r2) := by rw [if_pos rfl] at H; exact H
       clear H
       have H := H1
       clear H1
       simp only [Option.some.injEq, Prod.mk.injEq] at H
       obtain ⟨rfl, rfl⟩ := H
       go_wp2
       go_ret2
       exact ⟨_, by rfl, by exact Kd.nI _ _ _ _ _, by repeat ((with_reducible exact HB.out))⟩
      ·replace c12 := Bool.eq_false_iff.mpr c12
       subst c12
       have H1 : (if a0 ≥ 0 then ((tV.f a0 (l1.length : Int)).bind fun Qw => (some (Qw, true))) else ((bD.f kj8 (wrap64 (-a0)) l1).bind fun Qx => (some (Qx, true)))) = some (r1, r2) := by rw [if_neg (show ¬ (false = true) by decide)] at H; exact H
       clear H
       have H := H1
       clear H1
       by_cases c13 : a0 ≥ 0
       ·rw [if_pos c13] at H
        have RS : decide (0 ≤ a0) = true := decide_eq_true c13
        clear c13
        replace H := Option.bind_eq_some_iff.mp H
        obtain ⟨Qw, aiY, H⟩ := H
        replace H : (some (Qw, true)) = some (r1, r2) := H
        have A14 := ae.mk aiY
        clear aiY
        simp only [Option.some.injEq, Prod.mk.injEq] at H
        obtain ⟨rfl, rfl⟩ := H
        go_wp2_with (((with_reducible refine dn (f := 129) rfl ?_); refine gu (some 46) rfl rfl Try.func129 (by kernel_rfl) rfl #[.int .i64 a0, .int .i64 (l1.length : Int)] rfl (by (try simp only [List.map_toArray, List.map_cons, List.map_nil]); rfl) ?_; (with_reducible refine (tV.calls a0 (l1.length : Int) Qw _ A14.out).mono ?_); rintro e pz ⟨awP, rfl, ho0, hb⟩; refine ⟨_, rfl, ?_⟩; have al5 := ae.mk (Kd.iQ ho0 (aY (by repeat ((with_reducible exact HB.out))))); replace HB := ae.mk (aH (by repeat ((with_reducible exact HB.out))) hb); (try clear hb); (try clear ho0)))
        go_ret2
        exact ⟨_, by rfl, by exact al5.out, by repeat ((with_reducible exact HB.out))⟩
       ·rw [if_neg c13] at H
        have RS : decide (0 ≤ a0) = false := decide_eq_false c13
        clear c13
        replace H := Option.bind_eq_some_iff.mp H
        obtain ⟨Qx, SC, H⟩ := H
        replace H : (some (Qx, true)) = some (r1, r2) := H
        have QT := ae.mk SC
        clear SC
        simp only [Option.some.injEq, Prod.mk.injEq] at H
        obtain ⟨rfl, rfl⟩ := H
        go_wp2_with (((with_reducible refine dn (f := 130) rfl ?_); refine gu (some 50) rfl rfl Try.func130 (by kernel_rfl) rfl #[.int .i64 (wrap64 (-a0)), .slice A1 l1.length c1] rfl (by (try simp only [List.map_toArray, List.map_cons, List.map_nil]); rfl) ?_; (with_reducible refine (bD.calls kj8 (wrap64 (-a0)) _ _ l1 Qx _ ?fO ?gG QT.out).mono ?_); (case fO => repeat (exact (Kd.iP HR1.out HB.out))); (case gG => exact Fg.out); rintro e Rj ⟨awQ, rfl, ho0, hb⟩; refine ⟨_, rfl, ?_⟩; have al6 := ae.mk (Kd.iQ ho0 (aY (by repeat ((with_reducible exact HB.out))))); replace HB := ae.mk (aH (by repeat ((with_reducible exact HB.out))) hb); (try clear hb); (try clear ho0)))
        go_ret2
        exact ⟨_, by rfl, by exact al6.out, by repeat ((with_reducible exact HB.out))⟩
def bU.l0 : Nat → List Int → List Int → Int → Int → Option (Bool)
 | 0, _, _, _, _ => none
 | k + 1, x0, x1, x12, ny => if ny < x12 then (if 0 ≤ ny then (if ny < (x0.length : Int) then (if ny < (x1.length : Int) then (if (rd x0 ny) = (rd x1 ny) then (bU.l0 k x0 x1 x12 (wrap64 (ny + 1))) else (some false)) else (none)) else (none)) else (none)) else (some true)
def bU.f (k : Nat) (l0 : List Int) (l1 : List Int) : Option (Bool) := if (l0.length : Int) = (l1.length : Int) then (bU.l0 k l0 l1 (l0.length : Int) 0) else (some false)
theorem bU.wZ : ∀ k, (∀ y0 y1 y2 y3, jC (bU.l0 k y0 y1 y2 y3) (bU.l0 (k + 1) y0 y1 y2 y3))
 | 0 => fun _ _ _ _ r h => by simp [bU.l0] at h
 | k + 1 => by
  have EC := bU.wZ k
  ·intro y0 y1 y2 y3
   unfold bU.l0
   repeat' first | (with_reducible exact EC _ _ _ _) | (with_reducible exact jC.refl _) | (with_reducible refine jC.ite ?_ ?_)
theorem bU.mono : ∀ a0 a1 k, jC (bU.f k a0 a1) (bU.f (k + 1) a0 a1) := by
 intro a0 a1 k
 have EC := bU.wZ k
 unfold bU.f
 repeat' first | (with_reducible exact EC _ _ _ _) | (with_reducible exact jC.refl _) | (with_reducible refine jC.ite ?_ ?_)
theorem bU.calls (k : Nat) (A0 : Option Addr) (c0 : Nat) (l0 : List Int) (A1 : Option Addr) (c1 : Nat) (l1 : List Int) (r : Bool) (w : World) (hr0 : Kd.C (Kd.int .i64) w A0 l0.length l0) (hc0 : l0.length ≤ c0) (hr1 : Kd.C (Kd.int .i64) w A1 l1.length l1) (hc1 : l1.length ≤ c1) (h : bU.f k l0 l1 = some r) :
  Calls Try.prog 51 #[.slice A0 l0.length c0, .slice A1 l1.length c1] w fun e w' => e = .returned (.bool r) ∧ nS w w' := by
 have HR0 := ae.mk hr0
 clear hr0 hc0
 have HR1 := ae.mk hr1
 clear hr1 hc1
 have H : (if (l0.length : Int) = (l1.length : Int) then (bU.l0 k l0 l1 (l0.length : Int) 0) else (some false)) = some r := h
 clear h
 by_cases c3 : (l0.length : Int) = (l1.length : Int)
 ·rw [if_pos c3] at H
  have pY : ((l0.length : Int) == (l1.length : Int)) = true := beq_iff_eq.mpr c3
  have uq : ((l0.length : Int) != (l1.length : Int)) = false := bne_eq_false_iff_eq.mpr c3
  have Yy : (l0.length == l1.length) = true := by (simp at c3 ⊢; omega)
  clear c3
  have H' := ae.mk H
  clear H
  go_enter Try.func51, Try.ntmps51
  go_wp2
  go_loopg [13] k (fun kq v13 w' => ∃ (kX : Int), v13 = .int .i64 kX ∧ ae (bU.l0 kq l0 l1 (l0.length : Int) kX = some r) ∧ ae (kq ≤ k) ∧ nS w w')
  case atStart => exact ⟨(0), (by rfl), H', ⟨Nat.le_refl _⟩, by repeat (exact nS.refl _)⟩
  case round =>
   clear H'
   clear pY uq Yy
   obtain ⟨kX, rfl, HA, jI, ⟨m1, rfl⟩⟩ := hrel
   cases gk with
   | zero => exact absurd HA.out (by simp [bU.l0])
   | succ k1 =>
    have H := HA.out
    clear HA
    simp only [bU.l0] at H
    by_cases c4 : kX < (l0.length : Int)
    ·rw [if_pos c4] at H
     have zy : decide (kX < (l0.length : Int)) = true := decide_eq_true c4
     clear c4
     by_cases c5 : 0 ≤ kX
     ·rw [if_pos c5] at H
      have ET : decide (0 ≤ kX) = true := decide_eq_true c5
      clear c5
      by_cases c6 : kX < (l0.length : Int)
      ·rw [if_pos c6] at H
       have wS : decide (kX < (l0.length : Int)) = true := decide_eq_true c6
       clear c6
       by_cases c7 : kX < (l1.length : Int)
       ·rw [if_pos c7] at H
        have t_ : decide (kX < (l1.length : Int)) = true := decide_eq_true c7
        clear c7
        by_cases c8 : (rd l0 kX) = (rd l1 kX)
        ·rw [if_pos c8] at H
         have vZ : ((rd l0 kX) == (rd l1 kX)) = true := beq_iff_eq.mpr c8
         have ajT : ((rd l0 kX) != (rd l1 kX)) = false := bne_eq_false_iff_eq.mpr c8
         clear c8
         have H' := ae.mk H
         clear H
         have LP : 0 ≤ (kX : Int) := of_decide_eq_true (by (with_reducible assumption))
         have LZ : kX < (l0.length : Int) := of_decide_eq_true (by (with_reducible assumption))
         obtain ⟨am7, acz, ahR⟩ := Kd.iU HR0.out kX LP LZ
         cases acz
         replace LP := eq_true LP
         replace LZ := eq_true LZ
         have LQ : 0 ≤ (kX : Int) := of_decide_eq_true (by (with_reducible assumption))
         have L6 : kX < (l1.length : Int) := of_decide_eq_true (by (with_reducible assumption))
         obtain ⟨am8, acA, ahS⟩ := Kd.iU HR1.out kX LQ L6
         cases acA
         replace LQ := eq_true LQ
         replace L6 := eq_true L6
         go_wp2
         repeat (go_quiet (fail); try go_wp2)
         go_roundg k1
         case measure => have := jI.out; omega
         case rel => exact ⟨(wrap64 (kX + 1)), (by rfl), H', ⟨by have := jI.out; omega⟩, by repeat (first | exact nS.refl _ | apply nS.step)⟩
        ·rw [if_neg c8] at H
         have vZ : ((rd l0 kX) == (rd l1 kX)) = false := beq_eq_false_iff_ne.mpr c8
         have ajT : ((rd l0 kX) != (rd l1 kX)) = true := bne_iff_ne.mpr c8
         obtain rfl := Option.some.inj H
         have LP : 0 ≤ (kX : Int) := of_decide_eq_true (by (with_reducible assumption))
         have LZ : kX < (l0.length : Int) := of_decide_eq_true (by (with_reducible assumption))
         obtain ⟨am7, acz, ahR⟩ := Kd.iU HR0.out kX LP LZ
         cases acz
         replace LP := eq_true LP
         replace LZ := eq_true LZ
         have LQ : 0 ≤ (kX : Int) := of_decide_eq_true (by (with_reducible assumption))
         have L6 : kX < (l1.length : Int) := of_decide_eq_true (by (with_reducible assumption))
         obtain ⟨am8, acA, ahS⟩ := Kd.iU HR1.out kX LQ L6
         cases acA
         replace LQ := eq_true LQ
         replace L6 := eq_true L6
         go_wp2
         repeat (go_quiet (fail); try go_wp2)
         go_ret
         exact ⟨by rfl, by repeat (first | exact nS.refl _ | apply nS.step)⟩
       ·rw [if_neg c7] at H
        exact absurd H (by simp)
      ·rw [if_neg c6] at H
       exact absurd H (by simp)
     ·rw [if_neg c5] at H
      exact absurd H (by simp)
    ·rw [if_neg c4] at H
     have zy : decide (kX < (l0.length : Int)) = false := decide_eq_false c4
     clear c4
     obtain rfl := Option.some.inj H
     go_wp2
     go_ret
     exact ⟨by rfl, by repeat (first | exact nS.refl _ | apply nS.step)⟩
 ·rw [if_neg c3] at H
  have pY : ((l0.length : Int) == (l1.length : Int)) = false := beq_eq_false_iff_ne.mpr c3
  have uq : ((l0.length : Int) != (l1.length : Int)) = true := bne_iff_ne.mpr c3
  have Yy : (l0.length == l1.length) = false := by (simp at c3 ⊢; omega)
  obtain rfl := Option.some.inj H
  go_enter Try.func51, Try.ntmps51
  go_wp2
  go_ret
  exact ⟨by rfl, by repeat (exact nS.refl _)⟩
def afe.f (k : Nat)  : Option (Bool) := (bF.f k 5 (([0, 0, 0] : List Int))).bind fun aeM => ((bF.f k (-5) (([1, 9, 2] : List Int))).bind fun aeN => (if aeM.2 = true then ((bU.f k aeM.1 (([2, 2, 1] : List Int))).bind fun apr => (if apr = true then (if aeN.2 = true then ((bU.f k aeN.1 (([(-1), (-2), (-2)] : List Int))).bind fun aps => (some aps)) else (some false)) else (some false))) else (some false)))
end Go.Proofs.Ytfdmfgaiblfbhaa.P
namespace Go.Proofs.Ytfdmfgaiblfbhaa.P
open Go.RowKit Go.Proofs.ai.bg Go.Proofs.ai.di Go.Proofs.ai.dG
def rO (left : Int) (p : Int × Int) : Int × (Int × Int) := if left > 0 then (left - 1, (p.1, p.2 + 1)) else if left < 0 ∧ p.1 + p.2 > 0 then (left + 1, (p.1, p.2 - 1)) else (left, p)
def lZ : Int → List (Int × Int) → Int × List (Int × Int)
 | l, [] => (l, [])
 | l, p :: ps => ((lZ (rO l p).1 ps).1, (rO l p).2 :: (lZ (rO l p).1 ps).2)
def oZ : Nat → Int → List (Int × Int) → Option (List Int × Bool)
 | 0, _, _ => none
 | k + 1, l, ps => if l = 0 then some (ps.map Prod.snd, true) else if (lZ l ps).1 = l then some ([], false) else oZ k (lZ l ps).1 (lZ l ps).2
def qc.f (k : Nat) (a0 : Int) (l1 : List Int) : Option (List Int × Bool) :=
 if -100000 ≤ a0 ∧ a0 ≤ 100000 ∧ l1.length ≤ 100000 then
  if l1 = [] then some ([], false)
  else if ∀ g, g ∈ l1 → 0 ≤ g ∧ g ≤ 2147483647 then oZ k a0 (l1.map fun g => (g, 0)) else some ([], false)
 else none
def RB (l : Int) (ps : List (Int × Int)) : Prop := ∀ p, p ∈ ps → 0 ≤ p.1 ∧ p.1 ≤ 2147483647 ∧ p.2 + l ≤ 100000 ∧ p.2 - l ≤ 100000 ∧ -100000 ≤ p.2 + l ∧ -100000 ≤ p.2 - l
theorem DU (l : Int) (p : Int × Int) : (¬ 0 < l ∧ ¬ (l < 0 ∧ 0 < p.1 + p.2) ∧ rO l p = (l, p)) ∨ (0 < l ∧ (rO l p) = (l - 1, (p.1, p.2 + 1))) ∨ (l < 0 ∧ 0 < p.1 + p.2 ∧ (rO l p) = (l + 1, (p.1, p.2 - 1))) := by
 unfold rO
 split
 ·rename_i h; exact .inr (.inl ⟨h, rfl⟩)
 ·rename_i h0
  split
  ·rename_i h; exact .inr (.inr ⟨h.1, h.2, rfl⟩)
  ·rename_i h; exact .inl ⟨h0, h, rfl⟩
theorem abt {α : Type} (f : α → Int) (pre : List α) (p : α) (rest : List α) : rd ((pre ++ p :: rest).map f) (pre.length : Int) = f p := by
 simp [rd, List.getD_eq_getElem?_getD]
theorem set_mid {α β : Type} (f : α → β) (pre : List α) (p : α) (rest : List α) (q : α) : ((pre ++ p :: rest).map f).set pre.length (f q) = ((pre ++ [q]) ++ rest).map f := by
 simp
theorem Cj {M M' L : Int} {p p' : Int × Int} {pre rest ps : List (Int × Int)} {l1 : List Int} (e : rO M p = (M', p')) (HF : (pre ++ p :: rest).map Prod.fst = l1) (HB : RB M (pre ++ p :: rest)) (HD : -100000 ≤ M ∧ M ≤ 100000)
  (HE : (lZ L ps).1 = (lZ M (p :: rest)).1 ∧ (lZ L ps).2 = pre ++ (lZ M (p :: rest)).2) :
  ((pre ++ [p']) ++ rest).map Prod.fst = l1 ∧ RB M' ((pre ++ [p']) ++ rest) ∧ (-100000 ≤ M' ∧ M' ≤ 100000) ∧ ((lZ L ps).1 = (lZ M' rest).1 ∧ (lZ L ps).2 = (pre ++ [p']) ++ (lZ M' rest).2) := by
 have hp : p'.1 = p.1 := by
  rcases DU M p with ⟨_, _, h⟩ | ⟨_, h⟩ | ⟨_, _, h⟩ <;> rw [e] at h <;> injection h with h1 h2 <;> rw [h2]
 have hb := HB p (by simp)
 refine ⟨?_, ?_, ?_, ?_, ?_⟩
 ·rw [← HF]; simp [hp]
 ·have key : ∀ q, q ∈ pre ++ p :: rest → 0 ≤ q.1 ∧ q.1 ≤ 2147483647 ∧ q.2 + M' ≤ 100000 ∧ q.2 - M' ≤ 100000 ∧ -100000 ≤ q.2 + M' ∧ -100000 ≤ q.2 - M' := fun q hq => by
   have h := HB q hq
   rcases DU M p with ⟨_, _, h'⟩ | ⟨_, h'⟩ | ⟨_, _, h'⟩ <;> rw [e] at h' <;> injection h' with h1 h2 <;> omega
  intro q hq
  simp only [List.append_assoc, List.mem_append, List.mem_cons, List.not_mem_nil, or_false] at hq
  rcases hq with hq | rfl | hq
  ·exact key q (by simp [hq])
  ·rcases DU M p with ⟨_, _, h'⟩ | ⟨_, h'⟩ | ⟨_, _, h'⟩ <;> rw [e] at h' <;> injection h' with h1 h2 <;> subst h1 h2 <;> (try simp only) <;> omega
  ·exact key q (by simp [hq])
 ·rcases DU M p with ⟨_, _, h'⟩ | ⟨_, h'⟩ | ⟨_, _, h'⟩ <;> rw [e] at h' <;> injection h' with h1 h2 <;> omega
 ·rw [HE.1]; simp only [lZ, e]
 ·rw [HE.2]; simp only [lZ, e, List.append_assoc, List.cons_append, List.nil_append]
theorem qc.calls (k : Nat) (a0 : Int) (A1 : Option Addr) (c1 : Nat) (l1 : List Int) (r1 : List Int) (r2 : Bool) (w : World) (hr1 : Kd.C (Kd.int .i64) w A1 l1.length l1) (hc1 : l1.length ≤ c1) (h : qc.f k a0 l1 = some (r1, r2)) :
  Calls Try.prog 50 #[.int .i64 a0, .slice A1 l1.length c1] w fun e w' => ∃ ng : Value, e = .returned (.tuple #[ng, .bool r2]) ∧ Kd.R (Kd.int .i64) 3 w' w.heap.size (fun _ => True) ng r1 ∧ Below w.heap.size w w' := by
 unfold qc.f at h
 split at h
 ·rename_i hd
  obtain ⟨hd1, hd2, hd3⟩ := hd
  have hmk := Oj (P := Try.prog) 41 3 .i64 8 Try.underlying41 info3 (by decide) l1.length (by omega)
  have hs := UZ w w.heap.size 3 .i64 l1.length (Nat.le_refl _) (by omega)
  have HS := ae.mk hs
  have HR := ae.mk hr1
  clear hs hr1 hc1
  split at h
  ·rename_i he
   injection h with h
   injection h with h1 h2
   subst h1 h2
   have hn0 : ((l1.length : Int) == 0) = true := by simp [he]
   have HE := ae.mk he
   clear he
   go_enter Try.func50, Try.ntmps50
   go_wp2
   go_ret2
   refine ⟨_, rfl, Kd.zU (enc := Value.int .i64) (h1 := fun _ => rfl) ?_ (fun _ _ => trivial), kz (Below.refl _ _) _⟩
   have h := HS.out
   rw [HE.out] at h ⊢
   exact h
  ·rename_i hne
   have hpos : 0 < l1.length := List.length_pos_iff.2 hne
   have hn0 : ((l1.length : Int) == 0) = false := by simp; omega
   have H := ae.mk h
   clear h
   go_enter Try.func50, Try.ntmps50
   go_wp2
   clear hmk hne hn0
   have HR2 := ae.mk (Kd.iP HR.out (kz (Below.refl w.heap.size w) (Obj.cells (madeCells #[Value.int IntKind.i64 0] l1.length) 3)))
   go_loop [21] (fun v21 => ∃ i : Nat, i ≤ l1.length ∧ v21 = .int .i64 i ∧ ae (∀ j, j < i → 0 ≤ rd l1 (j : Int) ∧ rd l1 (j : Int) ≤ 2147483647)) (fun v21 => l1.length - (intOf v21).toNat)
   case atStart => exact ⟨0, by omega, rfl, ⟨fun j hj => absurd hj (by omega)⟩⟩
   case round =>
    obtain ⟨i, hi, rfl, HI⟩ := hrel
    by_cases hlt : i < l1.length
    ·have hlt' : (i : Int) < (l1.length : Int) := by omega
     obtain ⟨ad, rfl, hc⟩ := Kd.iU HR2.out (i : Int) (by omega) (by omega)
     simp only [Int.toNat_natCast] at hc
     have hmem : rd l1 (i : Int) ∈ l1 := by
      simp only [rd, Int.toNat_natCast, List.getD_eq_getElem?_getD, List.getElem?_eq_getElem hlt, Option.getD_some]
      exact List.getElem_mem hlt
     generalize hx : rd l1 (i : Int) = x at hc hmem
     by_cases hx0 : x < 0 ∨ 2147483647 < x
     ·have hbad : ¬ ∀ g, g ∈ l1 → 0 ≤ g ∧ g ≤ 2147483647 := fun hall => by have := hall x hmem; omega
      have h := H.out
      rw [if_neg hbad] at h
      injection h with h
      injection h with h1 h2
      subst h1 h2
      clear hbad hmem
      by_cases hx1 : x < 0
      all_goals
       go_wp2
       go_ret2
       have ho := Xx (w.alloc (Obj.cells (madeCells #[Value.int IntKind.i64 0] l1.length) 3)) w.heap.size 3 .i64 [] (by simp) (by simp)
       simp only [World.size_alloc, nums, List.map_nil] at ho
       exact ⟨_, rfl, Kd.zU (enc := Value.int .i64) (h1 := fun _ => rfl) ho (fun _ _ => trivial), kz (kz (Below.refl _ _) _) _⟩
     ·have hx1 : 0 ≤ x := by omega
      have hx2 : x ≤ 2147483647 := by omega
      clear hx0 hmem
      have HX := ae.mk hx
      clear hx
      go_wp2
      go_round
      case rel =>
       refine ⟨i + 1, by omega, by go_num, ⟨fun j hj => ?_⟩⟩
       by_cases e : j = i
       ·subst e; rw [HX.out]; exact ⟨hx1, hx2⟩
       ·exact HI.out j (by omega)
      case measure => simp [intOf]; omega
    ·obtain rfl : i = l1.length := by omega
     have hall : ∀ g, g ∈ l1 → 0 ≤ g ∧ g ≤ 2147483647 := fun g hg => by
      obtain ⟨j, hj, rfl⟩ := List.getElem_of_mem hg
      have := HI.out j hj
      simp only [rd, Int.toNat_natCast, List.getD_eq_getElem?_getD, List.getElem?_eq_getElem hj, Option.getD_some] at this
      exact this
     have h := H.out
     rw [if_pos hall] at h
     have HA := ae.mk hall
     have HL := ae.mk h
     clear HI hall h H
     go_wp2
     clear HR2
     go_loopg [7] k (fun gk v7 wr => ∃ (L : Int) (ps : List (Int × Int)), v7 = .int .i64 L ∧ ae (oZ gk L ps = some (r1, r2)) ∧ ae (ps.map Prod.fst = l1) ∧ ae (RB L ps) ∧ ae (-100000 ≤ L ∧ L ≤ 100000) ∧ ae (wr.ownsRow w.heap.size 3 1 (.slice (some ⟨w.heap.size, 0, none⟩) l1.length l1.length) l1.length (nums .i64 (ps.map Prod.snd))) ∧ ae (Below w.heap.size w wr))
     case atStart =>
      refine ⟨a0, l1.map fun g => (g, 0), rfl, HL, ⟨by simp [List.map_map, Function.comp_def]⟩, ⟨?_⟩, ⟨hd1, hd2⟩, ⟨?_⟩, ⟨kz (Below.refl _ _) _⟩⟩
      ·intro p hp
       obtain ⟨g, hg, rfl⟩ := List.mem_map.1 hp
       have := HA.out g hg
       simp only
       omega
      ·have h := HS.out
       rw [show (l1.map fun g => (g, (0 : Int))).map Prod.snd = List.replicate l1.length 0 by simp [List.map_map, Function.comp_def, List.map_const']]
       exact h
     case round =>
      clear HL HA HS
      obtain ⟨L, ps, rfl, HL, HF, HB, HD, HO, BK⟩ := hrel
      cases gk with
      | zero => exact absurd HL.out (by simp [oZ])
      | succ kk =>
       have h := HL.out
       clear HL
       simp only [oZ] at h
       by_cases hL : L = 0
       ·rw [if_pos hL] at h
        injection h with h
        injection h with h1 h2
        subst h1 h2 hL
        go_wp2
        go_ret2
        refine ⟨_, rfl, Kd.zU (enc := Value.int .i64) (h1 := fun _ => rfl) ?_ (fun _ _ => trivial), BK.out⟩
        have e : ps.length = l1.length := by rw [← HF.out]; simp
        rw [List.length_map, e]
        exact HO.out
       ·rw [if_neg hL] at h
        have H2 := ae.mk h
        clear h
        have hne0 : (L != 0) = true := by simpa using hL
        have hne1 : (L == 0) = false := by simpa using hL
        clear hL
        go_wp2
        clear hne0
        obtain ⟨wo, rfl⟩ : ∃ wo : World, wo = wr := ⟨_, rfl⟩
        go_loopg [7, 50] l1.length (fun g v7 v50 w2 => ∃ (M : Int) (pre rest : List (Int × Int)), v7 = .int .i64 M ∧ v50 = .int .i64 (pre.length : Nat) ∧ ae (rest.length ≤ g) ∧ ae ((pre ++ rest).map Prod.fst = l1) ∧ ae (RB M (pre ++ rest)) ∧ ae (-100000 ≤ M ∧ M ≤ 100000) ∧ ae ((lZ L ps).1 = (lZ M rest).1 ∧ (lZ L ps).2 = pre ++ (lZ M rest).2) ∧ ae (w2.ownsRow w.heap.size 3 1 (.slice (some ⟨w.heap.size, 0, none⟩) l1.length l1.length) l1.length (nums .i64 ((pre ++ rest).map Prod.snd))) ∧ ae (Below w.heap.size w w2))
        case atStart =>
         refine ⟨L, [], ps, rfl, rfl, ⟨?_⟩, HF, HB, HD, ⟨rfl, rfl⟩, HO, BK⟩
         have : ps.length = l1.length := by rw [← HF.out]; simp
         omega
        case round =>
         clear HO BK HB HD HF
         obtain ⟨M, pre, rest, rfl, rfl, HG, HF, HB, HD, HE, HO, BK⟩ := hrel
         cases rest with
         | nil =>
          have hlen : pre.length = l1.length := by rw [← HF.out]; simp
          have hnl : ¬ (pre.length : Int) < (l1.length : Int) := by omega
          clear hlen
          simp only [List.append_nil, lZ] at HF HB HE HO
          by_cases V8 : M = L
          ·have ao9 : (M == L) = true := by simpa using V8
           have h := H2.out
           rw [if_pos (by rw [HE.out.1]; exact V8)] at h
           injection h with h
           injection h with h1 h2
           subst h1 h2
           clear V8
           go_wp2
           go_ret2
           have ho := Xx wr w.heap.size 3 .i64 [] BK.out.size (by simp)
           simp only [nums, List.map_nil] at ho
           exact ⟨_, rfl, Kd.zU (enc := Value.int .i64) (h1 := fun _ => rfl) ho (fun _ _ => trivial), kz BK.out _⟩
          ·have ao9 : (M == L) = false := by simpa using V8
           have h := H2.out
           rw [if_neg (by rw [HE.out.1]; exact V8), HE.out.1, HE.out.2] at h
           have H3 := ae.mk h
           clear h V8 H2
           go_wp2
           go_roundg kk
           case measure => omega
           case rel => exact ⟨M, pre, rfl, H3, HF, HB, HD, HO, BK⟩
         | cons p rest =>
          have hlen : pre.length + (rest.length + 1) = l1.length := by rw [← HF.out]; simp
          have hlt : (pre.length : Int) < (l1.length : Int) := by omega
          have HR2 := Kd.iP HR.out BK.out
          obtain ⟨ad, rfl, hc⟩ := Kd.iU HR2 (pre.length : Int) (by omega) (by omega)
          simp only [Int.toNat_natCast] at hc
          rw [show rd l1 (pre.length : Int) = p.1 by rw [← HF.out]; exact abt Prod.fst pre p rest] at hc
          obtain ⟨hc2, hf2⟩ := abm HO.out (pre.length : Int) (by omega) (by omega)
          simp only [Int.toNat_natCast] at hc2 hf2
          rw [show rd ((pre ++ p :: rest).map Prod.snd) (pre.length : Int) = p.2 from abt Prod.snd pre p rest] at hc2
          have hpb := HB.out p (by simp)
          obtain ⟨b1, b2, b3, b4, b5, b6⟩ := hpb
          clear HR2 hlen
          obtain ⟨d1, d2⟩ := HD.out
          have s1 := fun x => (EG HO.out (pre.length : Int) x).1
          simp only [Int.toNat_natCast] at s1
          have S1 := ae.mk s1
          clear s1
          rcases DU M p with ⟨h1, h2, e⟩ | ⟨hM, e⟩ | ⟨hM, hg, e⟩
          ·have HE2 := ae.mk e
           clear e
           by_cases h3 : M < 0
           ·have hs : ¬ 0 < p.1 + p.2 := fun hh => h2 ⟨h3, hh⟩
            clear h2
            go_wp2
            go_quiet (fail)
            go_wp2
            go_roundg rest.length
            case measure => have := HG.out; simp at this; omega
            case rel =>
             obtain ⟨n1, n2, n3, n4⟩ := Cj HE2.out HF.out HB.out HD.out HE.out
             exact ⟨M, pre ++ [p], rest, rfl, by simp, ⟨by omega⟩, ⟨n1⟩, ⟨n2⟩, ⟨n3⟩, ⟨n4⟩, ⟨by rw [List.append_assoc]; exact HO.out⟩, ⟨fV BK.out _⟩⟩
           ·clear h2
            have h4 : decide (M < 0) = false := by simp; omega
            go_wp2
            go_quiet (fail)
            go_wp2
            go_roundg rest.length
            case measure => have := HG.out; simp at this; omega
            case rel =>
             obtain ⟨n1, n2, n3, n4⟩ := Cj HE2.out HF.out HB.out HD.out HE.out
             exact ⟨M, pre ++ [p], rest, rfl, by simp, ⟨by omega⟩, ⟨n1⟩, ⟨n2⟩, ⟨n3⟩, ⟨n4⟩, ⟨by rw [List.append_assoc]; exact HO.out⟩, ⟨fV BK.out _⟩⟩
          ·have HE2 := ae.mk e
           clear e
           have hz2 : decide (M - 1 < 0) = false := by simp; omega
           go_wp2
           go_quiet (fail)
           go_wp2
           go_roundg rest.length
           case measure => have := HG.out; simp at this; omega
           case rel =>
            obtain ⟨n1, n2, n3, n4⟩ := Cj HE2.out HF.out HB.out HD.out HE.out
            exact ⟨M - 1, pre ++ [(p.1, p.2 + 1)], rest, rfl, by simp, ⟨by omega⟩, ⟨n1⟩, ⟨n2⟩, ⟨n3⟩, ⟨n4⟩, ⟨by rw [← set_mid Prod.snd pre p rest (p.1, p.2 + 1)]; exact S1.out (p.2 + 1)⟩, ⟨fV (iw BK.out (Nat.le_refl _)) _⟩⟩
          ·have HE2 := ae.mk e
           clear e
           go_wp2
           go_quiet (fail)
           go_wp2
           go_roundg rest.length
           case measure => have := HG.out; simp at this; omega
           case rel =>
            obtain ⟨n1, n2, n3, n4⟩ := Cj HE2.out HF.out HB.out HD.out HE.out
            exact ⟨M + 1, pre ++ [(p.1, p.2 - 1)], rest, rfl, by simp, ⟨by omega⟩, ⟨n1⟩, ⟨n2⟩, ⟨n3⟩, ⟨n4⟩, ⟨by rw [← set_mid Prod.snd pre p rest (p.1, p.2 - 1)]; exact S1.out (p.2 - 1)⟩, ⟨iw (fV BK.out _) (Nat.le_refl _)⟩⟩
 ·exact absurd h (by simp)
theorem wp {x : Int} (h0 : -9223372036854775808 ≤ x) (h1 : x ≤ 9223372036854775807) : wrap64 x = x := by unfold wrap64; omega
def nX (m : Int) : Int → List (Int × Int) → Int × List (Int × Int)
 | b, [] => (b, [])
 | b, p :: ps => if p.1 + p.2 > 0 then (if b > 0 then ((nX m (b - mn m b) ps).1, (p.1, p.2 - mn m b) :: (nX m (b - mn m b) ps).2) else ((nX m b ps).1, p :: (nX m b ps).2)) else ((nX m b ps).1, p :: (nX m b ps).2)
def able : List (Int × Int) → Int
 | [] => 0
 | p :: ps => (if p.1 + p.2 > 0 then 1 else 0) + able ps
def lst : Int → List (Int × Int) → Int
 | m, [] => m
 | m, p :: ps => lst (if p.1 + p.2 > 0 then mn m (p.1 + p.2) else m) ps
def u_ : List (Int × Int) → Int
 | [] => 0
 | p :: ps => (p.1 + p.2) + u_ ps
def outs : List (Int × Int) → Int
 | [] => 0
 | p :: ps => p.2 + outs ps
def Good (ps : List (Int × Int)) : Prop := ∀ p, p ∈ ps → 0 ≤ p.1 ∧ p.1 ≤ 2147483647 ∧ -p.1 ≤ p.2 ∧ p.2 ≤ 0
def qE (m : Int) (ps : List (Int × Int)) : List (Int × Int) := ps.map fun p => (p.1, p.2 - if p.1 + p.2 > 0 then m else 0)
def JJ (ps : List (Int × Int)) : Prop := ∀ p, p ∈ ps → ∀ q, q ∈ ps → p.2 > q.2 → p.1 + p.2 = 0
def Rx (ps : List (Int × Int)) : Prop := ∀ p, p ∈ ps → ∀ q, q ∈ ps → p.2 > q.2 + 1 → p.2 = -p.1
theorem Good.tail {p : Int × Int} {ps : List (Int × Int)} (h : Good (p :: ps)) : Good ps := fun q hq => h q (List.mem_cons_of_mem _ hq)
theorem Good.head {p : Int × Int} {ps : List (Int × Int)} (h : Good (p :: ps)) : 0 ≤ p.1 ∧ p.1 ≤ 2147483647 ∧ -p.1 ≤ p.2 ∧ p.2 ≤ 0 := h p List.mem_cons_self
theorem zu (ps : List (Int × Int)) : 0 ≤ able ps ∧ able ps ≤ ps.length := by
 induction ps with
 | nil => simp [able]
 | cons p ps ih => simp only [able, List.length_cons]; split <;> omega
theorem ab8 {ps : List (Int × Int)} (hg : Good ps) (h : 0 < u_ ps) : 0 < able ps := by
 induction ps with
 | nil => simp [u_] at h
 | cons p ps ih =>
  have hr := zu ps
  simp only [u_] at h
  simp only [able]
  split
  ·omega
  ·rename_i hp
   have := ih hg.tail (by omega)
   omega
theorem aba (ps : List (Int × Int)) : ∀ m, lst m ps ≤ m := by
 induction ps with
 | nil => intro m; simp [lst]
 | cons p ps ih =>
  intro m
  simp only [lst]
  have h1 := ih (if p.1 + p.2 > 0 then mn m (p.1 + p.2) else m)
  have h2 : (if p.1 + p.2 > 0 then mn m (p.1 + p.2) else m) ≤ m := by
   split
   ·unfold mn; split <;> omega
   ·exact Int.le_refl _
  omega
theorem ah5 (ps : List (Int × Int)) : ∀ m, ∀ p, p ∈ ps → p.1 + p.2 > 0 → lst m ps ≤ p.1 + p.2 := by
 induction ps with
 | nil => intro m p hp; cases hp
 | cons q ps ih =>
  intro m p hp h
  simp only [lst]
  rcases List.mem_cons.1 hp with rfl | hp
  ·rw [if_pos h]
   have h1 := aba ps (mn m (p.1 + p.2))
   have h2 : mn m (p.1 + p.2) ≤ p.1 + p.2 := by unfold mn; split <;> omega
   omega
  ·exact ih _ p hp h
theorem ah6 (ps : List (Int × Int)) : ∀ m, 0 < m → 0 < lst m ps := by
 induction ps with
 | nil => intro m h; simpa [lst] using h
 | cons q ps ih =>
  intro m h
  simp only [lst]
  apply ih
  unfold mn
  split
  ·split <;> omega
  ·exact h
theorem GY {m : Int} (hm : 0 < m) : ∀ (ps : List (Int × Int)) (b : Int), m * able ps ≤ b → nX m b ps = (b - m * able ps, qE m ps) := by
 intro ps
 induction ps with
 | nil => intro b _; simp [nX, able, qE]
 | cons p ps ih =>
  intro b hb
  have hr := zu ps
  have hmn : 0 ≤ m * able ps := Int.mul_nonneg (by omega) hr.1
  simp only [able] at hb ⊢
  by_cases hp : p.1 + p.2 > 0
  ·simp only [if_pos hp] at hb ⊢
   rw [Int.mul_add, Int.mul_one] at hb ⊢
   have h1 : mn m b = m := by unfold mn; split <;> omega
   have h2 := ih (b - m) (by omega)
   simp only [nX]
   rw [if_pos hp, if_pos (by omega), h1, h2]
   simp only [qE, List.map_cons, if_pos hp, Prod.mk.injEq, and_true]
   omega
  ·simp only [if_neg hp] at hb ⊢
   rw [Int.zero_add] at hb ⊢
   simp only [nX]
   rw [if_neg hp, ih b hb]
   simp only [qE, List.map_cons, if_neg hp, Int.sub_zero]
theorem acg : ∀ (ps : List (Int × Int)) (b : Int), 0 ≤ b → b ≤ able ps → (nX 1 b ps).1 = 0 := by
 intro ps
 induction ps with
 | nil => intro b h0 h; simp only [able] at h; simp only [nX]; omega
 | cons p ps ih =>
  intro b h0 h
  simp only [able] at h
  simp only [nX]
  by_cases hp : p.1 + p.2 > 0
  ·rw [if_pos hp] at h ⊢
   by_cases hb : b > 0
   ·rw [if_pos hb]
    have h1 : mn 1 b = 1 := by unfold mn; split <;> omega
    rw [h1]
    exact ih (b - 1) (by omega) (by omega)
   ·rw [if_neg hb]
    exact ih b h0 (by have := zu ps; omega)
  ·rw [if_neg hp] at h ⊢
   exact ih b h0 (by omega)
theorem afV (m : Int) : ∀ (ps : List (Int × Int)) (b : Int), (nX m b ps).2.map Prod.fst = ps.map Prod.fst := by
 intro ps
 induction ps with
 | nil => intro b; simp [nX]
 | cons p ps ih =>
  intro b
  simp only [nX]
  split
  ·split <;> simp [ih]
  ·simp [ih]
theorem OQ : ∀ (ps : List (Int × Int)) (b : Int) (q : Int × Int), q ∈ (nX 1 b ps).2 → ∃ p, p ∈ ps ∧ q.1 = p.1 ∧ (q.2 = p.2 ∨ (p.1 + p.2 > 0 ∧ q.2 = p.2 - 1)) := by
 intro ps
 induction ps with
 | nil => intro b q hq; simp [nX] at hq
 | cons p ps ih =>
  intro b q hq
  simp only [nX] at hq
  have key : ∀ b' , q ∈ (nX 1 b' ps).2 → ∃ Xy, Xy ∈ p :: ps ∧ q.1 = Xy.1 ∧ (q.2 = Xy.2 ∨ (Xy.1 + Xy.2 > 0 ∧ q.2 = Xy.2 - 1)) := fun b' h => by
   obtain ⟨p', h1, h2⟩ := ih b' q h
   exact ⟨p', List.mem_cons_of_mem _ h1, h2⟩
  split at hq
  ·rename_i hp
   split at hq
   ·rename_i hb
    simp only [List.mem_cons] at hq
    rcases hq with rfl | hq
    ·refine ⟨p, List.mem_cons_self, rfl, .inr ⟨hp, ?_⟩⟩
     have h1 : mn 1 b = 1 := by unfold mn; split <;> omega
     simp only [h1]
    ·exact key _ hq
   ·simp only [List.mem_cons] at hq
    rcases hq with rfl | hq
    ·exact ⟨_, List.mem_cons_self, rfl, .inl rfl⟩
    ·exact key _ hq
  ·simp only [List.mem_cons] at hq
   rcases hq with rfl | hq
   ·exact ⟨_, List.mem_cons_self, rfl, .inl rfl⟩
   ·exact key _ hq
theorem Tu (m : Int) : ∀ (ps : List (Int × Int)) (b : Int), outs (nX m b ps).2 - (nX m b ps).1 = outs ps - b := by
 intro ps
 induction ps with
 | nil => intro b; simp [nX]
 | cons p ps ih =>
  intro b
  simp only [nX]
  split
  ·split
   ·have := ih (b - mn m b); simp only [outs]; omega
   ·have := ih b; simp only [outs]; omega
  ·have := ih b; simp only [outs]; omega
theorem acv (m : Int) (ps : List (Int × Int)) : (qE m ps).map Prod.fst = ps.map Prod.fst := by simp [qE, List.map_map, Function.comp_def]
theorem QY {m : Int} {ps : List (Int × Int)} (hm : 0 ≤ m) (hg : Good ps) (hl : ∀ p, p ∈ ps → p.1 + p.2 > 0 → m ≤ p.1 + p.2) : Good (qE m ps) := by
 intro q hq
 obtain ⟨p, hp, rfl⟩ := List.mem_map.1 hq
 have h1 := hg p hp
 have h2 := hl p hp
 simp only
 split <;> omega
theorem NH (m : Int) (ps : List (Int × Int)) : u_ (qE m ps) = u_ ps - m * able ps := by
 induction ps with
 | nil => simp [qE, u_, able]
 | cons p ps ih =>
  have e : qE m (p :: ps) = (p.1, p.2 - if p.1 + p.2 > 0 then m else 0) :: qE m ps := rfl
  rw [e]
  simp only [u_, able, ih]
  rw [Int.mul_add]
  split
  ·rw [Int.mul_one]; omega
  ·rw [Int.mul_zero]; omega
theorem aaA {m : Int} {ps : List (Int × Int)} (hg : Good ps) (he : JJ ps) (hm : 0 ≤ m) : JJ (qE m ps) := by
 intro p' hp' q' hq' h
 obtain ⟨p, hp, rfl⟩ := List.mem_map.1 hp'
 obtain ⟨q, hq, rfl⟩ := List.mem_map.1 hq'
 have h1 := he p hp q hq
 have h2 := hg p hp
 have h3 := hg q hq
 simp only at h ⊢
 by_cases c1 : p.1 + p.2 > 0
 ·rw [if_pos c1] at h ⊢
  by_cases c2 : q.1 + q.2 > 0
  ·rw [if_pos c2] at h; omega
  ·rw [if_neg c2] at h; omega
 ·rw [if_neg c1] at h ⊢
  by_cases c2 : q.1 + q.2 > 0
  ·rw [if_pos c2] at h; omega
  ·rw [if_neg c2] at h; omega
theorem aaB {m : Int} {ps : List (Int × Int)} (hm : 0 < m) (hl : ∀ p, p ∈ ps → p.1 + p.2 > 0 → m + 1 ≤ p.1 + p.2) : qE (m + 1) ps = qE m (qE 1 ps) ∧ able (qE 1 ps) = able ps := by
 constructor
 ·simp only [qE, List.map_map]
  apply List.map_congr_left
  intro p hp
  have := hl p hp
  simp only [Function.comp_def, Prod.mk.injEq, true_and]
  by_cases h : p.1 + p.2 > 0
  ·rw [if_pos h, if_pos h, if_pos (by omega)]; omega
  ·rw [if_neg h, if_neg h, if_neg (by omega)]; omega
 ·induction ps with
  | nil => rfl
  | cons p ps ih =>
   have e : qE 1 (p :: ps) = (p.1, p.2 - if p.1 + p.2 > 0 then 1 else 0) :: qE 1 ps := rfl
   rw [e]
   simp only [able]
   rw [ih fun q hq => hl q (List.mem_cons_of_mem _ hq)]
   have := hl p List.mem_cons_self
   by_cases h : p.1 + p.2 > 0
   ·rw [if_pos h, if_pos (by omega)]
   ·rw [if_neg h, if_neg (by omega)]
theorem ace {ps : List (Int × Int)} {b : Int} (he : JJ ps) : Rx (nX 1 b ps).2 := by
 intro p' hp' q' hq' h
 obtain ⟨p, hp, e1, e2⟩ := OQ ps b p' hp'
 obtain ⟨q, hq, e3, e4⟩ := OQ ps b q' hq'
 have h1 := he p hp q hq
 omega
theorem akh {ps : List (Int × Int)} (he : JJ ps) : Rx ps := by
 intro p hp q hq h
 have := he p hp q hq
 omega
theorem acf {ps : List (Int × Int)} {b : Int} (hg : Good ps) : Good (nX 1 b ps).2 := by
 intro p' hp'
 obtain ⟨p, hp, e1, e2⟩ := OQ ps b p' hp'
 have := hg p hp
 omega
theorem Ev.nz {α : Type} {c : Prop} [Decidable c] {g f : Nat → Option α} {r : α} (hc : c) (h : Ev g r) : Ev (fun k => if c then g k else f k) r := by simp only [if_pos hc]; exact h
theorem Ev.lM {α : Type} {c : Prop} [Decidable c] {g f : Nat → Option α} {r : α} (hc : ¬c) (h : Ev f r) : Ev (fun k => if c then g k else f k) r := by simp only [if_neg hc]; exact h
theorem Om {α : Type} (f : α → Int) (pre : List α) (p : α) (rest : List α) : rd ((pre ++ p :: rest).map f) (pre.length : Int) = f p := by
 simp [rd, List.getD_eq_getElem?_getD]
theorem Qu (pre : List Int) (p : Int) (rest : List Int) : rd (pre ++ p :: rest) (pre.length : Int) = p := by
 simp [rd, List.getD_eq_getElem?_getD]
theorem ah3 (b : Int) (q : Int) (r : List Int) (hb0 : 0 < b) (hb1 : b ≤ 2147483647) : ∀ (rest pre : List (Int × Int)) (A L : Int), Good (pre ++ rest) → (pre ++ rest).length ≤ 100000 → 0 ≤ A → A ≤ pre.length →
  A + able rest ≠ 0 → q = mx 1 (mn (lst L rest) (b / (A + able rest))) →
  Ev (fun k => bD.l2 k b ((pre ++ rest).map Prod.fst) ((pre ++ rest).map Prod.snd) q ((pre ++ rest).map Prod.fst) ((pre ++ rest).length : Int) 0) r →
  Ev (fun k => bD.l1 k b ((pre ++ rest).map Prod.fst) ((pre ++ rest).map Prod.snd) A L ((pre ++ rest).map Prod.fst) ((pre ++ rest).length : Int) (pre.length : Int)) r := by
 intro rest
 induction rest with
 | nil =>
  intro pre A L hg hl h0 h1 hne hq h
  refine Ev.step (f := fun k => bD.l2 k b ((pre ++ []).map Prod.fst) ((pre ++ []).map Prod.snd) q ((pre ++ []).map Prod.fst) ((pre ++ []).length : Int) 0) (fun k => ?_) h
  simp only [bD.l1]
  simp only [able, Int.add_zero, lst] at hne hq
  have hdiv : wrap64 (Int.tdiv b A) = b / A := by
   rw [Int.tdiv_eq_ediv_of_nonneg (by omega)]
   have h2 : 0 ≤ b / A := Int.ediv_nonneg (by omega) h0
   have h3 : b / A ≤ b := Int.ediv_le_self _ (by omega)
   exact wp (by omega) (by omega)
  rw [if_neg (by simp), if_neg hne, hdiv, ← hq]
  simp
 | cons p rest ih =>
  intro pre A L hg hl h0 h1 hne hq h
  have hp := hg p (by simp)
  have hlen : ((pre ++ p :: rest).length : Int) = pre.length + (rest.length + 1) := by simp
  have hl' : (pre.length : Int) + (rest.length + 1) ≤ 100000 := by omega
  have hw : wrap64 ((pre.length : Int) + 1) = ((pre ++ [p]).length : Int) := by rw [wp (by omega) (by omega)]; simp
  have e : pre ++ p :: rest = (pre ++ [p]) ++ rest := by simp
  have hsum : wrap64 (p.1 + p.2) = p.1 + p.2 := wp (by omega) (by omega)
  refine Ev.step (f := fun k => bD.l1 k b (((pre ++ [p]) ++ rest).map Prod.fst) (((pre ++ [p]) ++ rest).map Prod.snd) (A + if p.1 + p.2 > 0 then 1 else 0) (if p.1 + p.2 > 0 then mn L (p.1 + p.2) else L) (((pre ++ [p]) ++ rest).map Prod.fst) (((pre ++ [p]) ++ rest).length : Int) ((pre ++ [p]).length : Int)) (fun k => ?_) (ih (pre ++ [p]) _ _ (by rw [← e]; exact hg) (by rw [← e]; exact hl) (by split <;> omega) (by simp; split <;> omega) (by simp only [able] at hne; omega) (by simp only [able, lst] at hq; rw [hq, Int.add_assoc]) (by rw [← e]; exact h))
  simp only [bD.l1]
  rw [Om, Om, hsum, if_pos (by omega), if_pos (by omega), if_pos (by simp; omega), if_pos (by simp; omega), hw, ← e]
  by_cases hc : p.1 + p.2 > 0
  ·rw [if_pos hc, if_pos hc, if_pos hc, wp (by omega) (by omega)]
  ·rw [if_neg hc, if_neg hc, if_neg hc, Int.add_zero]
theorem ah4 (m : Int) (r : List Int) (hm : 0 < m) : ∀ (rest pre : List (Int × Int)) (b : Int), 0 ≤ b → b ≤ 2147483647 → Good (pre ++ rest) → (∀ p, p ∈ rest → p.1 + p.2 > 0 → m ≤ p.1 + p.2) → (pre ++ rest).length ≤ 100000 →
  Ev (fun k => bD.l0 k (nX m b rest).1 ((pre ++ rest).map Prod.fst) ((pre ++ (nX m b rest).2).map Prod.snd)) r →
  Ev (fun k => bD.l2 k b ((pre ++ rest).map Prod.fst) ((pre ++ rest).map Prod.snd) m ((pre ++ rest).map Prod.fst) ((pre ++ rest).length : Int) (pre.length : Int)) r := by
 intro rest
 induction rest with
 | nil =>
  intro pre b h0 h1 hg hl hlen h
  simp only [nX] at h
  refine Ev.step (fun k => ?_) h
  simp only [bD.l2]
  rw [if_neg (by simp)]
 | cons p rest ih =>
  intro pre b h0 h1 hg hl hlen h
  have hp := hg p (by simp)
  have hlen' : ((pre ++ p :: rest).length : Int) = pre.length + (rest.length + 1) := by simp
  have hl' : (pre.length : Int) + (rest.length + 1) ≤ 100000 := by omega
  have hw : wrap64 ((pre.length : Int) + 1) = (pre.length : Int) + 1 := wp (by omega) (by omega)
  have hsum : wrap64 (p.1 + p.2) = p.1 + p.2 := wp (by omega) (by omega)
  have hmp := hl p (by simp)
  have hmn : 0 ≤ mn m b ∧ mn m b ≤ m ∧ mn m b ≤ b := by unfold mn; split <;> omega
  have step : ∀ (b' : Int) (p' : Int × Int), p'.1 = p.1 → -p'.1 ≤ p'.2 → p'.2 ≤ 0 → 0 ≤ b' → b' ≤ 2147483647 → nX m b (p :: rest) = ((nX m b' rest).1, p' :: (nX m b' rest).2) →
    Ev (fun k => bD.l2 k b' ((pre ++ p :: rest).map Prod.fst) ((pre ++ p' :: rest).map Prod.snd) m ((pre ++ p :: rest).map Prod.fst) ((pre ++ p :: rest).length : Int) ((pre.length : Int) + 1)) r := by
   intro b' p' e1 e2 e3 e4 e5 eb
   have f1 : (pre ++ p :: rest).map Prod.fst = ((pre ++ [p']) ++ rest).map Prod.fst := by simp [e1]
   have f2 : (pre ++ p' :: rest).map Prod.snd = ((pre ++ [p']) ++ rest).map Prod.snd := by simp
   have f3 : ((pre ++ p :: rest).length : Int) = (((pre ++ [p']) ++ rest).length : Int) := by simp
   have f4 : (pre.length : Int) + 1 = ((pre ++ [p']).length : Int) := by simp
   have hg' : Good ((pre ++ [p']) ++ rest) := by
    intro q hq
    simp only [List.append_assoc, List.mem_append, List.mem_cons, List.not_mem_nil, or_false] at hq
    rcases hq with hq | rfl | hq
    ·exact hg q (by simp [hq])
    ·omega
    ·exact hg q (by simp [hq])
   rw [f1, f2, f3, f4]
   refine ih (pre ++ [p']) b' e4 e5 hg' (fun q hq => hl q (by simp [hq])) (by simp; omega) ?_
   rw [eb] at h
   rw [← f1, List.append_assoc]
   exact h
  refine Ev.step (f := fun k => if p.1 + p.2 > 0 then (if b > 0 then bD.l2 k (b - mn m b) ((pre ++ p :: rest).map Prod.fst) ((pre ++ (p.1, p.2 - mn m b) :: rest).map Prod.snd) m ((pre ++ p :: rest).map Prod.fst) ((pre ++ p :: rest).length : Int) ((pre.length : Int) + 1) else bD.l2 k b ((pre ++ p :: rest).map Prod.fst) ((pre ++ p :: rest).map Prod.snd) m ((pre ++ p :: rest).map Prod.fst) ((pre ++ p :: rest).length : Int) ((pre.length : Int) + 1)) else bD.l2 k b ((pre ++ p :: rest).map Prod.fst) ((pre ++ p :: rest).map Prod.snd) m ((pre ++ p :: rest).map Prod.fst) ((pre ++ p :: rest).length : Int) ((pre.length : Int) + 1)) (fun k => ?_) ?_
  ·simp only [bD.l2]
   rw [Om, Om, hsum, if_pos (by omega), if_pos (by omega), if_pos (by simp; omega), if_pos (by simp; omega), hw]
   by_cases hc : p.1 + p.2 > 0
   ·rw [if_pos hc, if_pos hc]
    by_cases hb : b > 0
    ·rw [if_pos hb, if_pos hb, wp (by omega) (by omega), wp (by omega) (by omega)]
     congr 1
     simp
    ·rw [if_neg hb, if_neg hb]
   ·rw [if_neg hc, if_neg hc]
  ·by_cases hc : p.1 + p.2 > 0
   ·by_cases hb : b > 0
    ·refine Ev.nz hc (Ev.nz hb (step (b - mn m b) (p.1, p.2 - mn m b) rfl (by simp only; omega) (by simp only; omega) (by omega) (by omega) ?_))
     simp only [nX]
     rw [if_pos hc, if_pos hb]
    ·refine Ev.nz hc (Ev.lM hb (step b p rfl (by omega) (by omega) h0 h1 ?_))
     simp only [nX]
     rw [if_pos hc, if_neg hb]
   ·refine Ev.lM hc (step b p rfl (by omega) (by omega) h0 h1 ?_)
    simp only [nX]
    rw [if_neg hc]
theorem VS (ps : List (Int × Int)) : ∀ b : Int, 0 ≤ b → lZ (-b) ps = (-(nX 1 b ps).1, (nX 1 b ps).2) := by
 induction ps with
 | nil => intro b _; simp [lZ, nX]
 | cons p ps ih =>
  intro b hb
  simp only [lZ, nX]
  by_cases hp : p.1 + p.2 > 0
  ·rw [if_pos hp]
   by_cases h : b > 0
   ·rw [if_pos h]
    have h1 : mn 1 b = 1 := by unfold mn; split <;> omega
    have e : rO (-b) p = (-(b - 1), (p.1, p.2 - 1)) := by
     unfold rO
     rw [if_neg (by omega), if_pos ⟨by omega, hp⟩]
     congr 1
     omega
    rw [e, h1]
    simp only
    rw [ih (b - 1) (by omega)]
   ·rw [if_neg h]
    have e : rO (-b) p = (-b, p) := by
     unfold rO
     rw [if_neg (by omega), if_neg (by omega)]
    rw [e]
    simp only
    rw [ih b hb]
  ·rw [if_neg hp]
   have e : rO (-b) p = (-b, p) := by
    unfold rO
    rw [if_neg (by omega), if_neg (by omega)]
   rw [e]
   simp only
   rw [ih b hb]
theorem EI {b : Int} {ps : List (Int × Int)} {r : List Int × Bool} (hb : 0 < b) (hne : (nX 1 b ps).1 ≠ b) (h : Ev (fun k => oZ k (-(nX 1 b ps).1) (nX 1 b ps).2) r) : Ev (fun k => oZ k (-b) ps) r := by
 refine Ev.step (fun k => ?_) h
 simp only [oZ]
 rw [if_neg (by omega), VS ps b (by omega)]
 simp only
 rw [if_neg (by omega)]
theorem Zx {r : List Int × Bool} : ∀ (m : Nat) (b : Int) (ps : List (Int × Int)), 0 < able ps → ((m : Int) + 1) * able ps ≤ b → (∀ p, p ∈ ps → p.1 + p.2 > 0 → (m : Int) + 1 ≤ p.1 + p.2) →
  Ev (fun k => oZ k (-(b - ((m : Int) + 1) * able ps)) (qE ((m : Int) + 1) ps)) r → Ev (fun k => oZ k (-b) ps) r := by
 intro m
 induction m with
 | zero =>
  intro b ps ha hb hl h
  have e := GY (m := 1) (by omega) ps b (by simpa using hb)
  have hb' : able ps ≤ b := by simpa using hb
  refine EI (by omega) (by rw [e]; simp only; omega) ?_
  rw [e]
  simpa using h
 | succ m ih =>
  intro b ps ha hb hl h
  have hx : 0 ≤ ((m : Int) + 1) * able ps := Int.mul_nonneg (by omega) (by omega)
  have hm : (((m + 1 : Nat) : Int) + 1) * able ps = ((m : Int) + 1) * able ps + able ps := by rw [show (((m + 1 : Nat) : Int) + 1) = ((m : Int) + 1) + 1 by omega, Int.add_mul, Int.one_mul]
  rw [hm] at hb h
  have e := GY (m := 1) (by omega) ps b (by omega)
  obtain ⟨d1, d2⟩ := aaB (m := (m : Int) + 1) (ps := ps) (by omega) (fun p hp hc => by have := hl p hp hc; omega)
  refine EI (by omega) (by rw [e]; simp only; omega) ?_
  rw [e]
  simp only [Int.one_mul]
  refine ih (b - able ps) (qE 1 ps) (by omega) (by rw [d2]; omega) ?_ ?_
  ·intro q hq hc
   obtain ⟨p, hp, rfl⟩ := List.mem_map.1 hq
   have := hl p hp
   simp only at hc ⊢
   by_cases hc1 : p.1 + p.2 > 0
   ·rw [if_pos hc1] at hc ⊢
    have := this hc1
    omega
   ·rw [if_neg hc1] at hc
    omega
  ·rw [d2, ← d1]
   refine Ev.congr (fun k => ?_) h
   rw [show (((m + 1 : Nat) : Int) + 1) = ((m : Int) + 1) + 1 by omega]
   congr 2
   omega
theorem aa' : ∀ (n : Nat) (b : Int) (ps : List (Int × Int)), b.toNat = n → 0 ≤ b → b ≤ 2147483647 → Good ps → JJ ps → ps.length ≤ 100000 → b ≤ u_ ps →
  ∃ qs : List (Int × Int), Ev (fun k => bD.l0 k b (ps.map Prod.fst) (ps.map Prod.snd)) (qs.map Prod.snd) ∧ Ev (fun k => oZ k (-b) ps) (qs.map Prod.snd, true) ∧
   qs.map Prod.fst = ps.map Prod.fst ∧ Good qs ∧ Rx qs ∧ outs qs = outs ps - b := by
 intro n
 induction n using Nat.strongRecOn with
 | _ n IH =>
 intro b ps hn h0 h1 hg he hl hav
 by_cases hb : b > 0
 ·have hab := ab8 hg (by omega)
  have har := zu ps
  have awu := ah6 ps b hb
  have awt := aba ps b
  have hm1 : 1 ≤ mx 1 (mn (lst b ps) (b / able ps)) := by unfold mx; split <;> omega
  have afg : ∀ (m : Int), m = mx 1 (mn (lst b ps) (b / able ps)) → (∀ p, p ∈ ps → p.1 + p.2 > 0 → m ≤ p.1 + p.2) → ∀ r, Ev (fun k => bD.l0 k (nX m b ps).1 (ps.map Prod.fst) ((nX m b ps).2.map Prod.snd)) r → Ev (fun k => bD.l0 k b (ps.map Prod.fst) (ps.map Prod.snd)) r := by
   intro m hm hml r h
   refine Ev.step (f := fun k => bD.l1 k b (ps.map Prod.fst) (ps.map Prod.snd) 0 b (ps.map Prod.fst) ((ps.map Prod.fst).length : Int) 0) (fun k => ?_) ?_
   ·simp only [bD.l0]; rw [if_pos hb]
   ·have l2 := ah4 m r (by omega) ps [] b h0 h1 (by simpa using hg) hml (by simpa using hl) (by simpa using h)
    have l1 := ah3 b m r hb h1 ps [] 0 b (by simpa using hg) (by simpa using hl) (by omega) (by simp) (by omega) (by rw [Int.zero_add]; exact hm) (by simpa using l2)
    simpa using l1
  by_cases hfull : able ps ≤ b
  ·
   have hq1 : 1 ≤ b / able ps := by rw [Int.le_ediv_iff_mul_le hab]; omega
   have hm : mx 1 (mn (lst b ps) (b / able ps)) = mn (lst b ps) (b / able ps) := by unfold mx mn; split <;> split at * <;> omega
   have apf : 1 ≤ mn (lst b ps) (b / able ps) := by unfold mn; split <;> omega
   generalize hmm : mn (lst b ps) (b / able ps) = m at hm
   have hm0 : 1 ≤ m := by rw [← hmm]; exact apf
   have apd : m ≤ lst b ps := by rw [← hmm]; unfold mn; split <;> omega
   have ape : m ≤ b / able ps := by rw [← hmm]; unfold mn; split <;> omega
   have hall : ∀ p, p ∈ ps → p.1 + p.2 > 0 → m ≤ p.1 + p.2 := fun p hp hc => Int.le_trans apd (ah5 ps b p hp hc)
   have hmb : m * able ps ≤ b := (Int.le_ediv_iff_mul_le hab).1 ape
   have hma : able ps ≤ m * able ps := by have := Int.mul_le_mul_of_nonneg_right hm0 (show 0 ≤ able ps by omega); omega
   have akd := GY (m := m) (by omega) ps b hmb
   obtain ⟨qs, q1, q2, q3, q4, q5, q6⟩ := IH (b - m * able ps).toNat (by omega) (b - m * able ps) (qE m ps) rfl (by omega) (by omega) (QY (by omega) hg hall) (aaA hg he (by omega)) (by simpa [qE] using hl) (by rw [NH]; omega)
   rw [acv] at q1 q3
   have eo : outs (qE m ps) = outs ps - m * able ps := by
    have := Tu m ps b
    rw [akd] at this
    simp only at this
    omega
   refine ⟨qs, afg m (by rw [hmm, hm]) hall _ (by rw [akd]; exact q1), ?_, q3, q4, q5, by omega⟩
   obtain ⟨m', rfl⟩ : ∃ m' : Nat, m = (m' : Int) + 1 := ⟨(m - 1).toNat, by omega⟩
   exact Zx m' b ps hab hmb hall q2
  ·
   have hq0 : b / able ps = 0 := Int.ediv_eq_zero_of_lt h0 (by omega)
   have hm : mx 1 (mn (lst b ps) (b / able ps)) = 1 := by rw [hq0]; unfold mx mn; split <;> split at * <;> omega
   have hz := acg ps b h0 (by omega)
   have eo := Tu 1 ps b
   refine ⟨(nX 1 b ps).2, afg 1 hm.symm (fun p _ hc => by omega) _ ?_, EI hb (by omega) ?_, afV 1 ps b, acf hg, ace he, by omega⟩
   ·rw [hz]
    refine Ev.step (fun k => ?_) (Ev.now _)
    simp only [bD.l0]
    rw [if_neg (by omega)]
   ·rw [hz]
    refine Ev.step (fun k => ?_) (Ev.now _)
    simp only [oZ]
    rw [if_pos (by omega)]
 ·obtain rfl : b = 0 := by omega
  refine ⟨ps, ?_, ?_, rfl, hg, akh he, by omega⟩
  ·refine Ev.step (fun k => ?_) (Ev.now _)
   simp only [bD.l0]
   rw [if_neg hb]
  ·refine Ev.step (fun k => ?_) (Ev.now _)
   simp only [oZ]
   rw [if_pos (by omega)]
def total : List Int → Int
 | [] => 0
 | g :: gs => g + total gs
theorem KT (gs : List Int) : u_ (gs.map fun g => (g, (0 : Int))) = total gs := by
 induction gs with
 | nil => rfl
 | cons g gs ih => simp only [List.map_cons, u_, total, ih]; omega
theorem D7 (gs : List Int) (h : ∀ g, g ∈ gs → 0 ≤ g) : 0 ≤ total gs := by
 induction gs with
 | nil => simp [total]
 | cons g gs ih => have h1 := h g (by simp); have h2 := ih fun x hx => h x (by simp [hx]); simp only [total]; omega
def xR (m : Int) (gs : List Int) : Int := if m + total gs > 2147483647 then 2147483647 else m + total gs
theorem VB (b : Int) (r : List Int × Bool) : ∀ (rest pre : List Int) (s : Int), 0 ≤ s → s ≤ 2147483647 → (pre ++ rest).length ≤ 100000 →
  (∀ g, g ∈ rest → 0 ≤ g ∧ g ≤ 2147483647) →
  Ev (fun k => if ((pre ++ rest).length : Int) = 0 then (bF.j1 k b (pre ++ rest) true) else (if b < wrap64 (-(xR s rest)) then (bF.j1 k b (pre ++ rest) true) else (bF.j1 k b (pre ++ rest) (decide (b > 2147483647))))) r →
  Ev (fun k => bF.l0 k b (pre ++ rest) s (pre ++ rest) ((pre ++ rest).length : Int) (pre.length : Int)) r := by
 intro rest
 induction rest with
 | nil =>
  intro pre s h0 h1 hl hg h
  refine Ev.step (fun k => ?_) h
  simp only [bF.l0]
  rw [if_neg (by simp)]
  have : xR s [] = s := by unfold xR; simp only [total, Int.add_zero]; rw [if_neg (by omega)]
  rw [this]
 | cons g rest ih =>
  intro pre s h0 h1 hl hg h
  have hgg := hg g (by simp)
  have ht := D7 rest fun x hx => (hg x (by simp [hx])).1
  have hlen : ((pre ++ g :: rest).length : Int) = pre.length + (rest.length + 1) := by simp
  have e : pre ++ g :: rest = (pre ++ [g]) ++ rest := by simp
  have hc : xR (mn 2147483647 (s + g)) rest = xR s (g :: rest) := by unfold xR mn; simp only [total]; split <;> split <;> (try split) <;> omega
  refine Ev.step (fun k => ?_) (ih (pre ++ [g]) (mn 2147483647 (s + g)) (by unfold mn; split <;> omega) (by unfold mn; split <;> omega) (by rw [← e]; exact hl) (fun x hx => hg x (by simp [hx])) (by rw [hc, ← e]; exact h))
  simp only [bF.l0]
  rw [Qu, if_pos (by omega), if_pos (by omega), if_pos (by omega), if_neg (by omega), if_neg (by omega), wp (x := s + g) (by omega) (by omega), wp (x := (pre.length : Int) + 1) (by omega) (by omega), ← e]
  simp
theorem ZB (b : Int) : ∀ (rest pre : List Int) (s : Int), 0 ≤ s → s ≤ 2147483647 → (pre ++ rest).length ≤ 100000 → ¬ (∀ g, g ∈ rest → 0 ≤ g ∧ g ≤ 2147483647) →
  Ev (fun k => bF.l0 k b (pre ++ rest) s (pre ++ rest) ((pre ++ rest).length : Int) (pre.length : Int)) ([], false) := by
 intro rest
 induction rest with
 | nil => intro pre s _ _ _ h; exact absurd (fun g hg => by cases hg) h
 | cons g rest ih =>
  intro pre s h0 h1 hl hg
  have hlen : ((pre ++ g :: rest).length : Int) = pre.length + (rest.length + 1) := by simp
  by_cases hgg : 0 ≤ g ∧ g ≤ 2147483647
  ·have e : pre ++ g :: rest = (pre ++ [g]) ++ rest := by simp
   refine Ev.step (fun k => ?_) (ih (pre ++ [g]) (mn 2147483647 (s + g)) (by unfold mn; split <;> omega) (by unfold mn; split <;> omega) (by rw [← e]; exact hl) (fun h => hg fun x hx => by
    rcases List.mem_cons.1 hx with rfl | hx
    ·exact hgg
    ·exact h x hx))
   simp only [bF.l0]
   rw [Qu, if_pos (by omega), if_pos (by omega), if_pos (by omega), if_neg (by omega), if_neg (by omega), wp (x := s + g) (by omega) (by omega), wp (x := (pre.length : Int) + 1) (by omega) (by omega), ← e]
   simp
  ·refine Ev.step (fun k => ?_) (Ev.now _)
   simp only [bF.l0]
   rw [Qu, if_pos (by omega), if_pos (by omega), if_pos (by omega)]
   by_cases h : g < 0
   ·rw [if_pos h]
   ·rw [if_neg h, if_pos (by omega)]
theorem abz : ∀ (ps : List (Int × Int)) (b : Int), 0 ≤ b → lZ b ps = (if (ps.length : Int) ≤ b then b - ps.length else 0, ps.mapIdx fun i p => (p.1, p.2 + if (i : Int) < b then 1 else 0)) := by
 intro ps
 induction ps with
 | nil => intro b hb; simp [lZ]; omega
 | cons p ps ih =>
  intro b hb
  simp only [lZ]
  by_cases h : b > 0
  ·have e : rO b p = (b - 1, (p.1, p.2 + 1)) := by unfold rO; rw [if_pos h]
   rw [e]
   simp only
   rw [ih (b - 1) (by omega), List.mapIdx_cons]
   simp only [Prod.mk.injEq, List.length_cons, List.cons.injEq]
   refine ⟨by split <;> split <;> omega, ?_, ?_⟩
   ·rw [if_pos (by omega)]; simp
   ·apply List.mapIdx_eq_mapIdx_iff.2
    intro i hi
    simp only [Prod.mk.injEq, true_and]
    split <;> split <;> omega
  ·obtain rfl : b = 0 := by omega
   have e : rO 0 p = (0, p) := by unfold rO; simp
   rw [e]
   simp only
   rw [ih 0 (by omega), List.mapIdx_cons]
   simp only [Prod.mk.injEq, List.length_cons, List.cons.injEq]
   refine ⟨by split <;> split <;> omega, ?_, ?_⟩
   ·simp
   ·apply List.mapIdx_eq_mapIdx_iff.2
    intro i hi
    simp only [Prod.mk.injEq, true_and]
    split <;> split <;> omega
theorem Vy {b n : Int} (hn : 0 < n) (i : Int) : oz (b - n) n i + 1 = oz b n i := by
 unfold oz
 have h1 : (b - n) / n = b / n - 1 := by
  rw [show b - n = b + (-1) * n by omega, Int.add_mul_ediv_right _ _ (by omega)]; omega
 have h2 : (b - n) % n = b % n := by
  rw [show b - n = b + (-1) * n by omega, Int.add_mul_emod_self_right]
 rw [h1, h2]
 omega
theorem Jp {b n : Int} (h0 : 0 ≤ b) (h : b < n) (i : Int) : oz b n i = if i < b then 1 else 0 := by
 unfold oz
 rw [Int.ediv_eq_zero_of_lt h0 h, Int.emod_eq_of_lt h0 h]
 omega
theorem ak_ : ∀ (N : Nat) (b t : Int) (gs : List Int), b.toNat = N → 0 ≤ b → gs ≠ [] → Ev (fun k => oZ k b (gs.map fun g => (g, t))) (gs.mapIdx (fun i _ => t + oz b gs.length (i : Nat)), true) := by
 intro N
 induction N using Nat.strongRecOn with
 | _ N IH =>
 intro b t gs hN hb hne
 have hpos : 0 < gs.length := List.length_pos_iff.2 hne
 by_cases h0 : b = 0
 ·subst h0
  refine Ev.step (fun k => ?_) (Ev.now _)
  simp only [oZ]
  rw [if_pos trivial]
  congr 2
  rw [List.map_map]
  apply List.ext_getElem
  ·simp
  ·intro i h1 h2
   simp only [List.getElem_map, Function.comp_def, List.getElem_mapIdx]
   rw [Jp (show (0 : Int) ≤ 0 by omega) (show (0 : Int) < gs.length by omega), if_neg (by omega)]
   omega
 ·have hr := abz (gs.map fun g => (g, t)) b hb
  rw [List.length_map] at hr
  by_cases hfull : (gs.length : Int) ≤ b
  ·rw [if_pos hfull] at hr
   have ih := IH (b - gs.length).toNat (by omega) (b - gs.length) (t + 1) gs rfl (by omega) hne
   have e2 : (List.mapIdx (fun i (p : Int × Int) => (p.1, p.2 + if (i : Int) < b then 1 else 0)) (gs.map fun g => (g, t))) = gs.map fun g => (g, t + 1) := by
    apply List.ext_getElem
    ·simp
    ·intro i h1 h2
     simp at h1
     simp only [List.getElem_mapIdx, List.getElem_map]
     rw [if_pos (by omega)]
   rw [e2] at hr
   refine Ev.step (f := fun k => oZ k (b - gs.length) (gs.map fun g => (g, t + 1))) (fun k => ?_) ?_
   ·simp only [oZ]
    rw [if_neg h0, hr]
    simp only
    rw [if_neg (by omega)]
   ·have e3 : gs.mapIdx (fun i _ => t + oz b gs.length (i : Nat)) = gs.mapIdx (fun i _ => t + 1 + oz (b - gs.length) gs.length (i : Nat)) := by
     apply List.mapIdx_eq_mapIdx_iff.2
     intro i hi
     have := Vy (b := b) (n := gs.length) (by omega) (i : Nat)
     omega
    rw [e3]
    exact ih
  ·rw [if_neg hfull] at hr
   refine Ev.step (f := fun k => oZ k 0 (List.mapIdx (fun i (p : Int × Int) => (p.1, p.2 + if (i : Int) < b then 1 else 0)) (gs.map fun g => (g, t)))) (fun k => ?_) ?_
   ·simp only [oZ]
    rw [if_neg h0, hr]
    simp only
    rw [if_neg (by omega)]
   ·refine Ev.step (fun k => ?_) (Ev.now _)
    simp only [oZ]
    rw [if_pos trivial]
    congr 2
    apply List.ext_getElem
    ·simp
    ·intro i h1 h2
     simp only [List.getElem_map, List.getElem_mapIdx]
     rw [Jp hb (by omega)]
theorem adK (b : Int) (gs : List Int) (hb : 0 ≤ b) (hne : gs ≠ []) : Ev (fun k => oZ k b (gs.map fun g => (g, 0))) (moreL b gs.length, true) := by
 have h := ak_ b.toNat b 0 gs rfl hb hne
 have e : gs.mapIdx (fun i _ => 0 + oz b gs.length (i : Nat)) = moreL b gs.length := by
  apply List.ext_getElem
  ·simp [moreL]
  ·intro i h1 h2
   simp [moreL]
 rw [e] at h
 exact h
theorem abw : ∀ (N : Nat) (b : Int) (ps : List (Int × Int)), b.toNat = N → Good ps → u_ ps < b → 0 < b → Ev (fun k => oZ k (-b) ps) ([], false) := by
 intro N
 induction N using Nat.strongRecOn with
 | _ N IH =>
 intro b ps hN hg hav hb
 have har := zu ps
 have hle : able ps ≤ u_ ps := by
  clear IH hN hav hb har
  induction ps with
  | nil => simp [able, u_]
  | cons p ps ih =>
   have h1 := hg.head
   have h2 := ih hg.tail
   simp only [able, u_]
   split <;> omega
 have e := GY (m := 1) (by omega) ps b (by omega)
 rw [Int.one_mul] at e
 by_cases h0 : able ps = 0
 ·refine Ev.step (fun k => ?_) (Ev.now _)
  simp only [oZ]
  rw [if_neg (by omega), VS ps b (by omega), e]
  simp only
  rw [if_pos (by omega)]
 ·refine EI hb (by rw [e]; simp only; omega) ?_
  rw [e]
  simp only
  exact IH (b - able ps).toNat (by omega) (b - able ps) (qE 1 ps) rfl (QY (by omega) hg fun p _ hc => by omega) (by rw [NH]; omega) (by omega)
theorem OB {gs : List Int} (h : ∀ g, g ∈ gs → 0 ≤ g ∧ g ≤ 2147483647) : Good (gs.map fun g => (g, (0 : Int))) := by
 intro p hp
 obtain ⟨g, hg, rfl⟩ := List.mem_map.1 hp
 have := h g hg
 simp only
 omega
theorem ZQ (gs : List Int) : JJ (gs.map fun g => (g, (0 : Int))) := by
 intro p hp q hq h
 obtain ⟨g, hg, rfl⟩ := List.mem_map.1 hp
 obtain ⟨g', hg', rfl⟩ := List.mem_map.1 hq
 simp at h
theorem ZR (gs : List Int) : outs (gs.map fun g => (g, (0 : Int))) = 0 := by
 induction gs with
 | nil => rfl
 | cons g gs ih => simp only [List.map_cons, outs, ih]; rfl
def GU (b : Int) (gs : List Int) (r : List Int × Bool) : Prop :=
 (r = ([], false) ∧ (gs = [] ∨ (¬ ∀ g, g ∈ gs → 0 ≤ g ∧ g ≤ 2147483647) ∨ ((∀ g, g ∈ gs → 0 ≤ g ∧ g ≤ 2147483647) ∧ b < -total gs))) ∨
 (r = (moreL b gs.length, true) ∧ gs ≠ [] ∧ (∀ g, g ∈ gs → 0 ≤ g ∧ g ≤ 2147483647) ∧ 0 ≤ b) ∨
 (∃ qs : List (Int × Int), r = (qs.map Prod.snd, true) ∧ (∀ g, g ∈ gs → 0 ≤ g ∧ g ≤ 2147483647) ∧ b < 0 ∧ qs.map Prod.fst = gs ∧ Good qs ∧ Rx qs ∧ outs qs = b ∧ Ev (fun k => oZ k b (gs.map fun g => (g, 0))) (qs.map Prod.snd, true))
theorem Rh (b : Int) (gs : List Int) (hl : gs.length ≤ 100000) (h0 : -2147483647 ≤ b) (h1 : b ≤ 2147483647) : ∃ r, GU b gs r ∧ Ev (fun k => bF.f k b gs) r := by
 by_cases hg : ∀ g, g ∈ gs → 0 ≤ g ∧ g ≤ 2147483647
 ·have ht := D7 gs fun g h => (hg g h).1
  have look := fun r => VB b r gs [] 0 (by omega) (by omega) (by simpa using hl) hg
  have hcap : xR 0 gs = if total gs > 2147483647 then 2147483647 else total gs := by unfold xR; rw [Int.zero_add]
  have hw : wrap64 (-(xR 0 gs)) = -(xR 0 gs) := by rw [hcap]; apply wp <;> split <;> omega
  simp only [List.nil_append, List.length_nil] at look
  have j1t : Ev (fun k => bF.j1 k b gs true) ([], false) := by
   refine Ev.step (fun k => ?_) (Ev.now _)
   simp only [bF.j1]
   rw [if_pos trivial]
  by_cases hne : gs = []
  ·refine ⟨_, .inl ⟨rfl, .inl hne⟩, ?_⟩
   refine look _ ?_
   refine Ev.nz (by simp [hne]) j1t
  ·have hpos : 0 < gs.length := List.length_pos_iff.2 hne
   by_cases hb : b < -total gs
   ·refine ⟨_, .inl ⟨rfl, .inr (.inr ⟨hg, hb⟩)⟩, look _ (Ev.lM (by omega) (Ev.nz ?_ j1t))⟩
    rw [hw, hcap]
    split <;> omega
   ·have hdec : decide (b > 2147483647) = false := by simp; omega
    have go : ∀ r, Ev (fun k => bF.j1 k b gs false) r → Ev (fun k => bF.f k b gs) r := fun r h => by
     refine look _ (Ev.lM (by omega) (Ev.lM ?_ ?_))
     ·rw [hw, hcap]; split <;> omega
     ·rw [hdec]; exact h
    by_cases hb0 : 0 ≤ b
    ·refine ⟨_, .inr (.inl ⟨rfl, hne, hg, hb0⟩), go _ (Ev.step (fun k => ?_) (Ev.now _))⟩
     simp only [bF.j1]
     rw [if_neg (by simp), if_pos (by omega)]
     unfold tV.f
     rw [if_pos ⟨hb0, by omega, by omega, by omega⟩]
     simp
    ·obtain ⟨qs, q1, q2, q3, q4, q5, q6⟩ := aa' (-b).toNat (-b) (gs.map fun g => (g, 0)) rfl (by omega) (by omega) (OB hg) (ZQ gs) (by simpa using hl) (by rw [KT]; omega)
     have e1 : (gs.map fun g => (g, (0 : Int))).map Prod.fst = gs := by simp [List.map_map, Function.comp_def]
     have e2 : (gs.map fun g => (g, (0 : Int))).map Prod.snd = List.replicate gs.length 0 := by simp [List.map_map, Function.comp_def, List.map_const']
     rw [e1] at q1 q3
     rw [e2] at q1
     rw [ZR] at q6
     rw [Int.neg_neg] at q2
     refine ⟨_, .inr (.inr ⟨qs, rfl, hg, by omega, q3, q4, q5, by omega, q2⟩), go _ (Ev.step (f := fun k => (bD.f k (-b) gs).bind fun t => some (t, true)) (fun k => ?_) (Ev.bind (a := qs.map Prod.snd) ?_ (Ev.now _)))⟩
     ·simp only [bF.j1]
      rw [if_neg (by simp), if_neg (by omega), wp (by omega) (by omega)]
     ·refine Ev.congr (fun k => ?_) q1
      unfold bD.f
      rw [if_pos (by omega), if_pos (by omega)]
      simp
 ·refine ⟨_, .inl ⟨rfl, .inr (.inl hg)⟩, ?_⟩
  have := ZB b gs [] 0 (by omega) (by omega) (by simpa using hl) hg
  simp only [List.nil_append, List.length_nil] at this
  exact this
theorem wU {P : Program} {f : FuncId} {fn : Func} (hf : P.funcs[f]? = some fn) (hname : (fn.name == "runtime.NumGoroutine") = false) (hb : fn.body.isSome = true) : ∀ args w, (callFunc f args).run P w = .ok (.enter f args) w := by
 intro args w
 obtain ⟨c, hc⟩ := Option.isSome_iff_exists.1 hb
 have h1 : fn.name ≠ "runtime.NumGoroutine" := by simpa using hname
 simp [callFunc, hf, h1, hc, mark]
section
variable {σ α : Type}
def o5 (step : σ → α → Bool × σ) : Int → σ → List α → Int × σ
 | _, s, [] => (-1, s)
 | i, s, x :: xs => if (step s x).1 = true then (i, (step s x).2) else o5 step (i + 1) (step s x).2 xs
def wI (step : σ → α → Bool × σ) : σ → List α → Bool × σ
 | s, [] => (false, s)
 | s, x :: xs => if (step s x).1 = true then (true, (step s x).2) else wI step (step s x).2 xs
theorem aik (step : σ → α → Bool × σ) : ∀ (l : List α) (i : Int) (s : σ), 0 ≤ i → (wI step s l).1 = decide (0 ≤ (o5 step i s l).1) ∧ (wI step s l).2 = (o5 step i s l).2 := by
 intro l
 induction l with
 | nil => intro i s h; exact ⟨by simp [wI, o5], rfl⟩
 | cons x xs ih =>
  intro i s h
  simp only [wI, o5]
  split
  ·exact ⟨by simp [h], rfl⟩
  ·exact ih (i + 1) _ (by omega)
theorem Va (step : σ → α → Bool × σ) (s : σ) (l : List α) : wI step s l = (decide (0 ≤ (o5 step 0 s l).1), (o5 step 0 s l).2) := by
 have h := aik step l 0 s (by omega)
 exact Prod.ext h.1 h.2
theorem XB (step : σ → α → Bool × σ) (z : α) (l : List α) (k : Nat) (h : k < l.length) (t : σ) :
  o5 step k t (l.drop k) = if (step t (l.getD (k : Int).toNat z)).1 = true then ((k : Int), (step t (l.getD (k : Int).toNat z)).2) else o5 step ((k + 1 : Nat) : Int) (step t (l.getD (k : Int).toNat z)).2 (l.drop (k + 1)) := by
 rw [List.drop_eq_getElem_cons h]
 simp only [o5, Int.toNat_natCast, List.getD_eq_getElem?_getD, List.getElem?_eq_getElem h, Option.getD_some]
 rfl
theorem H9 (z : α) (l : List α) (k : Nat) (h : k < l.length) : l.getD (k : Int).toNat z ∈ l := by
 simp only [Int.toNat_natCast, List.getD_eq_getElem?_getD, List.getElem?_eq_getElem h, Option.getD_some]
 exact List.getElem_mem h
theorem Rf (p : α → Bool) : ∀ (l : List α) (s : Unit), wI (fun _ x => (p x, ())) s l = (l.any p, ()) := by
 intro l
 induction l with
 | nil => intro s; rfl
 | cons x xs ih =>
  intro s
  simp only [wI, List.any_cons]
  cases h : p x with
  | true => simp
  | false => simp [ih]
end
theorem ahZ (Inv : List aI → World → Prop) (r : aI → Bool) (g : Nat) (lb : Array Value) (eg : ∀ args w, (callFunc g args).run Try.prog w = .ok (.enter g args) w) (l : List aI) (A : Option Addr) (c : Nat)
  (w0 : World) (hR : Kd.C k26 w0 A l.length l) (hW : ∀ s W, Inv s W → Below w0.heap.size w0 W) (hD : ∀ s W n, Inv s W → Inv s (W.drewN n))
  (hcall : ∀ (x : aI) (rest : List aI) (W : World) (B : Option Addr) (cb : Nat), x ∈ l → (∃ pre, pre ++ x :: rest = l) → Inv (x :: rest) W → Kd.C k26 w0 B x.f3.length x.f3 → x.f3.length ≤ cb → Calls Try.prog g (#[.agg #[.int .u8 x.f0, .int .i64 x.f1.f0, .int .i64 x.f1.f1, .int .i64 x.f1.f2, .int .i64 x.f1.f3, .int .i64 x.f2, .slice B x.f3.length cb]] ++ lb) W fun e w' => e = .returned (.bool (r x)) ∧ Inv (if r x = true then [] else rest) w')
  (w : World) (hI : Inv l w) (hl : l.length ≤ 9223372036854775807) :
  Calls Try.prog 192 #[.slice A l.length c, .func (.func g) #[] lb] w fun e w' => ∃ i : Int, e = .returned (.int .i64 i) ∧ decide (i ≥ 0) = l.any r ∧ Inv [] w' := by
 have HR := ae.mk hR
 have HW := ae.mk hW
 have HD := ae.mk hD
 have HI := ae.mk hI
 have BX := ae.mk hcall
 clear hR hW hcall hD hI
 go_enter Try.func192, Try.ntmps192
 go_wp2
 go_loopg [5, 8] l.length (fun gg _ v8 wr => ∃ (kk : Nat), kk ≤ l.length ∧ l.length - kk ≤ gg ∧ v8 = .int .i64 kk ∧ ae (Inv (l.drop kk) wr) ∧ ae (l.any r = (l.drop kk).any r))
 case atStart => exact ⟨0, Nat.zero_le _, by omega, rfl, ⟨by simpa using HI.out⟩, ⟨by simp⟩⟩
 case round =>
  clear HI
  obtain ⟨kk, hkk, hg, rfl, HI, HS⟩ := hrel
  by_cases hlt : kk < l.length
  ·have hltz : (kk : Int) < (l.length : Int) := by omega
   obtain ⟨ad, B, cb, rfl, hc0, hc1, hc2, hc3, hc4, hc5, hc6, hlb, hgb⟩ := nV HR.out (kk : Int) (by omega) (by omega)
   have hbw := HW.out _ wr HI.out
   replace hc0 := (hbw.cell (World.block_lt_of_cell? w0 _ hc0)).trans hc0
   replace hc1 := (hbw.cell (World.block_lt_of_cell? w0 _ hc1)).trans hc1
   replace hc2 := (hbw.cell (World.block_lt_of_cell? w0 _ hc2)).trans hc2
   replace hc3 := (hbw.cell (World.block_lt_of_cell? w0 _ hc3)).trans hc3
   replace hc4 := (hbw.cell (World.block_lt_of_cell? w0 _ hc4)).trans hc4
   replace hc5 := (hbw.cell (World.block_lt_of_cell? w0 _ hc5)).trans hc5
   replace hc6 := (hbw.cell (World.block_lt_of_cell? w0 _ hc6)).trans hc6
   clear hbw
   have hmem : (au l (kk : Int)) ∈ l := H9 z26 l kk hlt
   have hdr : l.drop kk = au l (kk : Int) :: l.drop (kk + 1) := by
    rw [List.drop_eq_getElem_cons hlt]
    simp only [au, Int.toNat_natCast, List.getD_eq_getElem?_getD, List.getElem?_eq_getElem hlt, Option.getD_some]
   have HX : ae ((l.drop kk).any r = (r (au l (kk : Int)) || (l.drop (kk + 1)).any r)) := ⟨by rw [hdr, List.any_cons]⟩
   have hcall := BX.out _ (l.drop (kk + 1)) wr B cb hmem ⟨l.take kk, by rw [← hdr]; exact List.take_append_drop kk l⟩ (by rw [← hdr]; exact HI.out) hgb hlb
   clear hmem hgb hlb hdr
   simp only [Int.toNat_natCast] at hc0 hc1 hc2 hc3 hc4 hc5 hc6
   generalize au l (kk : Int) = x at hc0 hc1 hc2 hc3 hc4 hc5 hc6 HX hcall
   have HC := ae.mk hcall
   clear hcall
   cases hq : r x with
   | true =>
    have h := HC.out
    rw [hq, if_pos rfl] at h
    have HH := ae.mk h
    have HQ := ae.mk hq
    clear hq HC h
    go_wp2_with fail
    refine HH.out.mono ?_
    rintro e w' ⟨rfl, hb'⟩
    have HB := ae.mk hb'
    clear hb'
    go_wp2
    go_ret
    refine ⟨_, rfl, ?_, HB.out⟩
    rw [HS.out, HX.out, HQ.out, Bool.true_or]
    exact decide_eq_true (by omega)
   | false =>
    have h := HC.out
    rw [hq, if_neg (by simp)] at h
    have HH := ae.mk h
    have HQ := ae.mk hq
    clear hq HC h
    go_wp2_with fail
    refine HH.out.mono ?_
    rintro e w' ⟨rfl, hb'⟩
    have HB := ae.mk hb'
    clear hb'
    go_wp2
    go_roundg (l.length - (kk + 1))
    case measure => omega
    case rel =>
     refine ⟨kk + 1, by omega, by omega, by go_num, HB, ⟨?_⟩⟩
     rw [HS.out, HX.out, HQ.out, Bool.false_or]
  ·have hltz : ¬ (kk : Int) < (l.length : Int) := by omega
   have hd : l.drop kk = [] := List.drop_eq_nil_of_le (by omega)
   have HI2 := ae.mk (hd ▸ HI.out)
   have HS2 := ae.mk (hd ▸ HS.out)
   clear HI HS hd
   go_wp2
   go_ret
   refine ⟨_, rfl, ?_, HI2.out⟩
   rw [HS2.out]
   rfl
theorem V5 (Inv : List aI → World → Prop) (r : aI → Bool) (g : Nat) (lb : Array Value) (eg : ∀ args w, (callFunc g args).run Try.prog w = .ok (.enter g args) w) (l : List aI) (A : Option Addr) (c : Nat)
  (w0 : World) (hR : Kd.C k26 w0 A l.length l) (hW : ∀ s W, Inv s W → Below w0.heap.size w0 W) (hD : ∀ s W n, Inv s W → Inv s (W.drewN n))
  (hcall : ∀ (x : aI) (rest : List aI) (W : World) (B : Option Addr) (cb : Nat), x ∈ l → (∃ pre, pre ++ x :: rest = l) → Inv (x :: rest) W → Kd.C k26 w0 B x.f3.length x.f3 → x.f3.length ≤ cb → Calls Try.prog g (#[.agg #[.int .u8 x.f0, .int .i64 x.f1.f0, .int .i64 x.f1.f1, .int .i64 x.f1.f2, .int .i64 x.f1.f3, .int .i64 x.f2, .slice B x.f3.length cb]] ++ lb) W fun e w' => e = .returned (.bool (r x)) ∧ Inv (if r x = true then [] else rest) w')
  (w : World) (hI : Inv l w) (hl : l.length ≤ 9223372036854775807) :
  Calls Try.prog 174 #[.slice A l.length c, .func (.func g) #[] lb] w fun e w' => e = .returned (.bool (l.any r)) ∧ Inv [] w' := by
 have hi := ahZ Inv r g lb eg l A c w0 hR hW hD hcall w hI hl
 clear hR hW hD hcall hI
 have HI := ae.mk hi
 clear hi
 go_enter Try.func174, Try.ntmps174
 go_wp2_with fail
 refine HI.out.mono ?_
 rintro e w' ⟨i, rfl, hd, hb'⟩
 have HB := ae.mk hb'
 have HN := ae.mk hd
 clear hb' hd
 go_wp2
 go_ret
 exact ⟨by rw [← HN.out]; rfl, HB.out⟩
end Go.Proofs.Ytfdmfgaiblfbhaa.P
namespace Go.Proofs.Ytfdmfgaiblfbhaa.P
open Go.RowKit Go.Proofs.ai.bg Go.Proofs.ai.di Go.Proofs.ai.dG
attribute [local go_sem] kD kF lN lQ jF jG kE kG
theorem Sj (d : Nat) (w : World) (x0 y0 : Int) (x1 y1 : Int) (x2 y2 : Int) (x3 y3 : Int) :
  (Op.equalIn (d + 2) 23 (.agg #[.int .i64 x0, .int .i64 x1, .int .i64 x2, .int .i64 x3]) (.agg #[.int .i64 y0, .int .i64 y1, .int .i64 y2, .int .i64 y3])).run Try.prog w = .ok (x0 == y0 && (x1 == y1 && (x2 == y2 && (x3 == y3)))) w := by
 refine ake Try.underlying23 (by kernel_rfl) ?_
 refine Lp (by rfl) (by go_simp; rfl) (by go_simp; rfl) (by go_simp) ?_
 refine Lp (by rfl) (by go_simp; rfl) (by go_simp; rfl) (by go_simp) ?_
 refine Lp (by rfl) (by go_simp; rfl) (by go_simp; rfl) (by go_simp) ?_
 exact acL (by rfl) (by go_simp; rfl) (by go_simp; rfl) (by go_simp)
def jR.f (az : Int) (aC : Int) (aA : Int) (aG : Int) (a1 : Int) : Option (Int × Int × Int × Int × Bool) := if a1 = 2 then (some (aC, az, aG, aA, true)) else (if a1 = 1 then (some (az, aC, aA, aG, true)) else (some (0, 0, 0, 0, false)))
theorem jR.calls (az : Int) (aC : Int) (aA : Int) (aG : Int) (a1 : Int) (r1 : Int) (r2 : Int) (r3 : Int) (r4 : Int) (r5 : Bool) (w : World) (h : jR.f az aC aA aG a1 = some (r1, r2, r3, r4, r5)) :
  Calls Try.prog 127 #[.agg #[.int .i64 az, .int .i64 aC, .int .i64 aA, .int .i64 aG], .int .u8 a1] w fun e w' => e = .returned (.tuple #[.agg #[.int .i64 r1, .int .i64 r2, .int .i64 r3, .int .i64 r4], .bool r5]) ∧ Below w.heap.size w w' := by
 have EX := Try.underlying23
 have HB := ae.mk (Below.refl w.heap.size w)
 have H : (if a1 = 2 then (some (aC, az, aG, aA, true)) else (if a1 = 1 then (some (az, aC, aA, aG, true)) else (some (0, 0, 0, 0, false)))) = some (r1, r2, r3, r4, r5) := h
 clear h
 by_cases c3 : a1 = 2
 ·rw [if_pos c3] at H
  have pY : (a1 == 2) = true := beq_iff_eq.mpr c3
  have uq : (a1 != 2) = false := bne_eq_false_iff_eq.mpr c3
  clear c3
  simp only [Option.some.injEq, Prod.mk.injEq] at H
  obtain ⟨rfl, rfl, rfl, rfl, rfl⟩ := H
  go_enter Try.func127, Try.ntmps127
  go_wp2_with (first | ((with_reducible refine aQ (N := 2) rfl ?_); refine aX ?hg (N := 2) ?hd (cs := #[.int .i64 az, .int .i64 aC, .int .i64 aA, .int .i64 aG]) (t := 23) ?hr ?_; (case hd => rfl); (case hg => rfl); (case hr => (go_simp; done)); intro qK hg w4 hbox hb; have mi := ae.mk (hbox); have X6 := ae.mk ((by rw [hg]; exact (aY (by repeat ((with_reducible exact HB.out)))) : w.heap.size ≤ qK)); replace HB := ae.mk (aH (by repeat ((with_reducible exact HB.out))) hb); clear hb hbox hg) | ((with_reducible refine aQ (N := 4) rfl ?_); refine aX ?hg (N := 4) ?hd (cs := #[.int .i64 0, .int .i64 0, .int .i64 0, .int .i64 0]) (t := 23) ?hr ?_; (case hd => rfl); (case hg => rfl); (case hr => (go_simp; done)); intro nZ hg w5 hbox hb; have mP := ae.mk (hbox); have MQ := ae.mk ((by rw [hg]; exact (aY (by repeat ((with_reducible exact HB.out)))) : w.heap.size ≤ nZ)); have Bg := ae.mk ((by rw [hg]; exact Nat.ne_of_lt (eP mi.out) : qK ≠ nZ)); have sD := ae.mk ((by rw [hg]; exact Nat.ne_of_gt (eP mi.out) : nZ ≠ qK)); replace mi := ae.mk (aK mi.out hb); replace HB := ae.mk (aH (by repeat ((with_reducible exact HB.out))) hb); clear hb hbox hg; have awv := Bg.out; have aww := sD.out; have Dj : w5.cell? ⟨qK, 0, none⟩ = some (.int .i64 az) := (af mi.out 0).trans rfl; have Dk : w5.cell? ⟨qK, 1, none⟩ = some (.int .i64 aC) := (af mi.out 1).trans rfl; have Dl : w5.cell? ⟨qK, 2, none⟩ = some (.int .i64 aA) := (af mi.out 2).trans rfl; have Dn : w5.cell? ⟨qK, 3, none⟩ = some (.int .i64 aG) := (af mi.out 3).trans rfl; have Dq := ag mi.out 0; have Dt := ag mi.out 1; have Du := ag mi.out 2; have Dv := ag mi.out 3; have NU : w5.cell? ⟨nZ, 0, none⟩ = some (.int .i64 0) := (af mP.out 0).trans rfl; have NV : w5.cell? ⟨nZ, 1, none⟩ = some (.int .i64 0) := (af mP.out 1).trans rfl; have NW : w5.cell? ⟨nZ, 2, none⟩ = some (.int .i64 0) := (af mP.out 2).trans rfl; have NY : w5.cell? ⟨nZ, 3, none⟩ = some (.int .i64 0) := (af mP.out 3).trans rfl; have N9 := ag mP.out 0; have N_ := ag mP.out 1; have Oa := ag mP.out 2; have Ob := ag mP.out 3))
  refine bodyPost_ret (jP rfl _ _ nZ 23 #[.int .i64 aC, .int .i64 az, .int .i64 aG, .int .i64 aA] (0, 0) _ rfl (by refine bM (cs := #[.int .i64 aC, .int .i64 az, .int .i64 aG, .int .i64 aA]) ?_ 3 _ rfl; refine bM (cs := #[.int .i64 aC, .int .i64 az, .int .i64 aG, .int .i64 aA]) ?_ 2 _ rfl; refine bM (cs := #[.int .i64 aC, .int .i64 az, .int .i64 aG, .int .i64 aA]) ?_ 1 _ rfl; refine bM (cs := #[.int .i64 aC, .int .i64 az, .int .i64 aG, .int .i64 aA]) ?_ 0 _ rfl; refine bM (cs := #[.int .i64 aC, .int .i64 az, .int .i64 aG, .int .i64 0]) ?_ 3 _ rfl; refine bM (cs := #[.int .i64 aC, .int .i64 az, .int .i64 0, .int .i64 0]) ?_ 2 _ rfl; refine bM (cs := #[.int .i64 aC, .int .i64 0, .int .i64 0, .int .i64 0]) ?_ 1 _ rfl; refine bM (cs := #[.int .i64 0, .int .i64 0, .int .i64 0, .int .i64 0]) ?_ 0 _ rfl; refine bz ?_ sD.out _; refine bz ?_ sD.out _; refine bz ?_ sD.out _; refine bz ?_ sD.out _; exact mP.out) Try.underlying23 rfl (by kernel_rfl)) rfl ?_
  exact ⟨by rfl, by repeat ((with_reducible first | exact HB.out | refine iw ?_ X6.out | refine iw ?_ MQ.out))⟩
 ·rw [if_neg c3] at H
  have pY : (a1 == 2) = false := beq_eq_false_iff_ne.mpr c3
  have uq : (a1 != 2) = true := bne_iff_ne.mpr c3
  by_cases c9 : a1 = 1
  ·rw [if_pos c9] at H
   have IA : (a1 == 1) = true := beq_iff_eq.mpr c9
   have aoM : (a1 != 1) = false := bne_eq_false_iff_eq.mpr c9
   clear c9
   simp only [Option.some.injEq, Prod.mk.injEq] at H
   obtain ⟨rfl, rfl, rfl, rfl, rfl⟩ := H
   go_enter Try.func127, Try.ntmps127
   go_wp2_with (first | ((with_reducible refine aQ (N := 2) rfl ?_); refine aX ?hg (N := 2) ?hd (cs := #[.int .i64 az, .int .i64 aC, .int .i64 aA, .int .i64 aG]) (t := 23) ?hr ?_; (case hd => rfl); (case hg => rfl); (case hr => (go_simp; done)); intro qK hg w10 hbox hb; have mi := ae.mk (hbox); have X6 := ae.mk ((by rw [hg]; exact (aY (by repeat ((with_reducible exact HB.out)))) : w.heap.size ≤ qK)); replace HB := ae.mk (aH (by repeat ((with_reducible exact HB.out))) hb); clear hb hbox hg) | ((with_reducible refine aQ (N := 4) rfl ?_); refine aX ?hg (N := 4) ?hd (cs := #[.int .i64 0, .int .i64 0, .int .i64 0, .int .i64 0]) (t := 23) ?hr ?_; (case hd => rfl); (case hg => rfl); (case hr => (go_simp; done)); intro nZ hg D8 hbox hb; have mP := ae.mk (hbox); have MQ := ae.mk ((by rw [hg]; exact (aY (by repeat ((with_reducible exact HB.out)))) : w.heap.size ≤ nZ)); have Bg := ae.mk ((by rw [hg]; exact Nat.ne_of_lt (eP mi.out) : qK ≠ nZ)); have sD := ae.mk ((by rw [hg]; exact Nat.ne_of_gt (eP mi.out) : nZ ≠ qK)); replace mi := ae.mk (aK mi.out hb); replace HB := ae.mk (aH (by repeat ((with_reducible exact HB.out))) hb); clear hb hbox hg; have ava := Bg.out; have avz := sD.out; have af1 : D8.cell? ⟨qK, 0, none⟩ = some (.int .i64 az) := (af mi.out 0).trans rfl; have af2 : D8.cell? ⟨qK, 1, none⟩ = some (.int .i64 aC) := (af mi.out 1).trans rfl; have af4 : D8.cell? ⟨qK, 2, none⟩ = some (.int .i64 aA) := (af mi.out 2).trans rfl; have af5 : D8.cell? ⟨qK, 3, none⟩ = some (.int .i64 aG) := (af mi.out 3).trans rfl; have agR := ag mi.out 0; have agS := ag mi.out 1; have agT := ag mi.out 2; have agU := ag mi.out 3; have JY : D8.cell? ⟨nZ, 0, none⟩ = some (.int .i64 0) := (af mP.out 0).trans rfl; have JZ : D8.cell? ⟨nZ, 1, none⟩ = some (.int .i64 0) := (af mP.out 1).trans rfl; have J3 : D8.cell? ⟨nZ, 2, none⟩ = some (.int .i64 0) := (af mP.out 2).trans rfl; have J4 : D8.cell? ⟨nZ, 3, none⟩ = some (.int .i64 0) := (af mP.out 3).trans rfl; have J9 := ag mP.out 0; have J_ := ag mP.out 1; have Ko := ag mP.out 2; have Kq := ag mP.out 3))
   refine bodyPost_ret (jP rfl _ _ nZ 23 #[.int .i64 az, .int .i64 aC, .int .i64 aA, .int .i64 aG] (0, 0) _ rfl (by refine bM (cs := #[.int .i64 az, .int .i64 aC, .int .i64 aA, .int .i64 aG]) ?_ 3 _ rfl; refine bM (cs := #[.int .i64 az, .int .i64 aC, .int .i64 aA, .int .i64 aG]) ?_ 2 _ rfl; refine bM (cs := #[.int .i64 az, .int .i64 aC, .int .i64 aA, .int .i64 aG]) ?_ 1 _ rfl; refine bM (cs := #[.int .i64 az, .int .i64 aC, .int .i64 aA, .int .i64 aG]) ?_ 0 _ rfl; refine bM (cs := #[.int .i64 az, .int .i64 aC, .int .i64 aA, .int .i64 0]) ?_ 3 _ rfl; refine bM (cs := #[.int .i64 az, .int .i64 aC, .int .i64 0, .int .i64 0]) ?_ 2 _ rfl; refine bM (cs := #[.int .i64 az, .int .i64 0, .int .i64 0, .int .i64 0]) ?_ 1 _ rfl; refine bM (cs := #[.int .i64 0, .int .i64 0, .int .i64 0, .int .i64 0]) ?_ 0 _ rfl; exact mP.out) Try.underlying23 rfl (by kernel_rfl)) rfl ?_
   exact ⟨by rfl, by repeat ((with_reducible first | exact HB.out | refine iw ?_ MQ.out))⟩
  ·rw [if_neg c9] at H
   have IA : (a1 == 1) = false := beq_eq_false_iff_ne.mpr c9
   have aoM : (a1 != 1) = true := bne_iff_ne.mpr c9
   simp only [Option.some.injEq, Prod.mk.injEq] at H
   obtain ⟨rfl, rfl, rfl, rfl, rfl⟩ := H
   go_enter Try.func127, Try.ntmps127
   go_wp2_with (first | ((with_reducible refine aQ (N := 2) rfl ?_); refine aX ?hg (N := 2) ?hd (cs := #[.int .i64 az, .int .i64 aC, .int .i64 aA, .int .i64 aG]) (t := 23) ?hr ?_; (case hd => rfl); (case hg => rfl); (case hr => (go_simp; done)); intro qK hg pz hbox hb; have mi := ae.mk (hbox); have X6 := ae.mk ((by rw [hg]; exact (aY (by repeat ((with_reducible exact HB.out)))) : w.heap.size ≤ qK)); replace HB := ae.mk (aH (by repeat ((with_reducible exact HB.out))) hb); clear hb hbox hg) | ((with_reducible refine aQ (N := 4) rfl ?_); refine aX ?hg (N := 4) ?hd (cs := #[.int .i64 0, .int .i64 0, .int .i64 0, .int .i64 0]) (t := 23) ?hr ?_; (case hd => rfl); (case hg => rfl); (case hr => (go_simp; done)); intro nZ hg w16 hbox hb; have mP := ae.mk (hbox); have MQ := ae.mk ((by rw [hg]; exact (aY (by repeat ((with_reducible exact HB.out)))) : w.heap.size ≤ nZ)); have Bg := ae.mk ((by rw [hg]; exact Nat.ne_of_lt (eP mi.out) : qK ≠ nZ)); have sD := ae.mk ((by rw [hg]; exact Nat.ne_of_gt (eP mi.out) : nZ ≠ qK)); replace mi := ae.mk (aK mi.out hb); replace HB := ae.mk (aH (by repeat ((with_reducible exact HB.out))) hb); clear hb hbox hg; have ave := sD.out; have avE := Bg.out; have O0 : w16.cell? ⟨nZ, 0, none⟩ = some (.int .i64 0) := (af mP.out 0).trans rfl; have O1 : w16.cell? ⟨nZ, 1, none⟩ = some (.int .i64 0) := (af mP.out 1).trans rfl; have O3 : w16.cell? ⟨nZ, 2, none⟩ = some (.int .i64 0) := (af mP.out 2).trans rfl; have O4 : w16.cell? ⟨nZ, 3, none⟩ = some (.int .i64 0) := (af mP.out 3).trans rfl; have Pj := ag mP.out 0; have Pm := ag mP.out 1; have Pn := ag mP.out 2; have Po := ag mP.out 3))
   refine bodyPost_ret (jP rfl _ _ nZ 23 #[.int .i64 0, .int .i64 0, .int .i64 0, .int .i64 0] (0, 0) _ rfl (by refine bM (cs := #[.int .i64 0, .int .i64 0, .int .i64 0, .int .i64 0]) ?_ 3 _ rfl; refine bM (cs := #[.int .i64 0, .int .i64 0, .int .i64 0, .int .i64 0]) ?_ 2 _ rfl; refine bM (cs := #[.int .i64 0, .int .i64 0, .int .i64 0, .int .i64 0]) ?_ 1 _ rfl; refine bM (cs := #[.int .i64 0, .int .i64 0, .int .i64 0, .int .i64 0]) ?_ 0 _ rfl; exact mP.out) Try.underlying23 rfl (by kernel_rfl)) rfl ?_
   exact ⟨by rfl, by repeat ((with_reducible first | exact HB.out | refine iw ?_ MQ.out))⟩
def rE.f (az : Int) (aC : Int) (aA : Int) (aG : Int) : Option (Bool) := if az ≥ 0 then (if aA ≥ 1 then (if aA ≤ 10000 then (if az ≤ (wrap64 (10000 - aA)) then (if aC ≥ 0 then (if aG ≥ 1 then (if aG ≤ 10000 then (some (decide (aC ≤ (wrap64 (10000 - aG))))) else (some false)) else (some false)) else (some false)) else (some false)) else (some false)) else (some false)) else (some false)
theorem rE.calls (az : Int) (aC : Int) (aA : Int) (aG : Int) (r : Bool) (w : World) (h : rE.f az aC aA aG = some r) :
  Calls Try.prog 128 #[.agg #[.int .i64 az, .int .i64 aC, .int .i64 aA, .int .i64 aG]] w fun e w' => e = .returned (.bool r) ∧ Below w.heap.size w w' := by
 have EX := Try.underlying23
 have HB := ae.mk (Below.refl w.heap.size w)
 have H : (if az ≥ 0 then (if aA ≥ 1 then (if aA ≤ 10000 then (if az ≤ (wrap64 (10000 - aA)) then (if aC ≥ 0 then (if aG ≥ 1 then (if aG ≤ 10000 then (some (decide (aC ≤ (wrap64 (10000 - aG))))) else (some false)) else (some false)) else (some false)) else (some false)) else (some false)) else (some false)) else (some false)) = some r := h
 clear h
 by_cases c2 : az ≥ 0
 ·rw [if_pos c2] at H
  have Iy : decide (0 ≤ az) = true := decide_eq_true c2
  clear c2
  by_cases c3 : aA ≥ 1
  ·rw [if_pos c3] at H
   have pY : decide (1 ≤ aA) = true := decide_eq_true c3
   clear c3
   by_cases c4 : aA ≤ 10000
   ·rw [if_pos c4] at H
    have zy : decide (aA ≤ 10000) = true := decide_eq_true c4
    clear c4
    by_cases c5 : az ≤ (wrap64 (10000 - aA))
    ·rw [if_pos c5] at H
     have ET : decide (az ≤ (wrap64 (10000 - aA))) = true := decide_eq_true c5
     clear c5
     by_cases c6 : aC ≥ 0
     ·rw [if_pos c6] at H
      have wS : decide (0 ≤ aC) = true := decide_eq_true c6
      clear c6
      by_cases c7 : aG ≥ 1
      ·rw [if_pos c7] at H
       have t_ : decide (1 ≤ aG) = true := decide_eq_true c7
       clear c7
       by_cases c8 : aG ≤ 10000
       ·rw [if_pos c8] at H
        have vZ : decide (aG ≤ 10000) = true := decide_eq_true c8
        clear c8
        obtain rfl := Option.some.inj H
        go_enter Try.func128, Try.ntmps128
        go_wp2_with (((with_reducible refine aQ (N := 1) rfl ?_); refine aX ?hg (N := 1) ?hd (cs := #[.int .i64 az, .int .i64 aC, .int .i64 aA, .int .i64 aG]) (t := 23) ?hr ?_; (case hd => rfl); (case hg => rfl); (case hr => (go_simp; done)); intro jU hg w9 hbox hb; have fA := ae.mk (hbox); replace HB := ae.mk (aH (by repeat ((with_reducible exact HB.out))) hb); clear hb hbox hg; have JU : w9.cell? ⟨jU, 0, none⟩ = some (.int .i64 az) := (af fA.out 0).trans rfl; have JV : w9.cell? ⟨jU, 1, none⟩ = some (.int .i64 aC) := (af fA.out 1).trans rfl; have JW : w9.cell? ⟨jU, 2, none⟩ = some (.int .i64 aA) := (af fA.out 2).trans rfl; have JX : w9.cell? ⟨jU, 3, none⟩ = some (.int .i64 aG) := (af fA.out 3).trans rfl; have J5 := ag fA.out 0; have J6 := ag fA.out 1; have J7 := ag fA.out 2; have J8 := ag fA.out 3))
        go_ret
        exact ⟨by rfl, by repeat ((with_reducible exact HB.out))⟩
       ·rw [if_neg c8] at H
        have vZ : decide (aG ≤ 10000) = false := decide_eq_false c8
        clear c8
        obtain rfl := Option.some.inj H
        go_enter Try.func128, Try.ntmps128
        go_wp2_with (((with_reducible refine aQ (N := 1) rfl ?_); refine aX ?hg (N := 1) ?hd (cs := #[.int .i64 az, .int .i64 aC, .int .i64 aA, .int .i64 aG]) (t := 23) ?hr ?_; (case hd => rfl); (case hg => rfl); (case hr => (go_simp; done)); intro jU hg D8 hbox hb; have fA := ae.mk (hbox); replace HB := ae.mk (aH (by repeat ((with_reducible exact HB.out))) hb); clear hb hbox hg; have Wh : D8.cell? ⟨jU, 0, none⟩ = some (.int .i64 az) := (af fA.out 0).trans rfl; have Wi : D8.cell? ⟨jU, 1, none⟩ = some (.int .i64 aC) := (af fA.out 1).trans rfl; have Wj : D8.cell? ⟨jU, 2, none⟩ = some (.int .i64 aA) := (af fA.out 2).trans rfl; have Wl : D8.cell? ⟨jU, 3, none⟩ = some (.int .i64 aG) := (af fA.out 3).trans rfl; have WR := ag fA.out 0; have WS := ag fA.out 1; have WT := ag fA.out 2; have WU := ag fA.out 3))
        go_ret
        exact ⟨by rfl, by repeat ((with_reducible exact HB.out))⟩
      ·rw [if_neg c7] at H
       have t_ : decide (1 ≤ aG) = false := decide_eq_false c7
       clear c7
       obtain rfl := Option.some.inj H
       go_enter Try.func128, Try.ntmps128
       go_wp2_with (((with_reducible refine aQ (N := 1) rfl ?_); refine aX ?hg (N := 1) ?hd (cs := #[.int .i64 az, .int .i64 aC, .int .i64 aA, .int .i64 aG]) (t := 23) ?hr ?_; (case hd => rfl); (case hg => rfl); (case hr => (go_simp; done)); intro jU hg qI hbox hb; have fA := ae.mk (hbox); replace HB := ae.mk (aH (by repeat ((with_reducible exact HB.out))) hb); clear hb hbox hg; have JY : qI.cell? ⟨jU, 0, none⟩ = some (.int .i64 az) := (af fA.out 0).trans rfl; have JZ : qI.cell? ⟨jU, 1, none⟩ = some (.int .i64 aC) := (af fA.out 1).trans rfl; have J3 : qI.cell? ⟨jU, 2, none⟩ = some (.int .i64 aA) := (af fA.out 2).trans rfl; have J4 : qI.cell? ⟨jU, 3, none⟩ = some (.int .i64 aG) := (af fA.out 3).trans rfl; have J9 := ag fA.out 0; have J_ := ag fA.out 1; have Ko := ag fA.out 2; have Kq := ag fA.out 3))
       go_ret
       exact ⟨by rfl, by repeat ((with_reducible exact HB.out))⟩
     ·rw [if_neg c6] at H
      have wS : decide (0 ≤ aC) = false := decide_eq_false c6
      clear c6
      obtain rfl := Option.some.inj H
      go_enter Try.func128, Try.ntmps128
      go_wp2_with (((with_reducible refine aQ (N := 1) rfl ?_); refine aX ?hg (N := 1) ?hd (cs := #[.int .i64 az, .int .i64 aC, .int .i64 aA, .int .i64 aG]) (t := 23) ?hr ?_; (case hd => rfl); (case hg => rfl); (case hr => (go_simp; done)); intro jU hg pz hbox hb; have fA := ae.mk (hbox); replace HB := ae.mk (aH (by repeat ((with_reducible exact HB.out))) hb); clear hb hbox hg; have FP : pz.cell? ⟨jU, 0, none⟩ = some (.int .i64 az) := (af fA.out 0).trans rfl; have FQ : pz.cell? ⟨jU, 1, none⟩ = some (.int .i64 aC) := (af fA.out 1).trans rfl; have FT : pz.cell? ⟨jU, 2, none⟩ = some (.int .i64 aA) := (af fA.out 2).trans rfl; have FU : pz.cell? ⟨jU, 3, none⟩ = some (.int .i64 aG) := (af fA.out 3).trans rfl; have FY := ag fA.out 0; have FZ := ag fA.out 1; have F5 := ag fA.out 2; have F6 := ag fA.out 3))
      go_ret
      exact ⟨by rfl, by repeat ((with_reducible exact HB.out))⟩
    ·rw [if_neg c5] at H
     have ET : decide (az ≤ (wrap64 (10000 - aA))) = false := decide_eq_false c5
     clear c5
     obtain rfl := Option.some.inj H
     go_enter Try.func128, Try.ntmps128
     go_wp2_with (((with_reducible refine aQ (N := 1) rfl ?_); refine aX ?hg (N := 1) ?hd (cs := #[.int .i64 az, .int .i64 aC, .int .i64 aA, .int .i64 aG]) (t := 23) ?hr ?_; (case hd => rfl); (case hg => rfl); (case hr => (go_simp; done)); intro jU hg Rj hbox hb; have fA := ae.mk (hbox); replace HB := ae.mk (aH (by repeat ((with_reducible exact HB.out))) hb); clear hb hbox hg; have O0 : Rj.cell? ⟨jU, 0, none⟩ = some (.int .i64 az) := (af fA.out 0).trans rfl; have O1 : Rj.cell? ⟨jU, 1, none⟩ = some (.int .i64 aC) := (af fA.out 1).trans rfl; have O3 : Rj.cell? ⟨jU, 2, none⟩ = some (.int .i64 aA) := (af fA.out 2).trans rfl; have O4 : Rj.cell? ⟨jU, 3, none⟩ = some (.int .i64 aG) := (af fA.out 3).trans rfl; have Pj := ag fA.out 0; have Pm := ag fA.out 1; have Pn := ag fA.out 2; have Po := ag fA.out 3))
     go_ret
     exact ⟨by rfl, by repeat ((with_reducible exact HB.out))⟩
   ·rw [if_neg c4] at H
    have zy : decide (aA ≤ 10000) = false := decide_eq_false c4
    clear c4
    obtain rfl := Option.some.inj H
    go_enter Try.func128, Try.ntmps128
    go_wp2_with (((with_reducible refine aQ (N := 1) rfl ?_); refine aX ?hg (N := 1) ?hd (cs := #[.int .i64 az, .int .i64 aC, .int .i64 aA, .int .i64 aG]) (t := 23) ?hr ?_; (case hd => rfl); (case hg => rfl); (case hr => (go_simp; done)); intro jU hg GL hbox hb; have fA := ae.mk (hbox); replace HB := ae.mk (aH (by repeat ((with_reducible exact HB.out))) hb); clear hb hbox hg; have agq : GL.cell? ⟨jU, 0, none⟩ = some (.int .i64 az) := (af fA.out 0).trans rfl; have agr : GL.cell? ⟨jU, 1, none⟩ = some (.int .i64 aC) := (af fA.out 1).trans rfl; have ags : GL.cell? ⟨jU, 2, none⟩ = some (.int .i64 aA) := (af fA.out 2).trans rfl; have agt : GL.cell? ⟨jU, 3, none⟩ = some (.int .i64 aG) := (af fA.out 3).trans rfl; have ahd := ag fA.out 0; have ahe := ag fA.out 1; have ahf := ag fA.out 2; have ahg := ag fA.out 3))
    go_ret
    exact ⟨by rfl, by repeat ((with_reducible exact HB.out))⟩
  ·rw [if_neg c3] at H
   have pY : decide (1 ≤ aA) = false := decide_eq_false c3
   clear c3
   obtain rfl := Option.some.inj H
   go_enter Try.func128, Try.ntmps128
   go_wp2_with (((with_reducible refine aQ (N := 1) rfl ?_); refine aX ?hg (N := 1) ?hd (cs := #[.int .i64 az, .int .i64 aC, .int .i64 aA, .int .i64 aG]) (t := 23) ?hr ?_; (case hd => rfl); (case hg => rfl); (case hr => (go_simp; done)); intro jU hg KX hbox hb; have fA := ae.mk (hbox); replace HB := ae.mk (aH (by repeat ((with_reducible exact HB.out))) hb); clear hb hbox hg; have O5 : KX.cell? ⟨jU, 0, none⟩ = some (.int .i64 az) := (af fA.out 0).trans rfl; have O6 : KX.cell? ⟨jU, 1, none⟩ = some (.int .i64 aC) := (af fA.out 1).trans rfl; have O7 : KX.cell? ⟨jU, 2, none⟩ = some (.int .i64 aA) := (af fA.out 2).trans rfl; have O8 : KX.cell? ⟨jU, 3, none⟩ = some (.int .i64 aG) := (af fA.out 3).trans rfl; have Pq := ag fA.out 0; have Pv := ag fA.out 1; have Px := ag fA.out 2; have Py := ag fA.out 3))
   go_ret
   exact ⟨by rfl, by repeat ((with_reducible exact HB.out))⟩
 ·rw [if_neg c2] at H
  have Iy : decide (0 ≤ az) = false := decide_eq_false c2
  clear c2
  obtain rfl := Option.some.inj H
  go_enter Try.func128, Try.ntmps128
  go_wp2_with (((with_reducible refine aQ (N := 1) rfl ?_); refine aX ?hg (N := 1) ?hd (cs := #[.int .i64 az, .int .i64 aC, .int .i64 aA, .int .i64 aG]) (t := 23) ?hr ?_; (case hd => rfl); (case hg => rfl); (case hr => (go_simp; done)); intro jU hg JG hbox hb; have fA := ae.mk (hbox); replace HB := ae.mk (aH (by repeat ((with_reducible exact HB.out))) hb); clear hb hbox hg; have O9 : JG.cell? ⟨jU, 0, none⟩ = some (.int .i64 az) := (af fA.out 0).trans rfl; have O_ : JG.cell? ⟨jU, 1, none⟩ = some (.int .i64 aC) := (af fA.out 1).trans rfl; have Pg : JG.cell? ⟨jU, 2, none⟩ = some (.int .i64 aA) := (af fA.out 2).trans rfl; have Ph : JG.cell? ⟨jU, 3, none⟩ = some (.int .i64 aG) := (af fA.out 3).trans rfl; have Pz := ag fA.out 0; have PD := ag fA.out 1; have PE := ag fA.out 2; have PG := ag fA.out 3))
  go_ret
  exact ⟨by rfl, by repeat ((with_reducible exact HB.out))⟩
mutual
def bW.j0 : Nat → Int → List Int → Bool → Int → Int → Int → Int → Option ((List (bC)) × (List (bC)) × Bool)
 | 0, _, _, _, _, _, _, _ => none
 | k + 1, x1, x2, xZ, zg, AO, AP, AQ => if xZ = true then (some (([] : List (bC)), ([] : List (bC)), false)) else (bW.l0 k x1 ([] : List (bC)) ([] : List (bC)) zg x2 (x2.length : Int) 0 zg AO AP AQ)
def bW.l0 : Nat → Int → List (bC) → List (bC) → Int → List Int → Int → Int → Int → Int → Int → Int → Option ((List (bC)) × (List (bC)) × Bool)
 | 0, _, _, _, _, _, _, _, _, _, _, _ => none
 | k + 1, x1, x11, x12, ny, x40, x41, EN, zg, AO, AP, AQ => if EN < x41 then (if 0 ≤ EN then (if EN < (x40.length : Int) then (if EN > 0 then ((jR.f ny AO 1 AQ x1).bind fun RP => (if x12.length < 4398046511104 then (if (rd x40 EN) < 1 then (some (([] : List (bC)), ([] : List (bC)), false)) else (if (rd x40 EN) > (wrap64 ((wrap64 (zg + AP)) - (wrap64 (ny + 1)))) then (some (([] : List (bC)), ([] : List (bC)), false)) else ((jR.f (wrap64 (ny + 1)) AO (rd x40 EN) AQ x1).bind fun wF => (if x11.length < 4398046511104 then (bW.l0 k x1 (x11 ++ [(⟨wF.1, wF.2.1, wF.2.2.1, wF.2.2.2.1⟩ : bC)]) (x12 ++ [(⟨RP.1, RP.2.1, RP.2.2.1, RP.2.2.2.1⟩ : bC)]) (wrap64 ((wrap64 (ny + 1)) + (rd x40 EN))) x40 x41 (wrap64 (EN + 1)) zg AO AP AQ) else (none))))) else (none))) else (if (rd x40 EN) < 1 then (some (([] : List (bC)), ([] : List (bC)), false)) else (if (rd x40 EN) > (wrap64 ((wrap64 (zg + AP)) - ny)) then (some (([] : List (bC)), ([] : List (bC)), false)) else ((jR.f ny AO (rd x40 EN) AQ x1).bind fun RQ => (if x11.length < 4398046511104 then (bW.l0 k x1 (x11 ++ [(⟨RQ.1, RQ.2.1, RQ.2.2.1, RQ.2.2.2.1⟩ : bC)]) x12 (wrap64 (ny + (rd x40 EN))) x40 x41 (wrap64 (EN + 1)) zg AO AP AQ) else (none)))))) else (none)) else (none)) else (if ny = (wrap64 (zg + AP)) then (some (x11, x12, true)) else (some (([] : List (bC)), ([] : List (bC)), false)))
end
def bW.f (k : Nat) (az : Int) (aC : Int) (aA : Int) (aG : Int) (a1 : Int) (l2 : List Int) : Option ((List (bC)) × (List (bC)) × Bool) := (jR.f az aC aA aG a1).bind fun nJ => (if nJ.2.2.2.2 = true then ((rE.f az aC aA aG).bind fun EZ => (if EZ = true then (bW.j0 k a1 l2 ((l2.length : Int) == 0) nJ.1 nJ.2.1 nJ.2.2.1 nJ.2.2.2.1) else (bW.j0 k a1 l2 true nJ.1 nJ.2.1 nJ.2.2.1 nJ.2.2.2.1))) else (bW.j0 k a1 l2 true nJ.1 nJ.2.1 nJ.2.2.1 nJ.2.2.2.1))
theorem bW.wZ : ∀ k, (∀ y0 y1 y2 y3 y4 y5 y6, jC (bW.j0 k y0 y1 y2 y3 y4 y5 y6) (bW.j0 (k + 1) y0 y1 y2 y3 y4 y5 y6)) ∧ (∀ y0 y1 y2 y3 y4 y5 y6 y7 y8 y9 y10, jC (bW.l0 k y0 y1 y2 y3 y4 y5 y6 y7 y8 y9 y10) (bW.l0 (k + 1) y0 y1 y2 y3 y4 y5 y6 y7 y8 y9 y10))
 | 0 => ⟨fun _ _ _ _ _ _ _ r h => by simp [bW.j0] at h, fun _ _ _ _ _ _ _ _ _ _ _ r h => by simp [bW.l0] at h⟩
 | k + 1 => by
  obtain ⟨EC, ih1⟩ := bW.wZ k
  refine ⟨?_, ?_⟩
  ·intro y0 y1 y2 y3 y4 y5 y6
   unfold bW.j0
   repeat' first | (with_reducible exact ih1 _ _ _ _ _ _ _ _ _ _ _) | (with_reducible exact jC.refl _) | (with_reducible refine jC.ite ?_ ?_)
  ·intro y0 y1 y2 y3 y4 y5 y6 y7 y8 y9 y10
   unfold bW.l0
   repeat' first | (with_reducible exact ih1 _ _ _ _ _ _ _ _ _ _ _) | (with_reducible exact jC.refl _) | (with_reducible refine jC.ite ?_ ?_) | (with_reducible refine jC.bind ?_ (fun _ => ?_))
theorem bW.mono : ∀ a0 a1 a2 a3 a4 a5 k, jC (bW.f k a0 a1 a2 a3 a4 a5) (bW.f (k + 1) a0 a1 a2 a3 a4 a5) := by
 intro a0 a1 a2 a3 a4 a5 k
 obtain ⟨EC, ih1⟩ := bW.wZ k
 unfold bW.f
 repeat' first | (with_reducible exact EC _ _ _ _ _ _ _) | (with_reducible exact jC.refl _) | (with_reducible refine jC.ite ?_ ?_) | (with_reducible refine jC.bind ?_ (fun _ => ?_))
theorem bW.calls (k : Nat) (az : Int) (aC : Int) (aA : Int) (aG : Int) (a1 : Int) (A2 : Option Addr) (c2 : Nat) (l2 : List Int) (r1 : List (bC)) (r2 : List (bC)) (r3 : Bool) (w : World) (hr2 : Kd.C (Kd.int .i64) w A2 l2.length l2) (hc2 : l2.length ≤ c2) (h : bW.f k az aC aA aG a1 l2 = some (r1, r2, r3)) :
  Calls Try.prog 45 #[.agg #[.int .i64 az, .int .i64 aC, .int .i64 aA, .int .i64 aG], .int .u8 a1, .slice A2 l2.length c2] w fun e w' => ∃ ng KU : Value, e = .returned (.tuple #[ng, KU, .bool r3]) ∧ Kd.R k23 23 w' w.heap.size (fun k_ => some k_ ≠ (KU : Value).ownBlock) ng r1 ∧ Kd.R k23 23 w' w.heap.size (fun k_ => some k_ ≠ (ng : Value).ownBlock) KU r2 ∧ Below w.heap.size w w' := by
 have EX := Try.underlying23
 have HR2 := ae.mk hr2
 clear hr2 hc2
 have HB := ae.mk (Below.refl w.heap.size w)
 have H : ((jR.f az aC aA aG a1).bind fun nJ => (if nJ.2.2.2.2 = true then ((rE.f az aC aA aG).bind fun EZ => (if EZ = true then (bW.j0 k a1 l2 ((l2.length : Int) == 0) nJ.1 nJ.2.1 nJ.2.2.1 nJ.2.2.2.1) else (bW.j0 k a1 l2 true nJ.1 nJ.2.1 nJ.2.2.1 nJ.2.2.2.1))) else (bW.j0 k a1 l2 true nJ.1 nJ.2.1 nJ.2.2.1 nJ.2.2.2.1))) = some (r1, r2, r3) := h
 clear h
 replace H := Option.bind_eq_some_iff.mp H
 obtain ⟨⟨iD, iY, ja, jl, adW⟩, ZU, H⟩ := H
 replace H : (if adW = true then ((rE.f az aC aA aG).bind fun EZ => (if EZ = true then (bW.j0 k a1 l2 ((l2.length : Int) == 0) iD iY ja jl) else (bW.j0 k a1 l2 true iD iY ja jl))) else (bW.j0 k a1 l2 true iD iY ja jl)) = some (r1, r2, r3) := H
 have A4 := ae.mk ZU
 clear ZU
 have HC5 := ae.mk H
 clear H
 go_enter Try.func45, Try.ntmps45
 go_upto_region 2 with (first | ((with_reducible refine aQ (N := 3) rfl ?_); (try (refine eQ (by rfl) ?_; dsimp only)); refine aX ?hg (N := 3) ?hd (cs := #[.int .i64 az, .int .i64 aC, .int .i64 aA, .int .i64 aG]) (t := 23) ?hr ?_; (case hd => rfl); (case hg => rfl); (case hr => (go_simp; done)); intro iV hg w6 hbox hb; have dP := ae.mk (hbox); replace HB := ae.mk (aH (by repeat ((with_reducible exact HB.out))) hb); clear hb hbox hg; have Dj : w6.cell? ⟨iV, 0, none⟩ = some (.int .i64 az) := (af dP.out 0).trans rfl; have Dk : w6.cell? ⟨iV, 1, none⟩ = some (.int .i64 aC) := (af dP.out 1).trans rfl; have Dl : w6.cell? ⟨iV, 2, none⟩ = some (.int .i64 aA) := (af dP.out 2).trans rfl; have Dn : w6.cell? ⟨iV, 3, none⟩ = some (.int .i64 aG) := (af dP.out 3).trans rfl; have Dq := ag dP.out 0; have Dt := ag dP.out 1; have Du := ag dP.out 2; have Dv := ag dP.out 3) | ((with_reducible refine dn (f := 127) rfl ?_); refine gu (some 23) rfl rfl Try.func127 (by kernel_rfl) rfl #[.agg #[.int .i64 az, .int .i64 aC, .int .i64 aA, .int .i64 aG], .int .u8 a1] rfl (by (try simp only [List.map_toArray, List.map_cons, List.map_nil]); rfl) ?_; (with_reducible refine (jR.calls az aC aA aG a1 iD iY ja jl adW _ A4.out).mono ?_); rintro e w8 ⟨rfl, hb⟩; refine ⟨_, rfl, ?_⟩; replace dP := ae.mk (aK dP.out hb); replace HB := ae.mk (aH (by repeat ((with_reducible exact HB.out))) hb); (try clear hb)) | ((with_reducible refine aQ (N := 9) rfl ?_); (try (refine eQ (by rfl) ?_; dsimp only)); refine aX ?hg (N := 9) ?hd (cs := #[.int .i64 0, .int .i64 0, .int .i64 0, .int .i64 0]) (t := 23) ?hr ?_; (case hd => rfl); (case hg => rfl); (case hr => (go_simp; done)); intro dU hg w9 hbox hb; have bG := ae.mk (hbox); have X7 := ae.mk ((by rw [hg]; exact (aY (by repeat ((with_reducible exact HB.out)))) : w.heap.size ≤ dU)); have jD := ae.mk ((by rw [hg]; exact Nat.ne_of_lt (eP dP.out) : iV ≠ dU)); have ql := ae.mk ((by rw [hg]; exact Nat.ne_of_gt (eP dP.out) : dU ≠ iV)); replace dP := ae.mk (aK dP.out hb); replace HB := ae.mk (aH (by repeat ((with_reducible exact HB.out))) hb); clear hb hbox hg; have anG := ql.out; have anH := jD.out; have yJ : w9.cell? ⟨dU, 0, none⟩ = some (.int .i64 0) := (af bG.out 0).trans rfl; have yK : w9.cell? ⟨dU, 1, none⟩ = some (.int .i64 0) := (af bG.out 1).trans rfl; have yL : w9.cell? ⟨dU, 2, none⟩ = some (.int .i64 0) := (af bG.out 2).trans rfl; have yM : w9.cell? ⟨dU, 3, none⟩ = some (.int .i64 0) := (af bG.out 3).trans rfl; have yO := ag bG.out 0; have yP := ag bG.out 1; have yQ := ag bG.out 2; have yR := ag bG.out 3))
 (skip)
 go_cut [37] (fun v37 wc => ∃ (kq : Nat) (SA : Bool), v37 = .bool SA ∧ ae (bW.j0 kq a1 l2 SA iD iY ja jl = some (r1, r2, r3)) ∧ ae (kq ≤ k) ∧ ae (wc.heap[iV]? = some (.cells #[.int .i64 az, .int .i64 aC, .int .i64 aA, .int .i64 aG] 23 (0, 0))) ∧ ae (wc.heap[dU]? = some (.cells #[.int .i64 iD, .int .i64 iY, .int .i64 ja, .int .i64 jl] 23 (0, 0))) ∧ ae (Below w.heap.size w wc))
 case first =>
  have H := HC5.out
  clear HC5
  by_cases c12 : adW = true
  ·subst c12
   have H1 : ((rE.f az aC aA aG).bind fun EZ => (if EZ = true then (bW.j0 k a1 l2 ((l2.length : Int) == 0) iD iY ja jl) else (bW.j0 k a1 l2 true iD iY ja jl))) = some (r1, r2, r3) := by rw [if_pos rfl] at H; exact H
   clear H
   have H := H1
   clear H1
   replace H := Option.bind_eq_some_iff.mp H
   obtain ⟨EZ, aiW, H⟩ := H
   replace H : (if EZ = true then (bW.j0 k a1 l2 ((l2.length : Int) == 0) iD iY ja jl) else (bW.j0 k a1 l2 true iD iY ja jl)) = some (r1, r2, r3) := H
   have A13 := ae.mk aiW
   clear aiW
   by_cases c14 : EZ = true
   ·subst c14
    have H1 : (bW.j0 k a1 l2 ((l2.length : Int) == 0) iD iY ja jl) = some (r1, r2, r3) := by rw [if_pos rfl] at H; exact H
    clear H
    have H := H1
    clear H1
    have H' := ae.mk H
    clear H
    have avc := jD.out
    have avC := ql.out
    have FP : w9.cell? ⟨iV, 0, none⟩ = some (.int .i64 az) := (af dP.out 0).trans rfl
    have FQ : w9.cell? ⟨iV, 1, none⟩ = some (.int .i64 aC) := (af dP.out 1).trans rfl
    have FT : w9.cell? ⟨iV, 2, none⟩ = some (.int .i64 aA) := (af dP.out 2).trans rfl
    have FU : w9.cell? ⟨iV, 3, none⟩ = some (.int .i64 aG) := (af dP.out 3).trans rfl
    have FY := ag dP.out 0
    have FZ := ag dP.out 1
    have F5 := ag dP.out 2
    have F6 := ag dP.out 3
    go_wp2_with ((go_at_call 128; (with_reducible refine (rE.calls az aC aA aG true _ A13.out).mono ?_); rintro e Rj ⟨rfl, hb⟩; replace dP := ae.mk (aK (g := iV) (o := .cells #[.int .i64 az, .int .i64 aC, .int .i64 aA, .int .i64 aG] 23 (0, 0)) (by refine bz ?_ jD.out _; refine bz ?_ jD.out _; refine bz ?_ jD.out _; refine bz ?_ jD.out _; exact dP.out) hb); replace bG := ae.mk (aK (g := dU) (o := .cells #[.int .i64 iD, .int .i64 iY, .int .i64 ja, .int .i64 jl] 23 (0, 0)) (by refine bM (cs := #[.int .i64 iD, .int .i64 iY, .int .i64 ja, .int .i64 0]) ?_ 3 _ rfl; refine bM (cs := #[.int .i64 iD, .int .i64 iY, .int .i64 0, .int .i64 0]) ?_ 2 _ rfl; refine bM (cs := #[.int .i64 iD, .int .i64 0, .int .i64 0, .int .i64 0]) ?_ 1 _ rfl; refine bM (cs := #[.int .i64 0, .int .i64 0, .int .i64 0, .int .i64 0]) ?_ 0 _ rfl; exact bG.out) hb); replace HB := ae.mk (aH (by repeat ((with_reducible first | exact HB.out | refine iw ?_ X7.out))) hb); (try clear hb)))
    go_meet
    case rel => exact ⟨_, (((l2.length : Int) == 0)), (by rfl), H', ⟨by omega⟩, ⟨by exact dP.out⟩, ⟨by exact bG.out⟩, ⟨by repeat ((with_reducible exact HB.out))⟩⟩
   ·replace c14 := Bool.eq_false_iff.mpr c14
    subst c14
    have H1 : (bW.j0 k a1 l2 true iD iY ja jl) = some (r1, r2, r3) := by rw [if_neg (show ¬ (false = true) by decide)] at H; exact H
    clear H
    have H := H1
    clear H1
    have H' := ae.mk H
    clear H
    have avf := jD.out
    have avF := ql.out
    have Ws : w9.cell? ⟨iV, 0, none⟩ = some (.int .i64 az) := (af dP.out 0).trans rfl
    have Wu : w9.cell? ⟨iV, 1, none⟩ = some (.int .i64 aC) := (af dP.out 1).trans rfl
    have Wv : w9.cell? ⟨iV, 2, none⟩ = some (.int .i64 aA) := (af dP.out 2).trans rfl
    have Wx : w9.cell? ⟨iV, 3, none⟩ = some (.int .i64 aG) := (af dP.out 3).trans rfl
    have WY := ag dP.out 0
    have WZ := ag dP.out 1
    have W9 := ag dP.out 2
    have W_ := ag dP.out 3
    go_wp2_with ((go_at_call 128; (with_reducible refine (rE.calls az aC aA aG false _ A13.out).mono ?_); rintro e JF ⟨rfl, hb⟩; replace dP := ae.mk (aK (g := iV) (o := .cells #[.int .i64 az, .int .i64 aC, .int .i64 aA, .int .i64 aG] 23 (0, 0)) (by refine bz ?_ jD.out _; refine bz ?_ jD.out _; refine bz ?_ jD.out _; refine bz ?_ jD.out _; exact dP.out) hb); replace bG := ae.mk (aK (g := dU) (o := .cells #[.int .i64 iD, .int .i64 iY, .int .i64 ja, .int .i64 jl] 23 (0, 0)) (by refine bM (cs := #[.int .i64 iD, .int .i64 iY, .int .i64 ja, .int .i64 0]) ?_ 3 _ rfl; refine bM (cs := #[.int .i64 iD, .int .i64 iY, .int .i64 0, .int .i64 0]) ?_ 2 _ rfl; refine bM (cs := #[.int .i64 iD, .int .i64 0, .int .i64 0, .int .i64 0]) ?_ 1 _ rfl; refine bM (cs := #[.int .i64 0, .int .i64 0, .int .i64 0, .int .i64 0]) ?_ 0 _ rfl; exact bG.out) hb); replace HB := ae.mk (aH (by repeat ((with_reducible first | exact HB.out | refine iw ?_ X7.out))) hb); (try clear hb)))
    go_meet
    case rel => exact ⟨_, (true), (by rfl), H', ⟨by omega⟩, ⟨by exact dP.out⟩, ⟨by exact bG.out⟩, ⟨by repeat ((with_reducible exact HB.out))⟩⟩
  ·replace c12 := Bool.eq_false_iff.mpr c12
   subst c12
   have H1 : (bW.j0 k a1 l2 true iD iY ja jl) = some (r1, r2, r3) := by rw [if_neg (show ¬ (false = true) by decide)] at H; exact H
   clear H
   have H := H1
   clear H1
   have H' := ae.mk H
   clear H
   go_wp2
   go_meet
   case rel => exact ⟨_, (true), (by rfl), H', ⟨by omega⟩, ⟨by refine bz ?_ jD.out _; refine bz ?_ jD.out _; refine bz ?_ jD.out _; refine bz ?_ jD.out _; exact dP.out⟩, ⟨by refine bM (cs := #[.int .i64 iD, .int .i64 iY, .int .i64 ja, .int .i64 0]) ?_ 3 _ rfl; refine bM (cs := #[.int .i64 iD, .int .i64 iY, .int .i64 0, .int .i64 0]) ?_ 2 _ rfl; refine bM (cs := #[.int .i64 iD, .int .i64 0, .int .i64 0, .int .i64 0]) ?_ 1 _ rfl; refine bM (cs := #[.int .i64 0, .int .i64 0, .int .i64 0, .int .i64 0]) ?_ 0 _ rfl; exact bG.out⟩, ⟨by repeat ((with_reducible first | exact HB.out | refine iw ?_ X7.out))⟩⟩
 case rest =>
  clear HC5
  clear yJ yK yL yM Dj Dk Dl Dn yO yP yQ yR Dq Dt Du Dv
  obtain ⟨kq, SA, rfl, HA, HJ4, dP, bG, HB⟩ := hcut
  cases kq with
  | zero => exact absurd HA.out (by simp [bW.j0])
  | succ kj4 =>
   have H := HA.out
   clear HA
   simp only [bW.j0] at H
   by_cases c21 : SA = true
   ·subst c21
    have H1 : (some (([] : List (bC)), ([] : List (bC)), false)) = some (r1, r2, r3) := by rw [if_pos rfl] at H; exact H
    clear H
    have H := H1
    clear H1
    simp only [Option.some.injEq, Prod.mk.injEq] at H
    obtain ⟨rfl, rfl, rfl⟩ := H
    go_wp2
    go_ret3
    exact ⟨_, _, by rfl, by exact Kd.nI _ _ _ _ _, by exact Kd.nI _ _ _ _ _, by repeat ((with_reducible exact HB.out))⟩
   ·replace c21 := Bool.eq_false_iff.mpr c21
    subst c21
    have H1 : (bW.l0 kj4 a1 ([] : List (bC)) ([] : List (bC)) iD l2 (l2.length : Int) 0 iD iY ja jl) = some (r1, r2, r3) := by rw [if_neg (show ¬ (false = true) by decide)] at H; exact H
    clear H
    have H := H1
    clear H1
    have H' := ae.mk H
    clear H
    have avg := ql.out
    have avG := jD.out
    have agu : wc.cell? ⟨dU, 0, none⟩ = some (.int .i64 iD) := (af bG.out 0).trans rfl
    have agv : wc.cell? ⟨dU, 1, none⟩ = some (.int .i64 iY) := (af bG.out 1).trans rfl
    have agw : wc.cell? ⟨dU, 2, none⟩ = some (.int .i64 ja) := (af bG.out 2).trans rfl
    have agx : wc.cell? ⟨dU, 3, none⟩ = some (.int .i64 jl) := (af bG.out 3).trans rfl
    have ahh := ag bG.out 0
    have ahi := ag bG.out 1
    have ahj := ag bG.out 2
    have ahk := ag bG.out 3
    go_wp2
    go_loopg [11, 12, 13, 42] kj4 (fun kq v11 v12 v13 v42 w' => ∃ (tJ : List (bC)) (xI : List (bC)) (jQ : Int) (fG : Int), v13 = .int .i64 jQ ∧ v42 = .int .i64 fG ∧ ae (bW.l0 kq a1 tJ xI jQ l2 (l2.length : Int) fG iD iY ja jl = some (r1, r2, r3)) ∧ ae (kq ≤ kj4) ∧ ae (Kd.R k23 23 w' w.heap.size (fun k_ => some k_ ≠ (v12 : Value).ownBlock ∧ k_ ≠ iV ∧ k_ ≠ dU) v11 tJ) ∧ ae (Kd.R k23 23 w' w.heap.size (fun k_ => some k_ ≠ (v11 : Value).ownBlock ∧ k_ ≠ iV ∧ k_ ≠ dU) v12 xI) ∧ ae (w'.heap[iV]? = some (.cells #[.int .i64 az, .int .i64 aC, .int .i64 aA, .int .i64 aG] 23 (0, 0))) ∧ ae (w'.heap[dU]? = some (.cells #[.int .i64 iD, .int .i64 iY, .int .i64 ja, .int .i64 jl] 23 (0, 0))) ∧ ae (Below w.heap.size w w'))
    case atStart => exact ⟨(([] : List (bC))), (([] : List (bC))), (iD), (0), (by rfl), (by rfl), H', ⟨Nat.le_refl _⟩, ⟨by exact Kd.nI _ _ _ _ _⟩, ⟨by exact Kd.nI _ _ _ _ _⟩, ⟨by exact dP.out⟩, ⟨by exact bG.out⟩, ⟨by repeat ((with_reducible exact HB.out))⟩⟩
    case round =>
     clear H'
     clear agu agv agw agx ahh ahi ahj ahk
     obtain ⟨tJ, xI, jQ, fG, rfl, rfl, HA, v_, fE, fP, dP, bG, HB⟩ := hrel
     cases gk with
     | zero => exact absurd HA.out (by simp [bW.l0])
     | succ k2 =>
      have H := HA.out
      clear HA
      simp only [bW.l0] at H
      by_cases c24 : fG < (l2.length : Int)
      ·rw [if_pos c24] at H
       have Yv : decide (fG < (l2.length : Int)) = true := decide_eq_true c24
       clear c24
       by_cases c25 : 0 ≤ fG
       ·rw [if_pos c25] at H
        have auT : decide (0 ≤ fG) = true := decide_eq_true c25
        clear c25
        by_cases c26 : fG < (l2.length : Int)
        ·rw [if_pos c26] at H
         have auU : decide (fG < (l2.length : Int)) = true := decide_eq_true c26
         clear c26
         by_cases VV : fG > 0
         ·rw [if_pos VV] at H
          have anb : decide (0 < fG) = true := decide_eq_true VV
          clear VV
          replace H := Option.bind_eq_some_iff.mp H
          obtain ⟨⟨jZ, kZ, mM, oQ, adX⟩, ai2, H⟩ := H
          replace H : (if xI.length < 4398046511104 then (if (rd l2 fG) < 1 then (some (([] : List (bC)), ([] : List (bC)), false)) else (if (rd l2 fG) > (wrap64 ((wrap64 (iD + ja)) - (wrap64 (jQ + 1)))) then (some (([] : List (bC)), ([] : List (bC)), false)) else ((jR.f (wrap64 (jQ + 1)) iY (rd l2 fG) jl a1).bind fun wF => (if tJ.length < 4398046511104 then (bW.l0 k2 a1 (tJ ++ [(⟨wF.1, wF.2.1, wF.2.2.1, wF.2.2.2.1⟩ : bC)]) (xI ++ [(⟨jZ, kZ, mM, oQ⟩ : bC)]) (wrap64 ((wrap64 (jQ + 1)) + (rd l2 fG))) l2 (l2.length : Int) (wrap64 (fG + 1)) iD iY ja jl) else (none))))) else (none)) = some (r1, r2, r3) := H
          have A28 := ae.mk ai2
          clear ai2
          by_cases c29 : xI.length < 4398046511104
          ·rw [if_pos c29] at H
           have Yg := ae.mk c29
           clear c29
           obtain ⟨ZP, YW⟩ : ∃ y_ : List (bC), y_ = (xI ++ [(⟨jZ, kZ, mM, oQ⟩ : bC)]) := ⟨_, rfl⟩
           replace H : (if (rd l2 fG) < 1 then (some (([] : List (bC)), ([] : List (bC)), false)) else (if (rd l2 fG) > (wrap64 ((wrap64 (iD + ja)) - (wrap64 (jQ + 1)))) then (some (([] : List (bC)), ([] : List (bC)), false)) else ((jR.f (wrap64 (jQ + 1)) iY (rd l2 fG) jl a1).bind fun wF => (if tJ.length < 4398046511104 then (bW.l0 k2 a1 (tJ ++ [(⟨wF.1, wF.2.1, wF.2.2.1, wF.2.2.2.1⟩ : bC)]) ZP (wrap64 ((wrap64 (jQ + 1)) + (rd l2 fG))) l2 (l2.length : Int) (wrap64 (fG + 1)) iD iY ja jl) else (none))))) = some (r1, r2, r3) := by (rw [YW]; with_reducible exact H)
           have Yh := ae.mk YW
           clear YW
           by_cases TC : (rd l2 fG) < 1
           ·rw [if_pos TC] at H
            have anc : decide ((rd l2 fG) < 1) = true := decide_eq_true TC
            clear TC
            simp only [Option.some.injEq, Prod.mk.injEq] at H
            obtain ⟨rfl, rfl, rfl⟩ := H
            have ru : 0 ≤ (fG : Int) := of_decide_eq_true (by (with_reducible assumption))
            have ry : fG < (l2.length : Int) := of_decide_eq_true (by (with_reducible assumption))
            obtain ⟨Nl, e254, lL⟩ := Kd.iU HR2.out fG ru ry
            cases e254
            replace lL := (HB.out.cell (World.block_lt_of_cell? w _ lL)).trans lL
            replace ru := eq_true ru
            replace ry := eq_true ry
            have avh := ql.out
            have avH := jD.out
            have ap9 : wr.cell? ⟨dU, 0, none⟩ = some (.int .i64 iD) := (af bG.out 0).trans rfl
            have ap_ : wr.cell? ⟨dU, 1, none⟩ = some (.int .i64 iY) := (af bG.out 1).trans rfl
            have ap' : wr.cell? ⟨dU, 2, none⟩ = some (.int .i64 ja) := (af bG.out 2).trans rfl
            have aqa : wr.cell? ⟨dU, 3, none⟩ = some (.int .i64 jl) := (af bG.out 3).trans rfl
            have arn := ag bG.out 0
            have aro := ag bG.out 1
            have arp := ag bG.out 2
            have arq := ag bG.out 3
            go_wp2_with (first | ((with_reducible refine dn (f := 127) rfl ?_); refine gu (some 57) rfl rfl Try.func127 (by kernel_rfl) rfl #[.agg #[.int .i64 jQ, .int .i64 iY, .int .i64 1, .int .i64 jl], .int .u8 a1] rfl (by (try simp only [List.map_toArray, List.map_cons, List.map_nil]); rfl) ?_; (with_reducible refine (jR.calls jQ iY 1 jl a1 jZ kZ mM oQ adX _ A28.out).mono ?_); rintro e w33 ⟨rfl, hb⟩; refine ⟨_, rfl, ?_⟩; replace fE := ae.mk (Kd.fJ fE.out hb); replace fP := ae.mk (Kd.fJ fP.out hb); replace dP := ae.mk (aK dP.out hb); replace bG := ae.mk (aK bG.out hb); replace HB := ae.mk (aH (by repeat ((with_reducible exact HB.out))) hb); (try clear hb)) | ((with_reducible refine aQ (N := 16) rfl ?_); (try (refine eQ (by rfl) ?_; dsimp only)); refine aX ?hg (N := 16) ?hd (cs := #[.int .i64 0, .int .i64 0, .int .i64 0, .int .i64 0]) (t := 23) ?hr ?_; (case hd => rfl); (case hg => rfl); (case hr => (go_simp; done)); intro dD hg w34 hbox hb; have jm := ae.mk (hbox); have Eg := ae.mk ((by rw [hg]; exact (aY (by repeat ((with_reducible exact HB.out)))) : w.heap.size ≤ dD)); have iL := ae.mk ((by rw [hg]; exact Nat.ne_of_lt (eP dP.out) : iV ≠ dD)); have Bh := ae.mk ((by rw [hg]; exact Nat.ne_of_gt (eP dP.out) : dD ≠ iV)); have iM := ae.mk ((by rw [hg]; exact Nat.ne_of_lt (eP bG.out) : dU ≠ dD)); have Bi := ae.mk ((by rw [hg]; exact Nat.ne_of_gt (eP bG.out) : dD ≠ dU)); replace fE := ae.mk (Kd.fJ (Kd.tN fE.out dD (Nat.le_of_eq hg.symm)) hb); replace fP := ae.mk (Kd.fJ (Kd.tN fP.out dD (Nat.le_of_eq hg.symm)) hb); replace dP := ae.mk (aK dP.out hb); replace bG := ae.mk (aK bG.out hb); replace HB := ae.mk (aH (by repeat ((with_reducible exact HB.out))) hb); clear hb hbox hg; have avi := Bh.out; have avI := iL.out; have avj := Bi.out; have avJ := iM.out; have agJ : w34.cell? ⟨dD, 0, none⟩ = some (.int .i64 0) := (af jm.out 0).trans rfl; have agK : w34.cell? ⟨dD, 1, none⟩ = some (.int .i64 0) := (af jm.out 1).trans rfl; have agL : w34.cell? ⟨dD, 2, none⟩ = some (.int .i64 0) := (af jm.out 2).trans rfl; have agM : w34.cell? ⟨dD, 3, none⟩ = some (.int .i64 0) := (af jm.out 3).trans rfl; have ahw := ag jm.out 0; have ahx := ag jm.out 1; have ahy := ag jm.out 2; have ahz := ag jm.out 3) | ((with_reducible refine ji (b := .append) (xs := #[.tmp 60, .tmp 62]) rfl ?_); (try (refine eQ (by rfl) ?_; dsimp only)); at_builtin; refine Kd.oG k23 (w0 := w) w.heap.size rfl (.tmp 60) (.tmp 62) 42 23 (.agg #[(.int .i64 0), (.int .i64 0), (.int .i64 0), (.int .i64 0)]) 32 rfl Try.underlying42 info23 rfl (by decide) (by omega) u12 xI (⟨jZ, kZ, mM, oQ⟩ : bC) [.int .i64 jZ, .int .i64 kZ, .int .i64 mM, .int .i64 oQ] (fun k_ => some k_ ≠ (u11 : Value).ownBlock ∧ k_ ≠ iV ∧ k_ ≠ dU ∧ k_ ≠ dD) (fun _ => False) rfl (by (go_simp; done)) ?aP (fun _ hk => hk.elim) ?aF ?aO ?aB ?aS ?aL ?_; (case aP => exact qV _ _ _ (⟨jZ, kZ, mM, oQ⟩ : bC)); (case aB => exact (by repeat ((with_reducible first | exact HB.out | refine iw ?_ Eg.out)))); (case aF => exact (fun k_ hk => ⟨Kd.fresh' (Kd.lX (by exact (Kd.cZ (Kd.eF (p := ⟨dD, 3, none⟩) (Kd.eF (p := ⟨dD, 2, none⟩) (Kd.eF (p := ⟨dD, 1, none⟩) (Kd.eF (p := ⟨dD, 0, none⟩) (Kd.cZ fE.out (fun k_ hk => (⟨hk, hk.2⟩ : _ ∧ k_ ≠ dD))) (fun _ hk => hk.2) (.int .i64 jZ)) (fun _ hk => hk.2) (.int .i64 kZ)) (fun _ hk => hk.2) (.int .i64 mM)) (fun _ hk => hk.2) (.int .i64 oQ)) (fun _ h_ => h_.1)))) k_ hk, Kd.jM (g := iV) (o := .cells #[.int .i64 az, .int .i64 aC, .int .i64 aA, .int .i64 aG] 23 (0, 0)) (by refine bz ?_ iL.out _; refine bz ?_ iL.out _; refine bz ?_ iL.out _; refine bz ?_ iL.out _; exact dP.out) k_ hk, Kd.jM (g := dU) (o := .cells #[.int .i64 iD, .int .i64 iY, .int .i64 ja, .int .i64 jl] 23 (0, 0)) (by refine bz ?_ iM.out _; refine bz ?_ iM.out _; refine bz ?_ iM.out _; refine bz ?_ iM.out _; exact bG.out) k_ hk, Kd.jM (g := dD) (o := .cells #[.int .i64 jZ, .int .i64 kZ, .int .i64 mM, .int .i64 oQ] 23 (0, 0)) (by refine bM (cs := #[.int .i64 jZ, .int .i64 kZ, .int .i64 mM, .int .i64 0]) ?_ 3 _ rfl; refine bM (cs := #[.int .i64 jZ, .int .i64 kZ, .int .i64 0, .int .i64 0]) ?_ 2 _ rfl; refine bM (cs := #[.int .i64 jZ, .int .i64 0, .int .i64 0, .int .i64 0]) ?_ 1 _ rfl; refine bM (cs := #[.int .i64 0, .int .i64 0, .int .i64 0, .int .i64 0]) ?_ 0 _ rfl; exact jm.out) k_ hk⟩)); (case aO => exact (by exact Kd.cZ (Kd.eF (p := ⟨dD, 3, none⟩) (Kd.eF (p := ⟨dD, 2, none⟩) (Kd.eF (p := ⟨dD, 1, none⟩) (Kd.eF (p := ⟨dD, 0, none⟩) (Kd.cZ fP.out (fun k_ hk => (⟨hk, hk.2⟩ : _ ∧ k_ ≠ dD))) (fun _ hk => hk.2) (.int .i64 jZ)) (fun _ hk => hk.2) (.int .i64 kZ)) (fun _ hk => hk.2) (.int .i64 mM)) (fun _ hk => hk.2) (.int .i64 oQ)) (fun _ hk => ⟨hk.1.1.1, ⟨hk.1.1.2.1, ⟨hk.1.1.2.2, hk.1.2⟩⟩⟩))); (case aS => exact (aY (by repeat ((with_reducible first | exact HB.out | refine iw ?_ Eg.out))))); (case aL => have := Yg.out; omega); intro ad1 w38 ho hb hg hat; rw [← Yh.out] at ho; have AV := ae.mk (ho); replace fE := ae.mk (Kd.qy (ok := (fun k_ => k_ ≠ iV ∧ k_ ≠ dU ∧ k_ ≠ dD)) (by exact Kd.cZ (Kd.eF (p := ⟨dD, 3, none⟩) (Kd.eF (p := ⟨dD, 2, none⟩) (Kd.eF (p := ⟨dD, 1, none⟩) (Kd.eF (p := ⟨dD, 0, none⟩) (Kd.cZ fE.out (fun k_ hk => (⟨hk, hk.2⟩ : _ ∧ k_ ≠ dD))) (fun _ hk => hk.2) (.int .i64 jZ)) (fun _ hk => hk.2) (.int .i64 kZ)) (fun _ hk => hk.2) (.int .i64 mM)) (fun _ hk => hk.2) (.int .i64 oQ)) (fun _ hk => ⟨⟨hk.1.1.2.1, ⟨hk.1.1.2.2, hk.1.2⟩⟩, hk.1.1.1⟩)) hg hat); replace dP := ae.mk (bZ (g := iV) (o := .cells #[.int .i64 az, .int .i64 aC, .int .i64 aA, .int .i64 aG] 23 (0, 0)) (by refine bz ?_ iL.out _; refine bz ?_ iL.out _; refine bz ?_ iL.out _; refine bz ?_ iL.out _; exact dP.out) hg (Kd.oU fP.out (fun _ hk => hk.1.2.1))); replace bG := ae.mk (bZ (g := dU) (o := .cells #[.int .i64 iD, .int .i64 iY, .int .i64 ja, .int .i64 jl] 23 (0, 0)) (by refine bz ?_ iM.out _; refine bz ?_ iM.out _; refine bz ?_ iM.out _; refine bz ?_ iM.out _; exact bG.out) hg (Kd.oU fP.out (fun _ hk => hk.1.2.2))); replace jm := ae.mk (bZ (g := dD) (o := .cells #[.int .i64 jZ, .int .i64 kZ, .int .i64 mM, .int .i64 oQ] 23 (0, 0)) (by refine bM (cs := #[.int .i64 jZ, .int .i64 kZ, .int .i64 mM, .int .i64 0]) ?_ 3 _ rfl; refine bM (cs := #[.int .i64 jZ, .int .i64 kZ, .int .i64 0, .int .i64 0]) ?_ 2 _ rfl; refine bM (cs := #[.int .i64 jZ, .int .i64 0, .int .i64 0, .int .i64 0]) ?_ 1 _ rfl; refine bM (cs := #[.int .i64 0, .int .i64 0, .int .i64 0, .int .i64 0]) ?_ 0 _ rfl; exact jm.out) hg (Kd.oU fP.out (fun _ hk => hk.2))); replace HB := ae.mk (hb); clear fP; clear ho hb hg hat))
            go_ret3
            exact ⟨_, _, by rfl, by exact Kd.nI _ _ _ _ _, by exact Kd.nI _ _ _ _ _, by repeat ((with_reducible exact HB.out))⟩
           ·rw [if_neg TC] at H
            have anc : decide ((rd l2 fG) < 1) = false := decide_eq_false TC
            clear TC
            by_cases VW : (rd l2 fG) > (wrap64 ((wrap64 (iD + ja)) - (wrap64 (jQ + 1))))
            ·rw [if_pos VW] at H
             have ang : decide ((wrap64 ((wrap64 (iD + ja)) - (wrap64 (jQ + 1)))) < (rd l2 fG)) = true := decide_eq_true VW
             clear VW
             simp only [Option.some.injEq, Prod.mk.injEq] at H
             obtain ⟨rfl, rfl, rfl⟩ := H
             have ru : 0 ≤ (fG : Int) := of_decide_eq_true (by (with_reducible assumption))
             have ry : fG < (l2.length : Int) := of_decide_eq_true (by (with_reducible assumption))
             obtain ⟨Nl, e254, lL⟩ := Kd.iU HR2.out fG ru ry
             cases e254
             replace lL := (HB.out.cell (World.block_lt_of_cell? w _ lL)).trans lL
             replace ru := eq_true ru
             replace ry := eq_true ry
             have avk := ql.out
             have avK := jD.out
             have aqf : wr.cell? ⟨dU, 0, none⟩ = some (.int .i64 iD) := (af bG.out 0).trans rfl
             have aqg : wr.cell? ⟨dU, 1, none⟩ = some (.int .i64 iY) := (af bG.out 1).trans rfl
             have aqh : wr.cell? ⟨dU, 2, none⟩ = some (.int .i64 ja) := (af bG.out 2).trans rfl
             have aqi : wr.cell? ⟨dU, 3, none⟩ = some (.int .i64 jl) := (af bG.out 3).trans rfl
             have arw := ag bG.out 0
             have arx := ag bG.out 1
             have ary := ag bG.out 2
             have arz := ag bG.out 3
             go_wp2_with (first | ((with_reducible refine dn (f := 127) rfl ?_); refine gu (some 57) rfl rfl Try.func127 (by kernel_rfl) rfl #[.agg #[.int .i64 jQ, .int .i64 iY, .int .i64 1, .int .i64 jl], .int .u8 a1] rfl (by (try simp only [List.map_toArray, List.map_cons, List.map_nil]); rfl) ?_; (with_reducible refine (jR.calls jQ iY 1 jl a1 jZ kZ mM oQ adX _ A28.out).mono ?_); rintro e w42 ⟨rfl, hb⟩; refine ⟨_, rfl, ?_⟩; replace fE := ae.mk (Kd.fJ fE.out hb); replace fP := ae.mk (Kd.fJ fP.out hb); replace dP := ae.mk (aK dP.out hb); replace bG := ae.mk (aK bG.out hb); replace HB := ae.mk (aH (by repeat ((with_reducible exact HB.out))) hb); (try clear hb)) | ((with_reducible refine aQ (N := 16) rfl ?_); (try (refine eQ (by rfl) ?_; dsimp only)); refine aX ?hg (N := 16) ?hd (cs := #[.int .i64 0, .int .i64 0, .int .i64 0, .int .i64 0]) (t := 23) ?hr ?_; (case hd => rfl); (case hg => rfl); (case hr => (go_simp; done)); intro dD hg w43 hbox hb; have jm := ae.mk (hbox); have Eg := ae.mk ((by rw [hg]; exact (aY (by repeat ((with_reducible exact HB.out)))) : w.heap.size ≤ dD)); have iL := ae.mk ((by rw [hg]; exact Nat.ne_of_lt (eP dP.out) : iV ≠ dD)); have Bh := ae.mk ((by rw [hg]; exact Nat.ne_of_gt (eP dP.out) : dD ≠ iV)); have iM := ae.mk ((by rw [hg]; exact Nat.ne_of_lt (eP bG.out) : dU ≠ dD)); have Bi := ae.mk ((by rw [hg]; exact Nat.ne_of_gt (eP bG.out) : dD ≠ dU)); replace fE := ae.mk (Kd.fJ (Kd.tN fE.out dD (Nat.le_of_eq hg.symm)) hb); replace fP := ae.mk (Kd.fJ (Kd.tN fP.out dD (Nat.le_of_eq hg.symm)) hb); replace dP := ae.mk (aK dP.out hb); replace bG := ae.mk (aK bG.out hb); replace HB := ae.mk (aH (by repeat ((with_reducible exact HB.out))) hb); clear hb hbox hg; have avl := Bh.out; have avL := iL.out; have avm := Bi.out; have avM := iM.out; have aqj : w43.cell? ⟨dD, 0, none⟩ = some (.int .i64 0) := (af jm.out 0).trans rfl; have aqk : w43.cell? ⟨dD, 1, none⟩ = some (.int .i64 0) := (af jm.out 1).trans rfl; have aql : w43.cell? ⟨dD, 2, none⟩ = some (.int .i64 0) := (af jm.out 2).trans rfl; have aqm : w43.cell? ⟨dD, 3, none⟩ = some (.int .i64 0) := (af jm.out 3).trans rfl; have arA := ag jm.out 0; have arB := ag jm.out 1; have arC := ag jm.out 2; have arD := ag jm.out 3) | ((with_reducible refine ji (b := .append) (xs := #[.tmp 60, .tmp 62]) rfl ?_); (try (refine eQ (by rfl) ?_; dsimp only)); at_builtin; refine Kd.oG k23 (w0 := w) w.heap.size rfl (.tmp 60) (.tmp 62) 42 23 (.agg #[(.int .i64 0), (.int .i64 0), (.int .i64 0), (.int .i64 0)]) 32 rfl Try.underlying42 info23 rfl (by decide) (by omega) u12 xI (⟨jZ, kZ, mM, oQ⟩ : bC) [.int .i64 jZ, .int .i64 kZ, .int .i64 mM, .int .i64 oQ] (fun k_ => some k_ ≠ (u11 : Value).ownBlock ∧ k_ ≠ iV ∧ k_ ≠ dU ∧ k_ ≠ dD) (fun _ => False) rfl (by (go_simp; done)) ?aP (fun _ hk => hk.elim) ?aF ?aO ?aB ?aS ?aL ?_; (case aP => exact qV _ _ _ (⟨jZ, kZ, mM, oQ⟩ : bC)); (case aB => exact (by repeat ((with_reducible first | exact HB.out | refine iw ?_ Eg.out)))); (case aF => exact (fun k_ hk => ⟨Kd.fresh' (Kd.lX (by exact (Kd.cZ (Kd.eF (p := ⟨dD, 3, none⟩) (Kd.eF (p := ⟨dD, 2, none⟩) (Kd.eF (p := ⟨dD, 1, none⟩) (Kd.eF (p := ⟨dD, 0, none⟩) (Kd.cZ fE.out (fun k_ hk => (⟨hk, hk.2⟩ : _ ∧ k_ ≠ dD))) (fun _ hk => hk.2) (.int .i64 jZ)) (fun _ hk => hk.2) (.int .i64 kZ)) (fun _ hk => hk.2) (.int .i64 mM)) (fun _ hk => hk.2) (.int .i64 oQ)) (fun _ h_ => h_.1)))) k_ hk, Kd.jM (g := iV) (o := .cells #[.int .i64 az, .int .i64 aC, .int .i64 aA, .int .i64 aG] 23 (0, 0)) (by refine bz ?_ iL.out _; refine bz ?_ iL.out _; refine bz ?_ iL.out _; refine bz ?_ iL.out _; exact dP.out) k_ hk, Kd.jM (g := dU) (o := .cells #[.int .i64 iD, .int .i64 iY, .int .i64 ja, .int .i64 jl] 23 (0, 0)) (by refine bz ?_ iM.out _; refine bz ?_ iM.out _; refine bz ?_ iM.out _; refine bz ?_ iM.out _; exact bG.out) k_ hk, Kd.jM (g := dD) (o := .cells #[.int .i64 jZ, .int .i64 kZ, .int .i64 mM, .int .i64 oQ] 23 (0, 0)) (by refine bM (cs := #[.int .i64 jZ, .int .i64 kZ, .int .i64 mM, .int .i64 0]) ?_ 3 _ rfl; refine bM (cs := #[.int .i64 jZ, .int .i64 kZ, .int .i64 0, .int .i64 0]) ?_ 2 _ rfl; refine bM (cs := #[.int .i64 jZ, .int .i64 0, .int .i64 0, .int .i64 0]) ?_ 1 _ rfl; refine bM (cs := #[.int .i64 0, .int .i64 0, .int .i64 0, .int .i64 0]) ?_ 0 _ rfl; exact jm.out) k_ hk⟩)); (case aO => exact (by exact Kd.cZ (Kd.eF (p := ⟨dD, 3, none⟩) (Kd.eF (p := ⟨dD, 2, none⟩) (Kd.eF (p := ⟨dD, 1, none⟩) (Kd.eF (p := ⟨dD, 0, none⟩) (Kd.cZ fP.out (fun k_ hk => (⟨hk, hk.2⟩ : _ ∧ k_ ≠ dD))) (fun _ hk => hk.2) (.int .i64 jZ)) (fun _ hk => hk.2) (.int .i64 kZ)) (fun _ hk => hk.2) (.int .i64 mM)) (fun _ hk => hk.2) (.int .i64 oQ)) (fun _ hk => ⟨hk.1.1.1, ⟨hk.1.1.2.1, ⟨hk.1.1.2.2, hk.1.2⟩⟩⟩))); (case aS => exact (aY (by repeat ((with_reducible first | exact HB.out | refine iw ?_ Eg.out))))); (case aL => have := Yg.out; omega); intro ad1 w47 ho hb hg hat; rw [← Yh.out] at ho; have AV := ae.mk (ho); replace fE := ae.mk (Kd.qy (ok := (fun k_ => k_ ≠ iV ∧ k_ ≠ dU ∧ k_ ≠ dD)) (by exact Kd.cZ (Kd.eF (p := ⟨dD, 3, none⟩) (Kd.eF (p := ⟨dD, 2, none⟩) (Kd.eF (p := ⟨dD, 1, none⟩) (Kd.eF (p := ⟨dD, 0, none⟩) (Kd.cZ fE.out (fun k_ hk => (⟨hk, hk.2⟩ : _ ∧ k_ ≠ dD))) (fun _ hk => hk.2) (.int .i64 jZ)) (fun _ hk => hk.2) (.int .i64 kZ)) (fun _ hk => hk.2) (.int .i64 mM)) (fun _ hk => hk.2) (.int .i64 oQ)) (fun _ hk => ⟨⟨hk.1.1.2.1, ⟨hk.1.1.2.2, hk.1.2⟩⟩, hk.1.1.1⟩)) hg hat); replace dP := ae.mk (bZ (g := iV) (o := .cells #[.int .i64 az, .int .i64 aC, .int .i64 aA, .int .i64 aG] 23 (0, 0)) (by refine bz ?_ iL.out _; refine bz ?_ iL.out _; refine bz ?_ iL.out _; refine bz ?_ iL.out _; exact dP.out) hg (Kd.oU fP.out (fun _ hk => hk.1.2.1))); replace bG := ae.mk (bZ (g := dU) (o := .cells #[.int .i64 iD, .int .i64 iY, .int .i64 ja, .int .i64 jl] 23 (0, 0)) (by refine bz ?_ iM.out _; refine bz ?_ iM.out _; refine bz ?_ iM.out _; refine bz ?_ iM.out _; exact bG.out) hg (Kd.oU fP.out (fun _ hk => hk.1.2.2))); replace jm := ae.mk (bZ (g := dD) (o := .cells #[.int .i64 jZ, .int .i64 kZ, .int .i64 mM, .int .i64 oQ] 23 (0, 0)) (by refine bM (cs := #[.int .i64 jZ, .int .i64 kZ, .int .i64 mM, .int .i64 0]) ?_ 3 _ rfl; refine bM (cs := #[.int .i64 jZ, .int .i64 kZ, .int .i64 0, .int .i64 0]) ?_ 2 _ rfl; refine bM (cs := #[.int .i64 jZ, .int .i64 0, .int .i64 0, .int .i64 0]) ?_ 1 _ rfl; refine bM (cs := #[.int .i64 0, .int .i64 0, .int .i64 0, .int .i64 0]) ?_ 0 _ rfl; exact jm.out) hg (Kd.oU fP.out (fun _ hk => hk.2))); replace HB := ae.mk (hb); clear fP; clear ho hb hg hat; have aqn : w47.cell? ⟨dU, 0, none⟩ = some (.int .i64 iD) := (af bG.out 0).trans rfl; have aqo : w47.cell? ⟨dU, 1, none⟩ = some (.int .i64 iY) := (af bG.out 1).trans rfl; have aqp : w47.cell? ⟨dU, 2, none⟩ = some (.int .i64 ja) := (af bG.out 2).trans rfl; have aqr : w47.cell? ⟨dU, 3, none⟩ = some (.int .i64 jl) := (af bG.out 3).trans rfl; have arE := ag bG.out 0; have arF := ag bG.out 1; have arG := ag bG.out 2; have arH := ag bG.out 3))
             go_ret3
             exact ⟨_, _, by rfl, by exact Kd.nI _ _ _ _ _, by exact Kd.nI _ _ _ _ _, by repeat ((with_reducible exact HB.out))⟩
            ·rw [if_neg VW] at H
             have ang : decide ((wrap64 ((wrap64 (iD + ja)) - (wrap64 (jQ + 1)))) < (rd l2 fG)) = false := decide_eq_false VW
             clear VW
             replace H := Option.bind_eq_some_iff.mp H
             obtain ⟨⟨xg, yB, AA, DY, apk⟩, ai3, H⟩ := H
             replace H : (if tJ.length < 4398046511104 then (bW.l0 k2 a1 (tJ ++ [(⟨xg, yB, AA, DY⟩ : bC)]) ZP (wrap64 ((wrap64 (jQ + 1)) + (rd l2 fG))) l2 (l2.length : Int) (wrap64 (fG + 1)) iD iY ja jl) else (none)) = some (r1, r2, r3) := H
             have A49 := ae.mk ai3
             clear ai3
             by_cases c50 : tJ.length < 4398046511104
             ·rw [if_pos c50] at H
              have amn := ae.mk c50
              clear c50
              obtain ⟨alA, YX⟩ : ∃ y_ : List (bC), y_ = (tJ ++ [(⟨xg, yB, AA, DY⟩ : bC)]) := ⟨_, rfl⟩
              replace H : (bW.l0 k2 a1 alA ZP (wrap64 ((wrap64 (jQ + 1)) + (rd l2 fG))) l2 (l2.length : Int) (wrap64 (fG + 1)) iD iY ja jl) = some (r1, r2, r3) := by (rw [YX]; with_reducible exact H)
              have amw := ae.mk YX
              clear YX
              have H' := ae.mk H
              clear H
              have ru : 0 ≤ (fG : Int) := of_decide_eq_true (by (with_reducible assumption))
              have ry : fG < (l2.length : Int) := of_decide_eq_true (by (with_reducible assumption))
              obtain ⟨Nl, e254, lL⟩ := Kd.iU HR2.out fG ru ry
              cases e254
              replace lL := (HB.out.cell (World.block_lt_of_cell? w _ lL)).trans lL
              replace ru := eq_true ru
              replace ry := eq_true ry
              have avn := ql.out
              have avN := jD.out
              have aqs : wr.cell? ⟨dU, 0, none⟩ = some (.int .i64 iD) := (af bG.out 0).trans rfl
              have aqt : wr.cell? ⟨dU, 1, none⟩ = some (.int .i64 iY) := (af bG.out 1).trans rfl
              have aqu : wr.cell? ⟨dU, 2, none⟩ = some (.int .i64 ja) := (af bG.out 2).trans rfl
              have aqv : wr.cell? ⟨dU, 3, none⟩ = some (.int .i64 jl) := (af bG.out 3).trans rfl
              have arI := ag bG.out 0
              have arJ := ag bG.out 1
              have arK := ag bG.out 2
              have arL := ag bG.out 3
              go_wp2_with (first | ((with_reducible refine dn (f := 127) rfl ?_); refine gu (some 57) rfl rfl Try.func127 (by kernel_rfl) rfl #[.agg #[.int .i64 jQ, .int .i64 iY, .int .i64 1, .int .i64 jl], .int .u8 a1] rfl (by (try simp only [List.map_toArray, List.map_cons, List.map_nil]); rfl) ?_; (with_reducible refine (jR.calls jQ iY 1 jl a1 jZ kZ mM oQ adX _ A28.out).mono ?_); rintro e w53 ⟨rfl, hb⟩; refine ⟨_, rfl, ?_⟩; replace fE := ae.mk (Kd.fJ fE.out hb); replace fP := ae.mk (Kd.fJ fP.out hb); replace dP := ae.mk (aK dP.out hb); replace bG := ae.mk (aK bG.out hb); replace HB := ae.mk (aH (by repeat ((with_reducible exact HB.out))) hb); (try clear hb)) | ((with_reducible refine aQ (N := 16) rfl ?_); (try (refine eQ (by rfl) ?_; dsimp only)); refine aX ?hg (N := 16) ?hd (cs := #[.int .i64 0, .int .i64 0, .int .i64 0, .int .i64 0]) (t := 23) ?hr ?_; (case hd => rfl); (case hg => rfl); (case hr => (go_simp; done)); intro dD hg w54 hbox hb; have jm := ae.mk (hbox); have Eg := ae.mk ((by rw [hg]; exact (aY (by repeat ((with_reducible exact HB.out)))) : w.heap.size ≤ dD)); have iL := ae.mk ((by rw [hg]; exact Nat.ne_of_lt (eP dP.out) : iV ≠ dD)); have Bh := ae.mk ((by rw [hg]; exact Nat.ne_of_gt (eP dP.out) : dD ≠ iV)); have iM := ae.mk ((by rw [hg]; exact Nat.ne_of_lt (eP bG.out) : dU ≠ dD)); have Bi := ae.mk ((by rw [hg]; exact Nat.ne_of_gt (eP bG.out) : dD ≠ dU)); replace fE := ae.mk (Kd.fJ (Kd.tN fE.out dD (Nat.le_of_eq hg.symm)) hb); replace fP := ae.mk (Kd.fJ (Kd.tN fP.out dD (Nat.le_of_eq hg.symm)) hb); replace dP := ae.mk (aK dP.out hb); replace bG := ae.mk (aK bG.out hb); replace HB := ae.mk (aH (by repeat ((with_reducible exact HB.out))) hb); clear hb hbox hg; have avo := Bh.out; have avO := iL.out; have avp := Bi.out; have avP := iM.out; have aqw : w54.cell? ⟨dD, 0, none⟩ = some (.int .i64 0) := (af jm.out 0).trans rfl; have aqx : w54.cell? ⟨dD, 1, none⟩ = some (.int .i64 0) := (af jm.out 1).trans rfl; have aqy : w54.cell? ⟨dD, 2, none⟩ = some (.int .i64 0) := (af jm.out 2).trans rfl; have aqz : w54.cell? ⟨dD, 3, none⟩ = some (.int .i64 0) := (af jm.out 3).trans rfl; have arM := ag jm.out 0; have arN := ag jm.out 1; have arO := ag jm.out 2; have arP := ag jm.out 3) | ((with_reducible refine ji (b := .append) (xs := #[.tmp 60, .tmp 62]) rfl ?_); (try (refine eQ (by rfl) ?_; dsimp only)); at_builtin; refine Kd.oG k23 (w0 := w) w.heap.size rfl (.tmp 60) (.tmp 62) 42 23 (.agg #[(.int .i64 0), (.int .i64 0), (.int .i64 0), (.int .i64 0)]) 32 rfl Try.underlying42 info23 rfl (by decide) (by omega) u12 xI (⟨jZ, kZ, mM, oQ⟩ : bC) [.int .i64 jZ, .int .i64 kZ, .int .i64 mM, .int .i64 oQ] (fun k_ => some k_ ≠ (u11 : Value).ownBlock ∧ k_ ≠ iV ∧ k_ ≠ dU ∧ k_ ≠ dD) (fun _ => False) rfl (by (go_simp; done)) ?aP (fun _ hk => hk.elim) ?aF ?aO ?aB ?aS ?aL ?_; (case aP => exact qV _ _ _ (⟨jZ, kZ, mM, oQ⟩ : bC)); (case aB => exact (by repeat ((with_reducible first | exact HB.out | refine iw ?_ Eg.out)))); (case aF => exact (fun k_ hk => ⟨Kd.fresh' (Kd.lX (by exact (Kd.cZ (Kd.eF (p := ⟨dD, 3, none⟩) (Kd.eF (p := ⟨dD, 2, none⟩) (Kd.eF (p := ⟨dD, 1, none⟩) (Kd.eF (p := ⟨dD, 0, none⟩) (Kd.cZ fE.out (fun k_ hk => (⟨hk, hk.2⟩ : _ ∧ k_ ≠ dD))) (fun _ hk => hk.2) (.int .i64 jZ)) (fun _ hk => hk.2) (.int .i64 kZ)) (fun _ hk => hk.2) (.int .i64 mM)) (fun _ hk => hk.2) (.int .i64 oQ)) (fun _ h_ => h_.1)))) k_ hk, Kd.jM (g := iV) (o := .cells #[.int .i64 az, .int .i64 aC, .int .i64 aA, .int .i64 aG] 23 (0, 0)) (by refine bz ?_ iL.out _; refine bz ?_ iL.out _; refine bz ?_ iL.out _; refine bz ?_ iL.out _; exact dP.out) k_ hk, Kd.jM (g := dU) (o := .cells #[.int .i64 iD, .int .i64 iY, .int .i64 ja, .int .i64 jl] 23 (0, 0)) (by refine bz ?_ iM.out _; refine bz ?_ iM.out _; refine bz ?_ iM.out _; refine bz ?_ iM.out _; exact bG.out) k_ hk, Kd.jM (g := dD) (o := .cells #[.int .i64 jZ, .int .i64 kZ, .int .i64 mM, .int .i64 oQ] 23 (0, 0)) (by refine bM (cs := #[.int .i64 jZ, .int .i64 kZ, .int .i64 mM, .int .i64 0]) ?_ 3 _ rfl; refine bM (cs := #[.int .i64 jZ, .int .i64 kZ, .int .i64 0, .int .i64 0]) ?_ 2 _ rfl; refine bM (cs := #[.int .i64 jZ, .int .i64 0, .int .i64 0, .int .i64 0]) ?_ 1 _ rfl; refine bM (cs := #[.int .i64 0, .int .i64 0, .int .i64 0, .int .i64 0]) ?_ 0 _ rfl; exact jm.out) k_ hk⟩)); (case aO => exact (by exact Kd.cZ (Kd.eF (p := ⟨dD, 3, none⟩) (Kd.eF (p := ⟨dD, 2, none⟩) (Kd.eF (p := ⟨dD, 1, none⟩) (Kd.eF (p := ⟨dD, 0, none⟩) (Kd.cZ fP.out (fun k_ hk => (⟨hk, hk.2⟩ : _ ∧ k_ ≠ dD))) (fun _ hk => hk.2) (.int .i64 jZ)) (fun _ hk => hk.2) (.int .i64 kZ)) (fun _ hk => hk.2) (.int .i64 mM)) (fun _ hk => hk.2) (.int .i64 oQ)) (fun _ hk => ⟨hk.1.1.1, ⟨hk.1.1.2.1, ⟨hk.1.1.2.2, hk.1.2⟩⟩⟩))); (case aS => exact (aY (by repeat ((with_reducible first | exact HB.out | refine iw ?_ Eg.out))))); (case aL => have := Yg.out; omega); intro ad1 w58 ho hb hg hat; rw [← Yh.out] at ho; have AV := ae.mk (ho); replace fE := ae.mk (Kd.qy (ok := (fun k_ => k_ ≠ iV ∧ k_ ≠ dU ∧ k_ ≠ dD)) (by exact Kd.cZ (Kd.eF (p := ⟨dD, 3, none⟩) (Kd.eF (p := ⟨dD, 2, none⟩) (Kd.eF (p := ⟨dD, 1, none⟩) (Kd.eF (p := ⟨dD, 0, none⟩) (Kd.cZ fE.out (fun k_ hk => (⟨hk, hk.2⟩ : _ ∧ k_ ≠ dD))) (fun _ hk => hk.2) (.int .i64 jZ)) (fun _ hk => hk.2) (.int .i64 kZ)) (fun _ hk => hk.2) (.int .i64 mM)) (fun _ hk => hk.2) (.int .i64 oQ)) (fun _ hk => ⟨⟨hk.1.1.2.1, ⟨hk.1.1.2.2, hk.1.2⟩⟩, hk.1.1.1⟩)) hg hat); replace dP := ae.mk (bZ (g := iV) (o := .cells #[.int .i64 az, .int .i64 aC, .int .i64 aA, .int .i64 aG] 23 (0, 0)) (by refine bz ?_ iL.out _; refine bz ?_ iL.out _; refine bz ?_ iL.out _; refine bz ?_ iL.out _; exact dP.out) hg (Kd.oU fP.out (fun _ hk => hk.1.2.1))); replace bG := ae.mk (bZ (g := dU) (o := .cells #[.int .i64 iD, .int .i64 iY, .int .i64 ja, .int .i64 jl] 23 (0, 0)) (by refine bz ?_ iM.out _; refine bz ?_ iM.out _; refine bz ?_ iM.out _; refine bz ?_ iM.out _; exact bG.out) hg (Kd.oU fP.out (fun _ hk => hk.1.2.2))); replace jm := ae.mk (bZ (g := dD) (o := .cells #[.int .i64 jZ, .int .i64 kZ, .int .i64 mM, .int .i64 oQ] 23 (0, 0)) (by refine bM (cs := #[.int .i64 jZ, .int .i64 kZ, .int .i64 mM, .int .i64 0]) ?_ 3 _ rfl; refine bM (cs := #[.int .i64 jZ, .int .i64 kZ, .int .i64 0, .int .i64 0]) ?_ 2 _ rfl; refine bM (cs := #[.int .i64 jZ, .int .i64 0, .int .i64 0, .int .i64 0]) ?_ 1 _ rfl; refine bM (cs := #[.int .i64 0, .int .i64 0, .int .i64 0, .int .i64 0]) ?_ 0 _ rfl; exact jm.out) hg (Kd.oU fP.out (fun _ hk => hk.2))); replace HB := ae.mk (hb); clear fP; clear ho hb hg hat; have aqA : w58.cell? ⟨dU, 0, none⟩ = some (.int .i64 iD) := (af bG.out 0).trans rfl; have aqB : w58.cell? ⟨dU, 1, none⟩ = some (.int .i64 iY) := (af bG.out 1).trans rfl; have aqC : w58.cell? ⟨dU, 2, none⟩ = some (.int .i64 ja) := (af bG.out 2).trans rfl; have aqD : w58.cell? ⟨dU, 3, none⟩ = some (.int .i64 jl) := (af bG.out 3).trans rfl; have arQ := ag bG.out 0; have arR := ag bG.out 1; have arS := ag bG.out 2; have arT := ag bG.out 3) | ((with_reducible refine dn (f := 127) rfl ?_); refine gu (some 88) rfl rfl Try.func127 (by kernel_rfl) rfl #[.agg #[.int .i64 (wrap64 (jQ + 1)), .int .i64 iY, .int .i64 (rd l2 fG), .int .i64 jl], .int .u8 a1] rfl (by (try simp only [List.map_toArray, List.map_cons, List.map_nil]); rfl) ?_; (with_reducible refine (jR.calls (wrap64 (jQ + 1)) iY (rd l2 fG) jl a1 xg yB AA DY apk _ A49.out).mono ?_); rintro e w60 ⟨rfl, hb⟩; refine ⟨_, rfl, ?_⟩; replace fE := ae.mk (Kd.fJ fE.out hb); replace AV := ae.mk (Kd.fJ AV.out hb); replace dP := ae.mk (aK dP.out hb); replace bG := ae.mk (aK bG.out hb); replace jm := ae.mk (aK jm.out hb); replace HB := ae.mk (aH (by repeat ((with_reducible exact HB.out))) hb); (try clear hb)) | ((with_reducible refine aQ (N := 18) rfl ?_); (try (refine eQ (by rfl) ?_; dsimp only)); refine aX ?hg (N := 18) ?hd (cs := #[.int .i64 0, .int .i64 0, .int .i64 0, .int .i64 0]) (t := 23) ?hr ?_; (case hd => rfl); (case hg => rfl); (case hr => (go_simp; done)); intro lU hg w61 hbox hb; have zh := ae.mk (hbox); have aeq := ae.mk ((by rw [hg]; exact (aY (by repeat ((with_reducible exact HB.out)))) : w.heap.size ≤ lU)); have sF := ae.mk ((by rw [hg]; exact Nat.ne_of_lt (eP dP.out) : iV ≠ lU)); have aad := ae.mk ((by rw [hg]; exact Nat.ne_of_gt (eP dP.out) : lU ≠ iV)); have sH := ae.mk ((by rw [hg]; exact Nat.ne_of_lt (eP bG.out) : dU ≠ lU)); have aae := ae.mk ((by rw [hg]; exact Nat.ne_of_gt (eP bG.out) : lU ≠ dU)); have sN := ae.mk ((by rw [hg]; exact Nat.ne_of_lt (eP jm.out) : dD ≠ lU)); have aaf := ae.mk ((by rw [hg]; exact Nat.ne_of_gt (eP jm.out) : lU ≠ dD)); replace fE := ae.mk (Kd.fJ (Kd.tN fE.out lU (Nat.le_of_eq hg.symm)) hb); replace AV := ae.mk (Kd.fJ (Kd.tN AV.out lU (Nat.le_of_eq hg.symm)) hb); replace dP := ae.mk (aK dP.out hb); replace bG := ae.mk (aK bG.out hb); replace jm := ae.mk (aK jm.out hb); replace HB := ae.mk (aH (by repeat ((with_reducible exact HB.out))) hb); clear hb hbox hg; have avq := aad.out; have avQ := sF.out; have avr := aae.out; have avR := sH.out; have avs := aaf.out; have avS := sN.out; have aqE : w61.cell? ⟨lU, 0, none⟩ = some (.int .i64 0) := (af zh.out 0).trans rfl; have aqF : w61.cell? ⟨lU, 1, none⟩ = some (.int .i64 0) := (af zh.out 1).trans rfl; have aqG : w61.cell? ⟨lU, 2, none⟩ = some (.int .i64 0) := (af zh.out 2).trans rfl; have aqH : w61.cell? ⟨lU, 3, none⟩ = some (.int .i64 0) := (af zh.out 3).trans rfl; have arU := ag zh.out 0; have arV := ag zh.out 1; have arW := ag zh.out 2; have arX := ag zh.out 3) | ((with_reducible refine ji (b := .append) (xs := #[.tmp 91, .tmp 93]) rfl ?_); (try (refine eQ (by rfl) ?_; dsimp only)); at_builtin; refine Kd.oG k23 (w0 := w) w.heap.size rfl (.tmp 91) (.tmp 93) 42 23 (.agg #[(.int .i64 0), (.int .i64 0), (.int .i64 0), (.int .i64 0)]) 32 rfl Try.underlying42 info23 rfl (by decide) (by omega) u11 tJ (⟨xg, yB, AA, DY⟩ : bC) [.int .i64 xg, .int .i64 yB, .int .i64 AA, .int .i64 DY] (fun k_ => some k_ ≠ (ad1 : Value).ownBlock ∧ k_ ≠ iV ∧ k_ ≠ dU ∧ k_ ≠ dD ∧ k_ ≠ lU) (fun _ => False) rfl (by (go_simp; done)) ?aP (fun _ hk => hk.elim) ?aF ?aO ?aB ?aS ?aL ?_; (case aP => exact qV _ _ _ (⟨xg, yB, AA, DY⟩ : bC)); (case aB => exact (by repeat ((with_reducible first | exact HB.out | refine iw ?_ aeq.out)))); (case aF => exact (fun k_ hk => ⟨Kd.fresh' (Kd.lX (by exact (Kd.cZ (Kd.eF (p := ⟨lU, 3, none⟩) (Kd.eF (p := ⟨lU, 2, none⟩) (Kd.eF (p := ⟨lU, 1, none⟩) (Kd.eF (p := ⟨lU, 0, none⟩) (Kd.cZ AV.out (fun k_ hk => (⟨hk, hk.2⟩ : _ ∧ k_ ≠ lU))) (fun _ hk => hk.2) (.int .i64 xg)) (fun _ hk => hk.2) (.int .i64 yB)) (fun _ hk => hk.2) (.int .i64 AA)) (fun _ hk => hk.2) (.int .i64 DY)) (fun _ h_ => h_.1)))) k_ hk, Kd.jM (g := iV) (o := .cells #[.int .i64 az, .int .i64 aC, .int .i64 aA, .int .i64 aG] 23 (0, 0)) (by refine bz ?_ sF.out _; refine bz ?_ sF.out _; refine bz ?_ sF.out _; refine bz ?_ sF.out _; exact dP.out) k_ hk, Kd.jM (g := dU) (o := .cells #[.int .i64 iD, .int .i64 iY, .int .i64 ja, .int .i64 jl] 23 (0, 0)) (by refine bz ?_ sH.out _; refine bz ?_ sH.out _; refine bz ?_ sH.out _; refine bz ?_ sH.out _; exact bG.out) k_ hk, Kd.jM (g := dD) (o := .cells #[.int .i64 jZ, .int .i64 kZ, .int .i64 mM, .int .i64 oQ] 23 (0, 0)) (by refine bz ?_ sN.out _; refine bz ?_ sN.out _; refine bz ?_ sN.out _; refine bz ?_ sN.out _; exact jm.out) k_ hk, Kd.jM (g := lU) (o := .cells #[.int .i64 xg, .int .i64 yB, .int .i64 AA, .int .i64 DY] 23 (0, 0)) (by refine bM (cs := #[.int .i64 xg, .int .i64 yB, .int .i64 AA, .int .i64 0]) ?_ 3 _ rfl; refine bM (cs := #[.int .i64 xg, .int .i64 yB, .int .i64 0, .int .i64 0]) ?_ 2 _ rfl; refine bM (cs := #[.int .i64 xg, .int .i64 0, .int .i64 0, .int .i64 0]) ?_ 1 _ rfl; refine bM (cs := #[.int .i64 0, .int .i64 0, .int .i64 0, .int .i64 0]) ?_ 0 _ rfl; exact zh.out) k_ hk⟩)); (case aO => exact (by exact Kd.cZ (Kd.eF (p := ⟨lU, 3, none⟩) (Kd.eF (p := ⟨lU, 2, none⟩) (Kd.eF (p := ⟨lU, 1, none⟩) (Kd.eF (p := ⟨lU, 0, none⟩) (Kd.cZ fE.out (fun k_ hk => (⟨hk, hk.2⟩ : _ ∧ k_ ≠ lU))) (fun _ hk => hk.2) (.int .i64 xg)) (fun _ hk => hk.2) (.int .i64 yB)) (fun _ hk => hk.2) (.int .i64 AA)) (fun _ hk => hk.2) (.int .i64 DY)) (fun _ hk => ⟨hk.1.1.2, ⟨hk.1.1.1.1, ⟨hk.1.1.1.2.1, ⟨hk.1.1.1.2.2, hk.1.2⟩⟩⟩⟩))); (case aS => exact (aY (by repeat ((with_reducible first | exact HB.out | refine iw ?_ aeq.out))))); (case aL => have := amn.out; omega); intro awH w66 ho hb hg hat; rw [← amw.out] at ho; have alX := ae.mk (ho); replace dP := ae.mk (bZ (g := iV) (o := .cells #[.int .i64 az, .int .i64 aC, .int .i64 aA, .int .i64 aG] 23 (0, 0)) (by refine bz ?_ sF.out _; refine bz ?_ sF.out _; refine bz ?_ sF.out _; refine bz ?_ sF.out _; exact dP.out) hg (Kd.oU fE.out (fun _ hk => hk.1.1.1))); replace bG := ae.mk (bZ (g := dU) (o := .cells #[.int .i64 iD, .int .i64 iY, .int .i64 ja, .int .i64 jl] 23 (0, 0)) (by refine bz ?_ sH.out _; refine bz ?_ sH.out _; refine bz ?_ sH.out _; refine bz ?_ sH.out _; exact bG.out) hg (Kd.oU fE.out (fun _ hk => hk.1.1.2.1))); replace jm := ae.mk (bZ (g := dD) (o := .cells #[.int .i64 jZ, .int .i64 kZ, .int .i64 mM, .int .i64 oQ] 23 (0, 0)) (by refine bz ?_ sN.out _; refine bz ?_ sN.out _; refine bz ?_ sN.out _; refine bz ?_ sN.out _; exact jm.out) hg (Kd.oU fE.out (fun _ hk => hk.1.1.2.2))); replace AV := ae.mk (Kd.qy (ok := (fun k_ => k_ ≠ iV ∧ k_ ≠ dU ∧ k_ ≠ dD ∧ k_ ≠ lU)) (by exact Kd.cZ (Kd.eF (p := ⟨lU, 3, none⟩) (Kd.eF (p := ⟨lU, 2, none⟩) (Kd.eF (p := ⟨lU, 1, none⟩) (Kd.eF (p := ⟨lU, 0, none⟩) (Kd.cZ AV.out (fun k_ hk => (⟨hk, hk.2⟩ : _ ∧ k_ ≠ lU))) (fun _ hk => hk.2) (.int .i64 xg)) (fun _ hk => hk.2) (.int .i64 yB)) (fun _ hk => hk.2) (.int .i64 AA)) (fun _ hk => hk.2) (.int .i64 DY)) (fun _ hk => ⟨⟨hk.1.1.2.1, ⟨hk.1.1.2.2.1, ⟨hk.1.1.2.2.2, hk.1.2⟩⟩⟩, hk.1.1.1⟩)) hg hat); replace zh := ae.mk (bZ (g := lU) (o := .cells #[.int .i64 xg, .int .i64 yB, .int .i64 AA, .int .i64 DY] 23 (0, 0)) (by refine bM (cs := #[.int .i64 xg, .int .i64 yB, .int .i64 AA, .int .i64 0]) ?_ 3 _ rfl; refine bM (cs := #[.int .i64 xg, .int .i64 yB, .int .i64 0, .int .i64 0]) ?_ 2 _ rfl; refine bM (cs := #[.int .i64 xg, .int .i64 0, .int .i64 0, .int .i64 0]) ?_ 1 _ rfl; refine bM (cs := #[.int .i64 0, .int .i64 0, .int .i64 0, .int .i64 0]) ?_ 0 _ rfl; exact zh.out) hg (Kd.oU fE.out (fun _ hk => hk.2))); replace HB := ae.mk (hb); clear fE; clear ho hb hg hat))
              go_roundg k2
              case measure => have := HJ4.out; have := v_.out; omega
              case rel => exact ⟨(alA), (ZP), (wrap64 ((wrap64 (jQ + 1)) + (rd l2 fG))), (wrap64 (fG + 1)), (by rfl), (by rfl), H', ⟨by have := HJ4.out; have := v_.out; omega⟩, ⟨by exact Kd.cZ alX.out (fun _ hk => ⟨hk.1, ⟨hk.2.1, hk.2.2.1⟩⟩)⟩, ⟨by exact Kd.cZ AV.out (fun _ hk => ⟨hk.2, ⟨hk.1.1, hk.1.2.1⟩⟩)⟩, ⟨by exact dP.out⟩, ⟨by exact bG.out⟩, ⟨by repeat ((with_reducible exact HB.out))⟩⟩
             ·rw [if_neg c50] at H
              exact absurd H (by simp)
          ·rw [if_neg c29] at H
           exact absurd H (by simp)
         ·rw [if_neg VV] at H
          have anb : decide (0 < fG) = false := decide_eq_false VV
          clear VV
          by_cases VZ : (rd l2 fG) < 1
          ·rw [if_pos VZ] at H
           have ann : decide ((rd l2 fG) < 1) = true := decide_eq_true VZ
           clear VZ
           simp only [Option.some.injEq, Prod.mk.injEq] at H
           obtain ⟨rfl, rfl, rfl⟩ := H
           have ru : 0 ≤ (fG : Int) := of_decide_eq_true (by (with_reducible assumption))
           have ry : fG < (l2.length : Int) := of_decide_eq_true (by (with_reducible assumption))
           obtain ⟨Nl, e254, lL⟩ := Kd.iU HR2.out fG ru ry
           cases e254
           replace lL := (HB.out.cell (World.block_lt_of_cell? w _ lL)).trans lL
           replace ru := eq_true ru
           replace ry := eq_true ry
           go_wp2
           go_ret3
           exact ⟨_, _, by rfl, by exact Kd.nI _ _ _ _ _, by exact Kd.nI _ _ _ _ _, by repeat ((with_reducible exact HB.out))⟩
          ·rw [if_neg VZ] at H
           have ann : decide ((rd l2 fG) < 1) = false := decide_eq_false VZ
           clear VZ
           by_cases V3 : (rd l2 fG) > (wrap64 ((wrap64 (iD + ja)) - jQ))
           ·rw [if_pos V3] at H
            have ano : decide ((wrap64 ((wrap64 (iD + ja)) - jQ)) < (rd l2 fG)) = true := decide_eq_true V3
            clear V3
            simp only [Option.some.injEq, Prod.mk.injEq] at H
            obtain ⟨rfl, rfl, rfl⟩ := H
            have ru : 0 ≤ (fG : Int) := of_decide_eq_true (by (with_reducible assumption))
            have ry : fG < (l2.length : Int) := of_decide_eq_true (by (with_reducible assumption))
            obtain ⟨Nl, e254, lL⟩ := Kd.iU HR2.out fG ru ry
            cases e254
            replace lL := (HB.out.cell (World.block_lt_of_cell? w _ lL)).trans lL
            replace ru := eq_true ru
            replace ry := eq_true ry
            have avt := ql.out
            have avT := jD.out
            have aqI : wr.cell? ⟨dU, 0, none⟩ = some (.int .i64 iD) := (af bG.out 0).trans rfl
            have aqJ : wr.cell? ⟨dU, 1, none⟩ = some (.int .i64 iY) := (af bG.out 1).trans rfl
            have aqK : wr.cell? ⟨dU, 2, none⟩ = some (.int .i64 ja) := (af bG.out 2).trans rfl
            have aqL : wr.cell? ⟨dU, 3, none⟩ = some (.int .i64 jl) := (af bG.out 3).trans rfl
            have arY := ag bG.out 0
            have arZ := ag bG.out 1
            have ar0 := ag bG.out 2
            have ar1 := ag bG.out 3
            go_wp2
            go_ret3
            exact ⟨_, _, by rfl, by exact Kd.nI _ _ _ _ _, by exact Kd.nI _ _ _ _ _, by repeat ((with_reducible exact HB.out))⟩
           ·rw [if_neg V3] at H
            have ano : decide ((wrap64 ((wrap64 (iD + ja)) - jQ)) < (rd l2 fG)) = false := decide_eq_false V3
            clear V3
            replace H := Option.bind_eq_some_iff.mp H
            obtain ⟨⟨xh, yC, AB, DZ, apl⟩, ai4, H⟩ := H
            replace H : (if tJ.length < 4398046511104 then (bW.l0 k2 a1 (tJ ++ [(⟨xh, yC, AB, DZ⟩ : bC)]) xI (wrap64 (jQ + (rd l2 fG))) l2 (l2.length : Int) (wrap64 (fG + 1)) iD iY ja jl) else (none)) = some (r1, r2, r3) := H
            have A71 := ae.mk ai4
            clear ai4
            by_cases c72 : tJ.length < 4398046511104
            ·rw [if_pos c72] at H
             have amq := ae.mk c72
             clear c72
             obtain ⟨alB, YY⟩ : ∃ y_ : List (bC), y_ = (tJ ++ [(⟨xh, yC, AB, DZ⟩ : bC)]) := ⟨_, rfl⟩
             replace H : (bW.l0 k2 a1 alB xI (wrap64 (jQ + (rd l2 fG))) l2 (l2.length : Int) (wrap64 (fG + 1)) iD iY ja jl) = some (r1, r2, r3) := by (rw [YY]; with_reducible exact H)
             have amx := ae.mk YY
             clear YY
             have H' := ae.mk H
             clear H
             have ru : 0 ≤ (fG : Int) := of_decide_eq_true (by (with_reducible assumption))
             have ry : fG < (l2.length : Int) := of_decide_eq_true (by (with_reducible assumption))
             obtain ⟨Nl, e254, lL⟩ := Kd.iU HR2.out fG ru ry
             cases e254
             replace lL := (HB.out.cell (World.block_lt_of_cell? w _ lL)).trans lL
             replace ru := eq_true ru
             replace ry := eq_true ry
             have avu := ql.out
             have avU := jD.out
             have aqM : wr.cell? ⟨dU, 0, none⟩ = some (.int .i64 iD) := (af bG.out 0).trans rfl
             have aqN : wr.cell? ⟨dU, 1, none⟩ = some (.int .i64 iY) := (af bG.out 1).trans rfl
             have aqO : wr.cell? ⟨dU, 2, none⟩ = some (.int .i64 ja) := (af bG.out 2).trans rfl
             have aqP : wr.cell? ⟨dU, 3, none⟩ = some (.int .i64 jl) := (af bG.out 3).trans rfl
             have ar2 := ag bG.out 0
             have ar4 := ag bG.out 1
             have ar5 := ag bG.out 2
             have ar6 := ag bG.out 3
             go_wp2_with (first | ((with_reducible refine dn (f := 127) rfl ?_); refine gu (some 88) rfl rfl Try.func127 (by kernel_rfl) rfl #[.agg #[.int .i64 jQ, .int .i64 iY, .int .i64 (rd l2 fG), .int .i64 jl], .int .u8 a1] rfl (by (try simp only [List.map_toArray, List.map_cons, List.map_nil]); rfl) ?_; (with_reducible refine (jR.calls jQ iY (rd l2 fG) jl a1 xh yC AB DZ apl _ A71.out).mono ?_); rintro e w75 ⟨rfl, hb⟩; refine ⟨_, rfl, ?_⟩; replace fE := ae.mk (Kd.fJ fE.out hb); replace fP := ae.mk (Kd.fJ fP.out hb); replace dP := ae.mk (aK dP.out hb); replace bG := ae.mk (aK bG.out hb); replace HB := ae.mk (aH (by repeat ((with_reducible exact HB.out))) hb); (try clear hb)) | ((with_reducible refine aQ (N := 18) rfl ?_); (try (refine eQ (by rfl) ?_; dsimp only)); refine aX ?hg (N := 18) ?hd (cs := #[.int .i64 0, .int .i64 0, .int .i64 0, .int .i64 0]) (t := 23) ?hr ?_; (case hd => rfl); (case hg => rfl); (case hr => (go_simp; done)); intro mD hg w76 hbox hb; have zi := ae.mk (hbox); have aer := ae.mk ((by rw [hg]; exact (aY (by repeat ((with_reducible exact HB.out)))) : w.heap.size ≤ mD)); have sG := ae.mk ((by rw [hg]; exact Nat.ne_of_lt (eP dP.out) : iV ≠ mD)); have aag := ae.mk ((by rw [hg]; exact Nat.ne_of_gt (eP dP.out) : mD ≠ iV)); have sK := ae.mk ((by rw [hg]; exact Nat.ne_of_lt (eP bG.out) : dU ≠ mD)); have aah := ae.mk ((by rw [hg]; exact Nat.ne_of_gt (eP bG.out) : mD ≠ dU)); replace fE := ae.mk (Kd.fJ (Kd.tN fE.out mD (Nat.le_of_eq hg.symm)) hb); replace fP := ae.mk (Kd.fJ (Kd.tN fP.out mD (Nat.le_of_eq hg.symm)) hb); replace dP := ae.mk (aK dP.out hb); replace bG := ae.mk (aK bG.out hb); replace HB := ae.mk (aH (by repeat ((with_reducible exact HB.out))) hb); clear hb hbox hg; have avv := aag.out; have avV := sG.out; have avw := aah.out; have avW := sK.out; have aqQ : w76.cell? ⟨mD, 0, none⟩ = some (.int .i64 0) := (af zi.out 0).trans rfl; have aqR : w76.cell? ⟨mD, 1, none⟩ = some (.int .i64 0) := (af zi.out 1).trans rfl; have aqS : w76.cell? ⟨mD, 2, none⟩ = some (.int .i64 0) := (af zi.out 2).trans rfl; have aqT : w76.cell? ⟨mD, 3, none⟩ = some (.int .i64 0) := (af zi.out 3).trans rfl; have ar7 := ag zi.out 0; have ar8 := ag zi.out 1; have ar9 := ag zi.out 2; have ar_ := ag zi.out 3) | ((with_reducible refine ji (b := .append) (xs := #[.tmp 91, .tmp 93]) rfl ?_); (try (refine eQ (by rfl) ?_; dsimp only)); at_builtin; refine Kd.oG k23 (w0 := w) w.heap.size rfl (.tmp 91) (.tmp 93) 42 23 (.agg #[(.int .i64 0), (.int .i64 0), (.int .i64 0), (.int .i64 0)]) 32 rfl Try.underlying42 info23 rfl (by decide) (by omega) u11 tJ (⟨xh, yC, AB, DZ⟩ : bC) [.int .i64 xh, .int .i64 yC, .int .i64 AB, .int .i64 DZ] (fun k_ => some k_ ≠ (u12 : Value).ownBlock ∧ k_ ≠ iV ∧ k_ ≠ dU ∧ k_ ≠ mD) (fun _ => False) rfl (by (go_simp; done)) ?aP (fun _ hk => hk.elim) ?aF ?aO ?aB ?aS ?aL ?_; (case aP => exact qV _ _ _ (⟨xh, yC, AB, DZ⟩ : bC)); (case aB => exact (by repeat ((with_reducible first | exact HB.out | refine iw ?_ aer.out)))); (case aF => exact (fun k_ hk => ⟨Kd.fresh' (Kd.lX (by exact (Kd.cZ (Kd.eF (p := ⟨mD, 3, none⟩) (Kd.eF (p := ⟨mD, 2, none⟩) (Kd.eF (p := ⟨mD, 1, none⟩) (Kd.eF (p := ⟨mD, 0, none⟩) (Kd.cZ fP.out (fun k_ hk => (⟨hk, hk.2⟩ : _ ∧ k_ ≠ mD))) (fun _ hk => hk.2) (.int .i64 xh)) (fun _ hk => hk.2) (.int .i64 yC)) (fun _ hk => hk.2) (.int .i64 AB)) (fun _ hk => hk.2) (.int .i64 DZ)) (fun _ h_ => h_.1)))) k_ hk, Kd.jM (g := iV) (o := .cells #[.int .i64 az, .int .i64 aC, .int .i64 aA, .int .i64 aG] 23 (0, 0)) (by refine bz ?_ sG.out _; refine bz ?_ sG.out _; refine bz ?_ sG.out _; refine bz ?_ sG.out _; exact dP.out) k_ hk, Kd.jM (g := dU) (o := .cells #[.int .i64 iD, .int .i64 iY, .int .i64 ja, .int .i64 jl] 23 (0, 0)) (by refine bz ?_ sK.out _; refine bz ?_ sK.out _; refine bz ?_ sK.out _; refine bz ?_ sK.out _; exact bG.out) k_ hk, Kd.jM (g := mD) (o := .cells #[.int .i64 xh, .int .i64 yC, .int .i64 AB, .int .i64 DZ] 23 (0, 0)) (by refine bM (cs := #[.int .i64 xh, .int .i64 yC, .int .i64 AB, .int .i64 0]) ?_ 3 _ rfl; refine bM (cs := #[.int .i64 xh, .int .i64 yC, .int .i64 0, .int .i64 0]) ?_ 2 _ rfl; refine bM (cs := #[.int .i64 xh, .int .i64 0, .int .i64 0, .int .i64 0]) ?_ 1 _ rfl; refine bM (cs := #[.int .i64 0, .int .i64 0, .int .i64 0, .int .i64 0]) ?_ 0 _ rfl; exact zi.out) k_ hk⟩)); (case aO => exact (by exact Kd.cZ (Kd.eF (p := ⟨mD, 3, none⟩) (Kd.eF (p := ⟨mD, 2, none⟩) (Kd.eF (p := ⟨mD, 1, none⟩) (Kd.eF (p := ⟨mD, 0, none⟩) (Kd.cZ fE.out (fun k_ hk => (⟨hk, hk.2⟩ : _ ∧ k_ ≠ mD))) (fun _ hk => hk.2) (.int .i64 xh)) (fun _ hk => hk.2) (.int .i64 yC)) (fun _ hk => hk.2) (.int .i64 AB)) (fun _ hk => hk.2) (.int .i64 DZ)) (fun _ hk => ⟨hk.1.1.1, ⟨hk.1.1.2.1, ⟨hk.1.1.2.2, hk.1.2⟩⟩⟩))); (case aS => exact (aY (by repeat ((with_reducible first | exact HB.out | refine iw ?_ aer.out))))); (case aL => have := amq.out; omega); intro awI w80 ho hb hg hat; rw [← amx.out] at ho; have alY := ae.mk (ho); replace fP := ae.mk (Kd.qy (ok := (fun k_ => k_ ≠ iV ∧ k_ ≠ dU ∧ k_ ≠ mD)) (by exact Kd.cZ (Kd.eF (p := ⟨mD, 3, none⟩) (Kd.eF (p := ⟨mD, 2, none⟩) (Kd.eF (p := ⟨mD, 1, none⟩) (Kd.eF (p := ⟨mD, 0, none⟩) (Kd.cZ fP.out (fun k_ hk => (⟨hk, hk.2⟩ : _ ∧ k_ ≠ mD))) (fun _ hk => hk.2) (.int .i64 xh)) (fun _ hk => hk.2) (.int .i64 yC)) (fun _ hk => hk.2) (.int .i64 AB)) (fun _ hk => hk.2) (.int .i64 DZ)) (fun _ hk => ⟨⟨hk.1.1.2.1, ⟨hk.1.1.2.2, hk.1.2⟩⟩, hk.1.1.1⟩)) hg hat); replace dP := ae.mk (bZ (g := iV) (o := .cells #[.int .i64 az, .int .i64 aC, .int .i64 aA, .int .i64 aG] 23 (0, 0)) (by refine bz ?_ sG.out _; refine bz ?_ sG.out _; refine bz ?_ sG.out _; refine bz ?_ sG.out _; exact dP.out) hg (Kd.oU fE.out (fun _ hk => hk.1.2.1))); replace bG := ae.mk (bZ (g := dU) (o := .cells #[.int .i64 iD, .int .i64 iY, .int .i64 ja, .int .i64 jl] 23 (0, 0)) (by refine bz ?_ sK.out _; refine bz ?_ sK.out _; refine bz ?_ sK.out _; refine bz ?_ sK.out _; exact bG.out) hg (Kd.oU fE.out (fun _ hk => hk.1.2.2))); replace zi := ae.mk (bZ (g := mD) (o := .cells #[.int .i64 xh, .int .i64 yC, .int .i64 AB, .int .i64 DZ] 23 (0, 0)) (by refine bM (cs := #[.int .i64 xh, .int .i64 yC, .int .i64 AB, .int .i64 0]) ?_ 3 _ rfl; refine bM (cs := #[.int .i64 xh, .int .i64 yC, .int .i64 0, .int .i64 0]) ?_ 2 _ rfl; refine bM (cs := #[.int .i64 xh, .int .i64 0, .int .i64 0, .int .i64 0]) ?_ 1 _ rfl; refine bM (cs := #[.int .i64 0, .int .i64 0, .int .i64 0, .int .i64 0]) ?_ 0 _ rfl; exact zi.out) hg (Kd.oU fE.out (fun _ hk => hk.2))); replace HB := ae.mk (hb); clear fE; clear ho hb hg hat))
             go_roundg k2
             case measure => have := HJ4.out; have := v_.out; omega
             case rel => exact ⟨(alB), (xI), (wrap64 (jQ + (rd l2 fG))), (wrap64 (fG + 1)), (by rfl), (by rfl), H', ⟨by have := HJ4.out; have := v_.out; omega⟩, ⟨by exact Kd.cZ alY.out (fun _ hk => ⟨hk.1, ⟨hk.2.1, hk.2.2.1⟩⟩)⟩, ⟨by exact Kd.cZ fP.out (fun _ hk => ⟨hk.2, ⟨hk.1.1, hk.1.2.1⟩⟩)⟩, ⟨by exact dP.out⟩, ⟨by exact bG.out⟩, ⟨by repeat ((with_reducible exact HB.out))⟩⟩
            ·rw [if_neg c72] at H
             exact absurd H (by simp)
        ·rw [if_neg c26] at H
         exact absurd H (by simp)
       ·rw [if_neg c25] at H
        exact absurd H (by simp)
      ·rw [if_neg c24] at H
       have Yv : decide (fG < (l2.length : Int)) = false := decide_eq_false c24
       clear c24
       by_cases TG : jQ = (wrap64 (iD + ja))
       ·rw [if_pos TG] at H
        have anp : (jQ == (wrap64 (iD + ja))) = true := beq_iff_eq.mpr TG
        have anq : (jQ != (wrap64 (iD + ja))) = false := bne_eq_false_iff_eq.mpr TG
        clear TG
        simp only [Option.some.injEq, Prod.mk.injEq] at H
        obtain ⟨rfl, rfl, rfl⟩ := H
        have avx := ql.out
        have avX := jD.out
        have aqU : wr.cell? ⟨dU, 0, none⟩ = some (.int .i64 iD) := (af bG.out 0).trans rfl
        have aqV : wr.cell? ⟨dU, 1, none⟩ = some (.int .i64 iY) := (af bG.out 1).trans rfl
        have aqW : wr.cell? ⟨dU, 2, none⟩ = some (.int .i64 ja) := (af bG.out 2).trans rfl
        have aqX : wr.cell? ⟨dU, 3, none⟩ = some (.int .i64 jl) := (af bG.out 3).trans rfl
        have ar' := ag bG.out 0
        have asa := ag bG.out 1
        have asb := ag bG.out 2
        have asc := ag bG.out 3
        go_wp2
        go_ret3
        exact ⟨_, _, by rfl, by exact Kd.cZ fE.out (fun _ hk => hk.1), by exact Kd.cZ fP.out (fun _ hk => hk.1), by repeat ((with_reducible exact HB.out))⟩
       ·rw [if_neg TG] at H
        have anp : (jQ == (wrap64 (iD + ja))) = false := beq_eq_false_iff_ne.mpr TG
        have anq : (jQ != (wrap64 (iD + ja))) = true := bne_iff_ne.mpr TG
        simp only [Option.some.injEq, Prod.mk.injEq] at H
        obtain ⟨rfl, rfl, rfl⟩ := H
        have avy := ql.out
        have avY := jD.out
        have aqY : wr.cell? ⟨dU, 0, none⟩ = some (.int .i64 iD) := (af bG.out 0).trans rfl
        have aqZ : wr.cell? ⟨dU, 1, none⟩ = some (.int .i64 iY) := (af bG.out 1).trans rfl
        have aq0 : wr.cell? ⟨dU, 2, none⟩ = some (.int .i64 ja) := (af bG.out 2).trans rfl
        have aq1 : wr.cell? ⟨dU, 3, none⟩ = some (.int .i64 jl) := (af bG.out 3).trans rfl
        have ase := ag bG.out 0
        have asf := ag bG.out 1
        have asg := ag bG.out 2
        have ash := ag bG.out 3
        go_wp2
        go_ret3
        exact ⟨_, _, by rfl, by exact Kd.nI _ _ _ _ _, by exact Kd.nI _ _ _ _ _, by repeat ((with_reducible exact HB.out))⟩
end Go.Proofs.Ytfdmfgaiblfbhaa.P
namespace Go.Proofs.Ytfdmfgaiblfbhaa.P
open Go.RowKit Go.Proofs.ai.bg Go.Proofs.ai.di Go.Proofs.ai.dG
attribute [local go_sem] kD kF lN lQ jF jG kE kG
attribute [local go_sem high] Sj
def mX.f (k : Nat)  : Option (Bool) := (bW.f k 0 0 80 24 1 (([40, 39] : List Int))).bind fun xw => (if xw.2.2 = true then (if (xw.1.length : Int) = 2 then (if 1 < (xw.1.length : Int) then (if (((fQ xw.1 1).f0) == 41 && (((fQ xw.1 1).f1) == 0 && (((fQ xw.1 1).f2) == 39 && (((fQ xw.1 1).f3) == 24)))) = true then (if (xw.2.1.length : Int) = 1 then (if 0 < (xw.2.1.length : Int) then (some (((fQ xw.2.1 0).f0) == 40 && (((fQ xw.2.1 0).f1) == 0 && (((fQ xw.2.1 0).f2) == 1 && (((fQ xw.2.1 0).f3) == 24))))) else (none)) else (some false)) else (some false)) else (none)) else (some false)) else (some false))
theorem mX.mono : ∀ k, jC (mX.f k ) (mX.f (k + 1) ) := by
 intro  k
 unfold mX.f
 repeat' first | (with_reducible exact bW.mono _ _ _ _ _ _ _) | (with_reducible exact jC.refl _) | (with_reducible refine jC.bind ?_ (fun _ => ?_))
end Go.Proofs.Ytfdmfgaiblfbhaa.P
namespace Go.Proofs.Ytfdmfgaiblfbhaa.P
open Go.RowKit Go.Proofs.ai.bg Go.Proofs.ai.di Go.Proofs.ai.dG
attribute [local go_sem] kD kF lN lQ jF jG kE kG
def lI.f (az : Int) (aC : Int) (aA : Int) (aG : Int) : Option (Bool) := if az < 0 then (some false) else (if az > 10000 then (some false) else (if aC < 0 then (some false) else (if aC > 10000 then (some false) else (if aA > 0 then (if aA ≤ 10000 then (if aG > 0 then (if aG ≤ 10000 then (if (wrap64 (az + aA)) ≤ 10000 then (some (decide ((wrap64 (aC + aG)) ≤ 10000))) else (some false)) else (some false)) else (some false)) else (some false)) else (some false)))))
theorem lI.calls (az : Int) (aC : Int) (aA : Int) (aG : Int) (r : Bool) (w : World) (h : lI.f az aC aA aG = some r) :
  Calls Try.prog 57 #[.agg #[.int .i64 az, .int .i64 aC, .int .i64 aA, .int .i64 aG]] w fun e w' => e = .returned (.bool r) ∧ Below w.heap.size w w' := by
 have EX := Try.underlying23
 have HB := ae.mk (Below.refl w.heap.size w)
 have H : (if az < 0 then (some false) else (if az > 10000 then (some false) else (if aC < 0 then (some false) else (if aC > 10000 then (some false) else (if aA > 0 then (if aA ≤ 10000 then (if aG > 0 then (if aG ≤ 10000 then (if (wrap64 (az + aA)) ≤ 10000 then (some (decide ((wrap64 (aC + aG)) ≤ 10000))) else (some false)) else (some false)) else (some false)) else (some false)) else (some false)))))) = some r := h
 clear h
 by_cases c2 : az < 0
 ·rw [if_pos c2] at H
  have Iy : decide (az < 0) = true := decide_eq_true c2
  clear c2
  obtain rfl := Option.some.inj H
  go_enter Try.func57, Try.ntmps57
  go_wp2_with (((with_reducible refine aQ (N := 1) rfl ?_); refine aX ?hg (N := 1) ?hd (cs := #[.int .i64 az, .int .i64 aC, .int .i64 aA, .int .i64 aG]) (t := 23) ?hr ?_; (case hd => rfl); (case hg => rfl); (case hr => (go_simp; done)); intro iZ hg w3 hbox hb; have dN := ae.mk (hbox); replace HB := ae.mk (aH (by repeat ((with_reducible exact HB.out))) hb); clear hb hbox hg; have II : w3.cell? ⟨iZ, 0, none⟩ = some (.int .i64 az) := (af dN.out 0).trans rfl; have IJ : w3.cell? ⟨iZ, 1, none⟩ = some (.int .i64 aC) := (af dN.out 1).trans rfl; have IK : w3.cell? ⟨iZ, 2, none⟩ = some (.int .i64 aA) := (af dN.out 2).trans rfl; have IL : w3.cell? ⟨iZ, 3, none⟩ = some (.int .i64 aG) := (af dN.out 3).trans rfl; have I7 := ag dN.out 0; have I8 := ag dN.out 1; have I9 := ag dN.out 2; have I_ := ag dN.out 3))
  go_ret
  exact ⟨by rfl, by repeat ((with_reducible exact HB.out))⟩
 ·rw [if_neg c2] at H
  have Iy : decide (az < 0) = false := decide_eq_false c2
  clear c2
  by_cases c5 : az > 10000
  ·rw [if_pos c5] at H
   have ET : decide (10000 < az) = true := decide_eq_true c5
   clear c5
   obtain rfl := Option.some.inj H
   go_enter Try.func57, Try.ntmps57
   go_wp2_with (((with_reducible refine aQ (N := 1) rfl ?_); refine aX ?hg (N := 1) ?hd (cs := #[.int .i64 az, .int .i64 aC, .int .i64 aA, .int .i64 aG]) (t := 23) ?hr ?_; (case hd => rfl); (case hg => rfl); (case hr => (go_simp; done)); intro iZ hg w6 hbox hb; have dN := ae.mk (hbox); replace HB := ae.mk (aH (by repeat ((with_reducible exact HB.out))) hb); clear hb hbox hg; have Dj : w6.cell? ⟨iZ, 0, none⟩ = some (.int .i64 az) := (af dN.out 0).trans rfl; have Dk : w6.cell? ⟨iZ, 1, none⟩ = some (.int .i64 aC) := (af dN.out 1).trans rfl; have Dl : w6.cell? ⟨iZ, 2, none⟩ = some (.int .i64 aA) := (af dN.out 2).trans rfl; have Dn : w6.cell? ⟨iZ, 3, none⟩ = some (.int .i64 aG) := (af dN.out 3).trans rfl; have Dq := ag dN.out 0; have Dt := ag dN.out 1; have Du := ag dN.out 2; have Dv := ag dN.out 3))
   go_ret
   exact ⟨by rfl, by repeat ((with_reducible exact HB.out))⟩
  ·rw [if_neg c5] at H
   have ET : decide (10000 < az) = false := decide_eq_false c5
   clear c5
   by_cases c8 : aC < 0
   ·rw [if_pos c8] at H
    have vZ : decide (aC < 0) = true := decide_eq_true c8
    clear c8
    obtain rfl := Option.some.inj H
    go_enter Try.func57, Try.ntmps57
    go_wp2_with (((with_reducible refine aQ (N := 1) rfl ?_); refine aX ?hg (N := 1) ?hd (cs := #[.int .i64 az, .int .i64 aC, .int .i64 aA, .int .i64 aG]) (t := 23) ?hr ?_; (case hd => rfl); (case hg => rfl); (case hr => (go_simp; done)); intro iZ hg w9 hbox hb; have dN := ae.mk (hbox); replace HB := ae.mk (aH (by repeat ((with_reducible exact HB.out))) hb); clear hb hbox hg; have JU : w9.cell? ⟨iZ, 0, none⟩ = some (.int .i64 az) := (af dN.out 0).trans rfl; have JV : w9.cell? ⟨iZ, 1, none⟩ = some (.int .i64 aC) := (af dN.out 1).trans rfl; have JW : w9.cell? ⟨iZ, 2, none⟩ = some (.int .i64 aA) := (af dN.out 2).trans rfl; have JX : w9.cell? ⟨iZ, 3, none⟩ = some (.int .i64 aG) := (af dN.out 3).trans rfl; have J5 := ag dN.out 0; have J6 := ag dN.out 1; have J7 := ag dN.out 2; have J8 := ag dN.out 3))
    go_ret
    exact ⟨by rfl, by repeat ((with_reducible exact HB.out))⟩
   ·rw [if_neg c8] at H
    have vZ : decide (aC < 0) = false := decide_eq_false c8
    clear c8
    by_cases c11 : aC > 10000
    ·rw [if_pos c11] at H
     have GZ : decide (10000 < aC) = true := decide_eq_true c11
     clear c11
     obtain rfl := Option.some.inj H
     go_enter Try.func57, Try.ntmps57
     go_wp2_with (((with_reducible refine aQ (N := 1) rfl ?_); refine aX ?hg (N := 1) ?hd (cs := #[.int .i64 az, .int .i64 aC, .int .i64 aA, .int .i64 aG]) (t := 23) ?hr ?_; (case hd => rfl); (case hg => rfl); (case hr => (go_simp; done)); intro iZ hg w12 hbox hb; have dN := ae.mk (hbox); replace HB := ae.mk (aH (by repeat ((with_reducible exact HB.out))) hb); clear hb hbox hg; have af1 : w12.cell? ⟨iZ, 0, none⟩ = some (.int .i64 az) := (af dN.out 0).trans rfl; have af2 : w12.cell? ⟨iZ, 1, none⟩ = some (.int .i64 aC) := (af dN.out 1).trans rfl; have af4 : w12.cell? ⟨iZ, 2, none⟩ = some (.int .i64 aA) := (af dN.out 2).trans rfl; have af5 : w12.cell? ⟨iZ, 3, none⟩ = some (.int .i64 aG) := (af dN.out 3).trans rfl; have agR := ag dN.out 0; have agS := ag dN.out 1; have agT := ag dN.out 2; have agU := ag dN.out 3))
     go_ret
     exact ⟨by rfl, by repeat ((with_reducible exact HB.out))⟩
    ·rw [if_neg c11] at H
     have GZ : decide (10000 < aC) = false := decide_eq_false c11
     clear c11
     by_cases c14 : aA > 0
     ·rw [if_pos c14] at H
      have RU : decide (0 < aA) = true := decide_eq_true c14
      clear c14
      by_cases c15 : aA ≤ 10000
      ·rw [if_pos c15] at H
       have Yu : decide (aA ≤ 10000) = true := decide_eq_true c15
       clear c15
       by_cases c16 : aG > 0
       ·rw [if_pos c16] at H
        have RX : decide (0 < aG) = true := decide_eq_true c16
        clear c16
        by_cases c17 : aG ≤ 10000
        ·rw [if_pos c17] at H
         have RY : decide (aG ≤ 10000) = true := decide_eq_true c17
         clear c17
         by_cases c18 : (wrap64 (az + aA)) ≤ 10000
         ·rw [if_pos c18] at H
          have aeO : decide ((wrap64 (az + aA)) ≤ 10000) = true := decide_eq_true c18
          clear c18
          obtain rfl := Option.some.inj H
          go_enter Try.func57, Try.ntmps57
          go_wp2_with (((with_reducible refine aQ (N := 1) rfl ?_); refine aX ?hg (N := 1) ?hd (cs := #[.int .i64 az, .int .i64 aC, .int .i64 aA, .int .i64 aG]) (t := 23) ?hr ?_; (case hd => rfl); (case hg => rfl); (case hr => (go_simp; done)); intro iZ hg GL hbox hb; have dN := ae.mk (hbox); replace HB := ae.mk (aH (by repeat ((with_reducible exact HB.out))) hb); clear hb hbox hg; have agq : GL.cell? ⟨iZ, 0, none⟩ = some (.int .i64 az) := (af dN.out 0).trans rfl; have agr : GL.cell? ⟨iZ, 1, none⟩ = some (.int .i64 aC) := (af dN.out 1).trans rfl; have ags : GL.cell? ⟨iZ, 2, none⟩ = some (.int .i64 aA) := (af dN.out 2).trans rfl; have agt : GL.cell? ⟨iZ, 3, none⟩ = some (.int .i64 aG) := (af dN.out 3).trans rfl; have ahd := ag dN.out 0; have ahe := ag dN.out 1; have ahf := ag dN.out 2; have ahg := ag dN.out 3))
          go_ret
          exact ⟨by rfl, by repeat ((with_reducible exact HB.out))⟩
         ·rw [if_neg c18] at H
          have aeO : decide ((wrap64 (az + aA)) ≤ 10000) = false := decide_eq_false c18
          clear c18
          obtain rfl := Option.some.inj H
          go_enter Try.func57, Try.ntmps57
          go_wp2_with (((with_reducible refine aQ (N := 1) rfl ?_); refine aX ?hg (N := 1) ?hd (cs := #[.int .i64 az, .int .i64 aC, .int .i64 aA, .int .i64 aG]) (t := 23) ?hr ?_; (case hd => rfl); (case hg => rfl); (case hr => (go_simp; done)); intro iZ hg KX hbox hb; have dN := ae.mk (hbox); replace HB := ae.mk (aH (by repeat ((with_reducible exact HB.out))) hb); clear hb hbox hg; have O5 : KX.cell? ⟨iZ, 0, none⟩ = some (.int .i64 az) := (af dN.out 0).trans rfl; have O6 : KX.cell? ⟨iZ, 1, none⟩ = some (.int .i64 aC) := (af dN.out 1).trans rfl; have O7 : KX.cell? ⟨iZ, 2, none⟩ = some (.int .i64 aA) := (af dN.out 2).trans rfl; have O8 : KX.cell? ⟨iZ, 3, none⟩ = some (.int .i64 aG) := (af dN.out 3).trans rfl; have Pq := ag dN.out 0; have Pv := ag dN.out 1; have Px := ag dN.out 2; have Py := ag dN.out 3))
          go_ret
          exact ⟨by rfl, by repeat ((with_reducible exact HB.out))⟩
        ·rw [if_neg c17] at H
         have RY : decide (aG ≤ 10000) = false := decide_eq_false c17
         clear c17
         obtain rfl := Option.some.inj H
         go_enter Try.func57, Try.ntmps57
         go_wp2_with (((with_reducible refine aQ (N := 1) rfl ?_); refine aX ?hg (N := 1) ?hd (cs := #[.int .i64 az, .int .i64 aC, .int .i64 aA, .int .i64 aG]) (t := 23) ?hr ?_; (case hd => rfl); (case hg => rfl); (case hr => (go_simp; done)); intro iZ hg JG hbox hb; have dN := ae.mk (hbox); replace HB := ae.mk (aH (by repeat ((with_reducible exact HB.out))) hb); clear hb hbox hg; have O9 : JG.cell? ⟨iZ, 0, none⟩ = some (.int .i64 az) := (af dN.out 0).trans rfl; have O_ : JG.cell? ⟨iZ, 1, none⟩ = some (.int .i64 aC) := (af dN.out 1).trans rfl; have Pg : JG.cell? ⟨iZ, 2, none⟩ = some (.int .i64 aA) := (af dN.out 2).trans rfl; have Ph : JG.cell? ⟨iZ, 3, none⟩ = some (.int .i64 aG) := (af dN.out 3).trans rfl; have Pz := ag dN.out 0; have PD := ag dN.out 1; have PE := ag dN.out 2; have PG := ag dN.out 3))
         go_ret
         exact ⟨by rfl, by repeat ((with_reducible exact HB.out))⟩
       ·rw [if_neg c16] at H
        have RX : decide (0 < aG) = false := decide_eq_false c16
        clear c16
        obtain rfl := Option.some.inj H
        go_enter Try.func57, Try.ntmps57
        go_wp2_with (((with_reducible refine aQ (N := 1) rfl ?_); refine aX ?hg (N := 1) ?hd (cs := #[.int .i64 az, .int .i64 aC, .int .i64 aA, .int .i64 aG]) (t := 23) ?hr ?_; (case hd => rfl); (case hg => rfl); (case hr => (go_simp; done)); intro iZ hg BV hbox hb; have dN := ae.mk (hbox); replace HB := ae.mk (aH (by repeat ((with_reducible exact HB.out))) hb); clear hb hbox hg; have agy : BV.cell? ⟨iZ, 0, none⟩ = some (.int .i64 az) := (af dN.out 0).trans rfl; have agz : BV.cell? ⟨iZ, 1, none⟩ = some (.int .i64 aC) := (af dN.out 1).trans rfl; have agA : BV.cell? ⟨iZ, 2, none⟩ = some (.int .i64 aA) := (af dN.out 2).trans rfl; have agB : BV.cell? ⟨iZ, 3, none⟩ = some (.int .i64 aG) := (af dN.out 3).trans rfl; have ahl := ag dN.out 0; have ahm := ag dN.out 1; have ahn := ag dN.out 2; have aho := ag dN.out 3))
        go_ret
        exact ⟨by rfl, by repeat ((with_reducible exact HB.out))⟩
      ·rw [if_neg c15] at H
       have Yu : decide (aA ≤ 10000) = false := decide_eq_false c15
       clear c15
       obtain rfl := Option.some.inj H
       go_enter Try.func57, Try.ntmps57
       go_wp2_with (((with_reducible refine aQ (N := 1) rfl ?_); refine aX ?hg (N := 1) ?hd (cs := #[.int .i64 az, .int .i64 aC, .int .i64 aA, .int .i64 aG]) (t := 23) ?hr ?_; (case hd => rfl); (case hg => rfl); (case hr => (go_simp; done)); intro iZ hg Vl hbox hb; have dN := ae.mk (hbox); replace HB := ae.mk (aH (by repeat ((with_reducible exact HB.out))) hb); clear hb hbox hg; have WI : Vl.cell? ⟨iZ, 0, none⟩ = some (.int .i64 az) := (af dN.out 0).trans rfl; have WJ : Vl.cell? ⟨iZ, 1, none⟩ = some (.int .i64 aC) := (af dN.out 1).trans rfl; have WL : Vl.cell? ⟨iZ, 2, none⟩ = some (.int .i64 aA) := (af dN.out 2).trans rfl; have WM : Vl.cell? ⟨iZ, 3, none⟩ = some (.int .i64 aG) := (af dN.out 3).trans rfl; have Xh := ag dN.out 0; have Xi := ag dN.out 1; have Xj := ag dN.out 2; have Xk := ag dN.out 3))
       go_ret
       exact ⟨by rfl, by repeat ((with_reducible exact HB.out))⟩
     ·rw [if_neg c14] at H
      have RU : decide (0 < aA) = false := decide_eq_false c14
      clear c14
      obtain rfl := Option.some.inj H
      go_enter Try.func57, Try.ntmps57
      go_wp2_with (((with_reducible refine aQ (N := 1) rfl ?_); refine aX ?hg (N := 1) ?hd (cs := #[.int .i64 az, .int .i64 aC, .int .i64 aA, .int .i64 aG]) (t := 23) ?hr ?_; (case hd => rfl); (case hg => rfl); (case hr => (go_simp; done)); intro iZ hg zO hbox hb; have dN := ae.mk (hbox); replace HB := ae.mk (aH (by repeat ((with_reducible exact HB.out))) hb); clear hb hbox hg; have agF : zO.cell? ⟨iZ, 0, none⟩ = some (.int .i64 az) := (af dN.out 0).trans rfl; have agG : zO.cell? ⟨iZ, 1, none⟩ = some (.int .i64 aC) := (af dN.out 1).trans rfl; have agH : zO.cell? ⟨iZ, 2, none⟩ = some (.int .i64 aA) := (af dN.out 2).trans rfl; have agI : zO.cell? ⟨iZ, 3, none⟩ = some (.int .i64 aG) := (af dN.out 3).trans rfl; have ahs := ag dN.out 0; have aht := ag dN.out 1; have ahu := ag dN.out 2; have ahv := ag dN.out 3))
      go_ret
      exact ⟨by rfl, by repeat ((with_reducible exact HB.out))⟩
end Go.Proofs.Ytfdmfgaiblfbhaa.P
namespace Go.Proofs.Ytfdmfgaiblfbhaa.P
open Go.RowKit Go.Proofs.ai.bg Go.Proofs.ai.di Go.Proofs.ai.dG
theorem wq {x : Int} (h0 : -9223372036854775808 ≤ x) (h1 : x ≤ 9223372036854775807) : wrap64 x = x := by unfold wrap64; omega
theorem pM {α : Type} {c : Prop} [Decidable c] {g f : Nat → Option α} {r : α} (hc : c) (h : Ev g r) : Ev (fun k => if c then g k else f k) r := by simp only [if_pos hc]; exact h
theorem qZ {α : Type} {c : Prop} [Decidable c] {g f : Nat → Option α} {r : α} (hc : ¬c) (h : Ev f r) : Ev (fun k => if c then g k else f k) r := by simp only [if_neg hc]; exact h
theorem anV (pre : List Int) (p : Int) (rest : List Int) : rd (pre ++ p :: rest) (pre.length : Int) = p := by
 simp [rd, List.getD_eq_getElem?_getD]
def zF (X Y W H : Int) : Bool := decide (0 ≤ X ∧ 1 ≤ W ∧ W ≤ 10000 ∧ X + W ≤ 10000 ∧ 0 ≤ Y ∧ 1 ≤ H ∧ H ≤ 10000 ∧ Y + H ≤ 10000)
theorem Xt {X Y W H : Int} : zF X Y W H = true ↔ (0 ≤ X ∧ 1 ≤ W ∧ W ≤ 10000 ∧ X + W ≤ 10000 ∧ 0 ≤ Y ∧ 1 ≤ H ∧ H ≤ 10000 ∧ Y + H ≤ 10000) := by unfold zF; rw [decide_eq_true_iff]
theorem UT (X Y W H : Int) : rE.f X Y W H = some (zF X Y W H) := by
 unfold rE.f zF
 by_cases h1 : X ≥ 0
 ·by_cases h2 : W ≥ 1
  ·by_cases h3 : W ≤ 10000
   ·rw [if_pos h1, if_pos h2, if_pos h3, wq (x := 10000 - W) (by omega) (by omega)]
    by_cases h4 : X ≤ 10000 - W
    ·rw [if_pos h4]
     by_cases h5 : Y ≥ 0
     ·by_cases h6 : H ≥ 1
      ·by_cases h7 : H ≤ 10000
       ·rw [if_pos h5, if_pos h6, if_pos h7, wq (x := 10000 - H) (by omega) (by omega)]
        congr 1
        rw [decide_eq_decide]
        omega
       ·rw [if_pos h5, if_pos h6, if_neg h7, decide_eq_false (by omega)]
      ·rw [if_pos h5, if_neg h6, decide_eq_false (by omega)]
     ·rw [if_neg h5, decide_eq_false (by omega)]
    ·rw [if_neg h4, decide_eq_false (by omega)]
   ·rw [if_pos h1, if_pos h2, if_neg h3, decide_eq_false (by omega)]
  ·rw [if_pos h1, if_neg h2, decide_eq_false (by omega)]
 ·rw [if_neg h1, decide_eq_false (by omega)]
theorem KP (X Y W H : Int) : lI.f X Y W H = some (zF X Y W H) := by
 unfold lI.f zF
 by_cases h1 : X < 0
 ·rw [if_pos h1, decide_eq_false (by omega)]
 ·rw [if_neg h1]
  by_cases h2 : X > 10000
  ·rw [if_pos h2, decide_eq_false (by omega)]
  ·rw [if_neg h2]
   by_cases h3 : Y < 0
   ·rw [if_pos h3, decide_eq_false (by omega)]
   ·rw [if_neg h3]
    by_cases h4 : Y > 10000
    ·rw [if_pos h4, decide_eq_false (by omega)]
    ·rw [if_neg h4]
     by_cases h5 : W > 0
     ·by_cases h6 : W ≤ 10000
      ·by_cases h7 : H > 0
       ·by_cases h8 : H ≤ 10000
        ·rw [if_pos h5, if_pos h6, if_pos h7, if_pos h8, wq (x := X + W) (by omega) (by omega), wq (x := Y + H) (by omega) (by omega)]
         by_cases h9 : X + W ≤ 10000
         ·rw [if_pos h9]
          congr 1
          rw [decide_eq_decide]
          omega
         ·rw [if_neg h9, decide_eq_false (by omega)]
        ·rw [if_pos h5, if_pos h6, if_pos h7, if_neg h8, decide_eq_false (by omega)]
       ·rw [if_pos h5, if_pos h6, if_neg h7, decide_eq_false (by omega)]
      ·rw [if_pos h5, if_neg h6, decide_eq_false (by omega)]
     ·rw [if_neg h5, decide_eq_false (by omega)]
def rQ (r : bC) : Bool := zF r.f0 r.f1 r.f2 r.f3
end Go.Proofs.Ytfdmfgaiblfbhaa.P
