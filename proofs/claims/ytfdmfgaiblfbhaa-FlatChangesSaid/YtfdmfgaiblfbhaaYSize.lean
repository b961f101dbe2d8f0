/- A tree's cells and their number: plain data. -/
import Derived.Test.YtfdmfgaiblfbhaaPK
namespace Go.Proofs.Ytfdmfgaiblfbhaa.P
open Go.RowKit Go.Proofs.YtfdmfgaiblfbhaaW.PrintWords Go.Proofs.YtfdmfgaiblfbhaaW.PrintLast Go.Proofs.YtfdmfgaiblfbhaaW.PrintMore

mutual
def allC : S26 → List S26
  | ⟨a, b, d, l⟩ => ⟨a, b, d, l⟩ :: allL l
def allL : List S26 → List S26
  | [] => []
  | c :: cs => allC c ++ allL cs
end
theorem allC_eq (c : S26) : allC c = c :: allL c.f3 := by cases c; simp [allC]
theorem allL_nil : allL [] = [] := by simp [allL]
theorem allL_cons (c : S26) (cs : List S26) : allL (c :: cs) = allC c ++ allL cs := by simp [allL]
theorem allL_app (a b : List S26) : allL (a ++ b) = allL a ++ allL b := by
  induction a with
  | nil => simp [allL_nil]
  | cons x xs ih => rw [List.cons_append, allL_cons, allL_cons, ih, List.append_assoc]
def sz (c : S26) : Nat := (allC c).length
def szL (l : List S26) : Nat := (allL l).length
theorem sz_eq (c : S26) : sz c = 1 + szL c.f3 := by unfold sz szL; rw [allC_eq, List.length_cons]; omega
theorem szL_nil : szL [] = 0 := by unfold szL; rw [allL_nil]; rfl
theorem szL_cons (c : S26) (cs : List S26) : szL (c :: cs) = sz c + szL cs := by unfold szL sz; rw [allL_cons, List.length_append]
theorem szL_app (a b : List S26) : szL (a ++ b) = szL a + szL b := by unfold szL; rw [allL_app, List.length_append]
theorem szL_len (l : List S26) : l.length ≤ szL l := by
  induction l with
  | nil => simp
  | cons x xs ih => rw [szL_cons, List.length_cons, sz_eq]; omega
theorem eta26 (c : S26) : (⟨c.f0, ⟨c.f1.f0, c.f1.f1, c.f1.f2, c.f1.f3⟩, c.f2, c.f3⟩ : S26) = c := by cases c; rfl
theorem szL_sum (l : List S26) : szL l = (l.map sz).sum := by
  induction l with
  | nil => rw [szL_nil]; rfl
  | cons x xs ih => rw [szL_cons, List.map_cons, List.sum_cons, ih]
end Go.Proofs.Ytfdmfgaiblfbhaa.P
