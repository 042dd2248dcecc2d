/- Contracts and facts of functions of the program, joined in one text. -/
import Derived.Test.YtkabcgmegljebaaGreatDoorRW
import Derived.WalkLawsBesides
import Derived.Test.YtkabcgmegljebaaGreatDoorProg
import Derived.Below
import Derived.Deep.Draws
import Derived.Deep.AppendLies
import Derived.Maps.AppendAt
import Derived.OwnWalk
import Derived.Laws.BytesArg
import Derived.Laws.MakeOwn
import Derived.Laws.OwnMore
import Derived.Deep.OwnRows
import Derived.Tactics
import Derived.Lib.ConvBytes
import Derived.Laws.Slices
import Derived.WalkKit
import Derived.KernelRfl
import Derived.RowKit3
import Derived.Deep.LoopGhost
import Derived.Deep.QuietTactic
import Derived.BigQuiet
import Derived.WideLaws
import Derived.Deep.DeepCutAuto
import Derived.Deep.CutBlock
import Derived.Deep.RegionHeld3
import Derived.Laws.Rows
import Derived.Lib.AppendStr
import Derived.ArgAppend
import Derived.Laws.IdiomCopy
import Derived.OrdersHeld
import Derived.Laws.BitsLemmas
import Derived.RowKit
import Derived.Laws.Externs
import Derived.WalkSpells
set_option maxHeartbeats 8000000
set_option maxRecDepth 100000
set_option linter.unusedVariables false
set_option linter.unusedSimpArgs false
namespace Go.Proofs.YtkabcgmegljebaaGreatDoor.Q
open Go.RowKit Go.Proofs.YtkabcgmegljebaaGreatDoorW.PrintWords Go.Proofs.YtkabcgmegljebaaGreatDoorW.PrintLast Go.Proofs.YtkabcgmegljebaaGreatDoorW.PrintMore
theorem bB {P : Prop} (h : P := by repeat (first | (with_reducible first | exact HB.out | apply xaH | apply xaG | apply xaK | refine xaF ?_ (xaA.out (by assumption))) | exact HB.out)) : P := h
theorem bA {P : Prop} (h : P := by repeat (first | (with_reducible first | exact HB.out | apply xaH | apply xaG | apply xaK | refine xaF ?_ (by simp)) | exact HB.out)) : P := h
theorem bS {w W w2 : World} (hb : Below W.heap.size W w2) (h : Below w.heap.size w W := by repeat (first | (with_reducible first | exact HB.out | apply xaH | apply xaG | apply xaK | refine xaF ?_ (xaA.out (by assumption))) | exact HB.out)) : xaA (Below w.heap.size w w2) := ⟨xaC h hb⟩
theorem bG {w W : World} {g : Nat} (hg : g = W.heap.size) (h : Below w.heap.size w W := by repeat (first | (with_reducible first | exact HB.out | apply xaH | apply xaG | apply xaK | refine xaF ?_ (xaA.out (by assumption))) | exact HB.out)) : xaA (w.heap.size ≤ g) := ⟨hg ▸ xeD h⟩
theorem bk {P Q : Prop} (q : xaA Q) (h : Q → P := by intro q_; (with_reducible repeat (first | refine xaZ ?_ _ | refine xaP ?_ | refine xaT ?_ _)); exact q_) : P := h q.out
theorem bK {w w1 w2 : World} {g : Nat} {o : Obj} (q : xaA (w.heap[g]? = some o)) (hb : Below w1.heap.size w1 w2) (h : w.heap[g]? = some o → w1.heap[g]? = some o := by intro q_; (with_reducible repeat (first | refine xaZ ?_ _ | refine xaP ?_ | refine xaT ?_ _)); exact q_) : xaA (w2.heap[g]? = some o) := ⟨xaD (h q.out) hb⟩
theorem sC {P Q : Prop} (q : xaA Q) (h : Q → P := by intro q_; repeat (first | exact (Kd.xaQ q_ HB.out) | (with_reducible refine Kd.C_alloc ?_ _) | (with_reducible refine Kd.C_drewN ?_ _) | (with_reducible refine Kd.C_drew ?_))) : P := h q.out
theorem eS {P : Prop} (h : P := by first | rfl | (simp; done) | (simp [*]; done)) : P := h
theorem eW {P : Prop} (h : P := by first | rfl | (simp [xcX, xcW] <;> rfl) | (simp [*, xcX, xcW] <;> rfl)) : P := h
theorem eN {P : Prop} (h : P := by first | omega | exact Nat.le_refl _) : P := h
theorem eD {P : Prop} (h : P := by repeat (first | exact xcG.refl _ | apply xcG.step)) : P := h
theorem blk3 {w : World} {g : Nat} {t : TypeId} {a b c : Value} (h : xaA (w.heap[g]? = some (.cells #[a, b, c] t (0, 0)))) : w.cell? ⟨g, 0, none⟩ = some a ∧ w.cell? ⟨g, 1, none⟩ = some b ∧ w.cell? ⟨g, 2, none⟩ = some c ∧ w.frozen? ⟨g, 0, none⟩ = false ∧ w.frozen? ⟨g, 1, none⟩ = false ∧ w.frozen? ⟨g, 2, none⟩ = false := ⟨(xaB h.out 0).trans rfl, (xaB h.out 1).trans rfl, (xaB h.out 2).trans rfl, xaE h.out 0, xaE h.out 1, xaE h.out 2⟩
theorem blk2 {w : World} {g : Nat} {t : TypeId} {a b : Value} (h : xaA (w.heap[g]? = some (.cells #[a, b] t (0, 0)))) : w.cell? ⟨g, 0, none⟩ = some a ∧ w.cell? ⟨g, 1, none⟩ = some b ∧ w.frozen? ⟨g, 0, none⟩ = false ∧ w.frozen? ⟨g, 1, none⟩ = false := ⟨(xaB h.out 0).trans rfl, (xaB h.out 1).trans rfl, xaE h.out 0, xaE h.out 1⟩
theorem blk5 {w : World} {g : Nat} {t : TypeId} {a b c d e : Value} (h : xaA (w.heap[g]? = some (.cells #[a, b, c, d, e] t (0, 0)))) : w.cell? ⟨g, 0, none⟩ = some a ∧ w.cell? ⟨g, 1, none⟩ = some b ∧ w.cell? ⟨g, 2, none⟩ = some c ∧ w.cell? ⟨g, 3, none⟩ = some d ∧ w.cell? ⟨g, 4, none⟩ = some e ∧ w.frozen? ⟨g, 0, none⟩ = false ∧ w.frozen? ⟨g, 1, none⟩ = false ∧ w.frozen? ⟨g, 2, none⟩ = false ∧ w.frozen? ⟨g, 3, none⟩ = false ∧ w.frozen? ⟨g, 4, none⟩ = false := ⟨(xaB h.out 0).trans rfl, (xaB h.out 1).trans rfl, (xaB h.out 2).trans rfl, (xaB h.out 3).trans rfl, (xaB h.out 4).trans rfl, xaE h.out 0, xaE h.out 1, xaE h.out 2, xaE h.out 3, xaE h.out 4⟩
theorem blk9 {w : World} {g : Nat} {t : TypeId} {a b c d e f i j k : Value} (h : xaA (w.heap[g]? = some (.cells #[a, b, c, d, e, f, i, j, k] t (0, 0)))) : w.cell? ⟨g, 0, none⟩ = some a ∧ w.cell? ⟨g, 1, none⟩ = some b ∧ w.cell? ⟨g, 2, none⟩ = some c ∧ w.cell? ⟨g, 3, none⟩ = some d ∧ w.cell? ⟨g, 4, none⟩ = some e ∧ w.cell? ⟨g, 5, none⟩ = some f ∧ w.cell? ⟨g, 6, none⟩ = some i ∧ w.cell? ⟨g, 7, none⟩ = some j ∧ w.cell? ⟨g, 8, none⟩ = some k ∧ w.frozen? ⟨g, 0, none⟩ = false ∧ w.frozen? ⟨g, 1, none⟩ = false ∧ w.frozen? ⟨g, 2, none⟩ = false ∧ w.frozen? ⟨g, 3, none⟩ = false ∧ w.frozen? ⟨g, 4, none⟩ = false ∧ w.frozen? ⟨g, 5, none⟩ = false ∧ w.frozen? ⟨g, 6, none⟩ = false ∧ w.frozen? ⟨g, 7, none⟩ = false ∧ w.frozen? ⟨g, 8, none⟩ = false := ⟨(xaB h.out 0).trans rfl, (xaB h.out 1).trans rfl, (xaB h.out 2).trans rfl, (xaB h.out 3).trans rfl, (xaB h.out 4).trans rfl, (xaB h.out 5).trans rfl, (xaB h.out 6).trans rfl, (xaB h.out 7).trans rfl, (xaB h.out 8).trans rfl, xaE h.out 0, xaE h.out 1, xaE h.out 2, xaE h.out 3, xaE h.out 4, xaE h.out 5, xaE h.out 6, xaE h.out 7, xaE h.out 8⟩
theorem blk10 {w : World} {g : Nat} {t : TypeId} {a b c d e f i j k l : Value} (h : xaA (w.heap[g]? = some (.cells #[a, b, c, d, e, f, i, j, k, l] t (0, 0)))) : w.cell? ⟨g, 0, none⟩ = some a ∧ w.cell? ⟨g, 1, none⟩ = some b ∧ w.cell? ⟨g, 2, none⟩ = some c ∧ w.cell? ⟨g, 3, none⟩ = some d ∧ w.cell? ⟨g, 4, none⟩ = some e ∧ w.cell? ⟨g, 5, none⟩ = some f ∧ w.cell? ⟨g, 6, none⟩ = some i ∧ w.cell? ⟨g, 7, none⟩ = some j ∧ w.cell? ⟨g, 8, none⟩ = some k ∧ w.cell? ⟨g, 9, none⟩ = some l ∧ w.frozen? ⟨g, 0, none⟩ = false ∧ w.frozen? ⟨g, 1, none⟩ = false ∧ w.frozen? ⟨g, 2, none⟩ = false ∧ w.frozen? ⟨g, 3, none⟩ = false ∧ w.frozen? ⟨g, 4, none⟩ = false ∧ w.frozen? ⟨g, 5, none⟩ = false ∧ w.frozen? ⟨g, 6, none⟩ = false ∧ w.frozen? ⟨g, 7, none⟩ = false ∧ w.frozen? ⟨g, 8, none⟩ = false ∧ w.frozen? ⟨g, 9, none⟩ = false := ⟨(xaB h.out 0).trans rfl, (xaB h.out 1).trans rfl, (xaB h.out 2).trans rfl, (xaB h.out 3).trans rfl, (xaB h.out 4).trans rfl, (xaB h.out 5).trans rfl, (xaB h.out 6).trans rfl, (xaB h.out 7).trans rfl, (xaB h.out 8).trans rfl, (xaB h.out 9).trans rfl, xaE h.out 0, xaE h.out 1, xaE h.out 2, xaE h.out 3, xaE h.out 4, xaE h.out 5, xaE h.out 6, xaE h.out 7, xaE h.out 8, xaE h.out 9⟩
section
variable {P : Program} {ops : Array Oper} {rest : List Oper} {o : Oper} {a : Act} {Q : Exit → Act → World → Prop}
theorem gG (f : FuncId) {ar : Array Operand} {ts : Array TypeId} {w : World} (h : wpList P ops Q (o :: rest) a w) (ho : o.op = .call { callee := .value (.func f), args := ar, argTypes := ts } := by rfl) : wpList P ops Q (o :: rest) a w := h
theorem goA {w : World} (N : Option Tmp) {f : FuncId} {fn : Func} {ar : Array Operand} {ts : Array TypeId} (hf : P.funcs[f]? = some fn) (args : Array Value)
  (h : Calls P f args w fun e w' => ∃ v, e = .returned v ∧ wpList P ops Q rest (a.put N v) w')
  (hd : o.dst = N := by rfl) (hg : o.guard = none := by rfl) (hop : o.op = .call { callee := .value (.func f), args := ar, argTypes := ts } := by with_reducible rfl) (hname : (fn.name == "runtime.NumGoroutine") = false := by kernel_rfl) (hb : fn.body.isSome = true := by rfl)
  (hargs : ar.map a.eval = args := by (try simp only [List.map_toArray, List.map_cons, List.map_nil]); first | done | rfl | (simp only [List.length_drop, List.length_take]; rfl)) : wpList P ops Q (o :: rest) a w := goesL_ N hd hg hf hname hb args hop hargs h
end
end Go.Proofs.YtkabcgmegljebaaGreatDoor.Q
namespace Go.Proofs.YtkabcgmegljebaaGreatDoor.H
open Go.RowKit Go.Proofs.YtkabcgmegljebaaGreatDoorW.PrintWords Go.Proofs.YtkabcgmegljebaaGreatDoorW.PrintLast Go.Proofs.YtkabcgmegljebaaGreatDoorW.PrintMore
theorem ce2 {w : World} {g : Nat} {t : TypeId} {v0 v1 : Value} (h : xaA (w.heap[g]? = some (.cells #[v0, v1] t (0, 0)))) : w.cell? ⟨g, 0, none⟩ = some v0 ∧ w.cell? ⟨g, 1, none⟩ = some v1 := ⟨(xaB h.out 0).trans rfl, (xaB h.out 1).trans rfl⟩
theorem cz2 {w : World} {g : Nat} {t : TypeId} {v0 v1 : Value} (h : xaA (w.heap[g]? = some (.cells #[v0, v1] t (0, 0)))) : (∀ j, w.frozen? ⟨g, j, none⟩ = false) ∧ w.cell? ⟨g, 0, none⟩ = some v0 ∧ w.cell? ⟨g, 1, none⟩ = some v1 := ⟨xaE h.out, ce2 h⟩
theorem ce3 {w : World} {g : Nat} {t : TypeId} {v0 v1 v2 : Value} (h : xaA (w.heap[g]? = some (.cells #[v0, v1, v2] t (0, 0)))) : w.cell? ⟨g, 0, none⟩ = some v0 ∧ w.cell? ⟨g, 1, none⟩ = some v1 ∧ w.cell? ⟨g, 2, none⟩ = some v2 := ⟨(xaB h.out 0).trans rfl, (xaB h.out 1).trans rfl, (xaB h.out 2).trans rfl⟩
theorem cz3 {w : World} {g : Nat} {t : TypeId} {v0 v1 v2 : Value} (h : xaA (w.heap[g]? = some (.cells #[v0, v1, v2] t (0, 0)))) : (∀ j, w.frozen? ⟨g, j, none⟩ = false) ∧ w.cell? ⟨g, 0, none⟩ = some v0 ∧ w.cell? ⟨g, 1, none⟩ = some v1 ∧ w.cell? ⟨g, 2, none⟩ = some v2 := ⟨xaE h.out, ce3 h⟩
theorem ce5 {w : World} {g : Nat} {t : TypeId} {v0 v1 v2 v3 v4 : Value} (h : xaA (w.heap[g]? = some (.cells #[v0, v1, v2, v3, v4] t (0, 0)))) : w.cell? ⟨g, 0, none⟩ = some v0 ∧ w.cell? ⟨g, 1, none⟩ = some v1 ∧ w.cell? ⟨g, 2, none⟩ = some v2 ∧ w.cell? ⟨g, 3, none⟩ = some v3 ∧ w.cell? ⟨g, 4, none⟩ = some v4 := ⟨(xaB h.out 0).trans rfl, (xaB h.out 1).trans rfl, (xaB h.out 2).trans rfl, (xaB h.out 3).trans rfl, (xaB h.out 4).trans rfl⟩
theorem cz5 {w : World} {g : Nat} {t : TypeId} {v0 v1 v2 v3 v4 : Value} (h : xaA (w.heap[g]? = some (.cells #[v0, v1, v2, v3, v4] t (0, 0)))) : (∀ j, w.frozen? ⟨g, j, none⟩ = false) ∧ w.cell? ⟨g, 0, none⟩ = some v0 ∧ w.cell? ⟨g, 1, none⟩ = some v1 ∧ w.cell? ⟨g, 2, none⟩ = some v2 ∧ w.cell? ⟨g, 3, none⟩ = some v3 ∧ w.cell? ⟨g, 4, none⟩ = some v4 := ⟨xaE h.out, ce5 h⟩
theorem ce6 {w : World} {g : Nat} {t : TypeId} {v0 v1 v2 v3 v4 v5 : Value} (h : xaA (w.heap[g]? = some (.cells #[v0, v1, v2, v3, v4, v5] t (0, 0)))) : w.cell? ⟨g, 0, none⟩ = some v0 ∧ w.cell? ⟨g, 1, none⟩ = some v1 ∧ w.cell? ⟨g, 2, none⟩ = some v2 ∧ w.cell? ⟨g, 3, none⟩ = some v3 ∧ w.cell? ⟨g, 4, none⟩ = some v4 ∧ w.cell? ⟨g, 5, none⟩ = some v5 := ⟨(xaB h.out 0).trans rfl, (xaB h.out 1).trans rfl, (xaB h.out 2).trans rfl, (xaB h.out 3).trans rfl, (xaB h.out 4).trans rfl, (xaB h.out 5).trans rfl⟩
theorem cz6 {w : World} {g : Nat} {t : TypeId} {v0 v1 v2 v3 v4 v5 : Value} (h : xaA (w.heap[g]? = some (.cells #[v0, v1, v2, v3, v4, v5] t (0, 0)))) : (∀ j, w.frozen? ⟨g, j, none⟩ = false) ∧ w.cell? ⟨g, 0, none⟩ = some v0 ∧ w.cell? ⟨g, 1, none⟩ = some v1 ∧ w.cell? ⟨g, 2, none⟩ = some v2 ∧ w.cell? ⟨g, 3, none⟩ = some v3 ∧ w.cell? ⟨g, 4, none⟩ = some v4 ∧ w.cell? ⟨g, 5, none⟩ = some v5 := ⟨xaE h.out, ce6 h⟩
theorem ce9 {w : World} {g : Nat} {t : TypeId} {v0 v1 v2 v3 v4 v5 v6 v7 v8 : Value} (h : xaA (w.heap[g]? = some (.cells #[v0, v1, v2, v3, v4, v5, v6, v7, v8] t (0, 0)))) : w.cell? ⟨g, 0, none⟩ = some v0 ∧ w.cell? ⟨g, 1, none⟩ = some v1 ∧ w.cell? ⟨g, 2, none⟩ = some v2 ∧ w.cell? ⟨g, 3, none⟩ = some v3 ∧ w.cell? ⟨g, 4, none⟩ = some v4 ∧ w.cell? ⟨g, 5, none⟩ = some v5 ∧ w.cell? ⟨g, 6, none⟩ = some v6 ∧ w.cell? ⟨g, 7, none⟩ = some v7 ∧ w.cell? ⟨g, 8, none⟩ = some v8 := ⟨(xaB h.out 0).trans rfl, (xaB h.out 1).trans rfl, (xaB h.out 2).trans rfl, (xaB h.out 3).trans rfl, (xaB h.out 4).trans rfl, (xaB h.out 5).trans rfl, (xaB h.out 6).trans rfl, (xaB h.out 7).trans rfl, (xaB h.out 8).trans rfl⟩
theorem cz9 {w : World} {g : Nat} {t : TypeId} {v0 v1 v2 v3 v4 v5 v6 v7 v8 : Value} (h : xaA (w.heap[g]? = some (.cells #[v0, v1, v2, v3, v4, v5, v6, v7, v8] t (0, 0)))) : (∀ j, w.frozen? ⟨g, j, none⟩ = false) ∧ w.cell? ⟨g, 0, none⟩ = some v0 ∧ w.cell? ⟨g, 1, none⟩ = some v1 ∧ w.cell? ⟨g, 2, none⟩ = some v2 ∧ w.cell? ⟨g, 3, none⟩ = some v3 ∧ w.cell? ⟨g, 4, none⟩ = some v4 ∧ w.cell? ⟨g, 5, none⟩ = some v5 ∧ w.cell? ⟨g, 6, none⟩ = some v6 ∧ w.cell? ⟨g, 7, none⟩ = some v7 ∧ w.cell? ⟨g, 8, none⟩ = some v8 := ⟨xaE h.out, ce9 h⟩
theorem ce10 {w : World} {g : Nat} {t : TypeId} {v0 v1 v2 v3 v4 v5 v6 v7 v8 v9 : Value} (h : xaA (w.heap[g]? = some (.cells #[v0, v1, v2, v3, v4, v5, v6, v7, v8, v9] t (0, 0)))) : w.cell? ⟨g, 0, none⟩ = some v0 ∧ w.cell? ⟨g, 1, none⟩ = some v1 ∧ w.cell? ⟨g, 2, none⟩ = some v2 ∧ w.cell? ⟨g, 3, none⟩ = some v3 ∧ w.cell? ⟨g, 4, none⟩ = some v4 ∧ w.cell? ⟨g, 5, none⟩ = some v5 ∧ w.cell? ⟨g, 6, none⟩ = some v6 ∧ w.cell? ⟨g, 7, none⟩ = some v7 ∧ w.cell? ⟨g, 8, none⟩ = some v8 ∧ w.cell? ⟨g, 9, none⟩ = some v9 := ⟨(xaB h.out 0).trans rfl, (xaB h.out 1).trans rfl, (xaB h.out 2).trans rfl, (xaB h.out 3).trans rfl, (xaB h.out 4).trans rfl, (xaB h.out 5).trans rfl, (xaB h.out 6).trans rfl, (xaB h.out 7).trans rfl, (xaB h.out 8).trans rfl, (xaB h.out 9).trans rfl⟩
theorem ce11 {w : World} {g : Nat} {t : TypeId} {v0 v1 v2 v3 v4 v5 v6 v7 v8 v9 v10 : Value} (h : xaA (w.heap[g]? = some (.cells #[v0, v1, v2, v3, v4, v5, v6, v7, v8, v9, v10] t (0, 0)))) : w.cell? ⟨g, 0, none⟩ = some v0 ∧ w.cell? ⟨g, 1, none⟩ = some v1 ∧ w.cell? ⟨g, 2, none⟩ = some v2 ∧ w.cell? ⟨g, 3, none⟩ = some v3 ∧ w.cell? ⟨g, 4, none⟩ = some v4 ∧ w.cell? ⟨g, 5, none⟩ = some v5 ∧ w.cell? ⟨g, 6, none⟩ = some v6 ∧ w.cell? ⟨g, 7, none⟩ = some v7 ∧ w.cell? ⟨g, 8, none⟩ = some v8 ∧ w.cell? ⟨g, 9, none⟩ = some v9 ∧ w.cell? ⟨g, 10, none⟩ = some v10 := ⟨(xaB h.out 0).trans rfl, (xaB h.out 1).trans rfl, (xaB h.out 2).trans rfl, (xaB h.out 3).trans rfl, (xaB h.out 4).trans rfl, (xaB h.out 5).trans rfl, (xaB h.out 6).trans rfl, (xaB h.out 7).trans rfl, (xaB h.out 8).trans rfl, (xaB h.out 9).trans rfl, (xaB h.out 10).trans rfl⟩
theorem cz11 {w : World} {g : Nat} {t : TypeId} {v0 v1 v2 v3 v4 v5 v6 v7 v8 v9 v10 : Value} (h : xaA (w.heap[g]? = some (.cells #[v0, v1, v2, v3, v4, v5, v6, v7, v8, v9, v10] t (0, 0)))) : (∀ j, w.frozen? ⟨g, j, none⟩ = false) ∧ w.cell? ⟨g, 0, none⟩ = some v0 ∧ w.cell? ⟨g, 1, none⟩ = some v1 ∧ w.cell? ⟨g, 2, none⟩ = some v2 ∧ w.cell? ⟨g, 3, none⟩ = some v3 ∧ w.cell? ⟨g, 4, none⟩ = some v4 ∧ w.cell? ⟨g, 5, none⟩ = some v5 ∧ w.cell? ⟨g, 6, none⟩ = some v6 ∧ w.cell? ⟨g, 7, none⟩ = some v7 ∧ w.cell? ⟨g, 8, none⟩ = some v8 ∧ w.cell? ⟨g, 9, none⟩ = some v9 ∧ w.cell? ⟨g, 10, none⟩ = some v10 := ⟨xaE h.out, ce11 h⟩
theorem ce15 {w : World} {g : Nat} {t : TypeId} {v0 v1 v2 v3 v4 v5 v6 v7 v8 v9 v10 v11 v12 v13 v14 : Value} (h : xaA (w.heap[g]? = some (.cells #[v0, v1, v2, v3, v4, v5, v6, v7, v8, v9, v10, v11, v12, v13, v14] t (0, 0)))) : w.cell? ⟨g, 0, none⟩ = some v0 ∧ w.cell? ⟨g, 1, none⟩ = some v1 ∧ w.cell? ⟨g, 2, none⟩ = some v2 ∧ w.cell? ⟨g, 3, none⟩ = some v3 ∧ w.cell? ⟨g, 4, none⟩ = some v4 ∧ w.cell? ⟨g, 5, none⟩ = some v5 ∧ w.cell? ⟨g, 6, none⟩ = some v6 ∧ w.cell? ⟨g, 7, none⟩ = some v7 ∧ w.cell? ⟨g, 8, none⟩ = some v8 ∧ w.cell? ⟨g, 9, none⟩ = some v9 ∧ w.cell? ⟨g, 10, none⟩ = some v10 ∧ w.cell? ⟨g, 11, none⟩ = some v11 ∧ w.cell? ⟨g, 12, none⟩ = some v12 ∧ w.cell? ⟨g, 13, none⟩ = some v13 ∧ w.cell? ⟨g, 14, none⟩ = some v14 := ⟨(xaB h.out 0).trans rfl, (xaB h.out 1).trans rfl, (xaB h.out 2).trans rfl, (xaB h.out 3).trans rfl, (xaB h.out 4).trans rfl, (xaB h.out 5).trans rfl, (xaB h.out 6).trans rfl, (xaB h.out 7).trans rfl, (xaB h.out 8).trans rfl, (xaB h.out 9).trans rfl, (xaB h.out 10).trans rfl, (xaB h.out 11).trans rfl, (xaB h.out 12).trans rfl, (xaB h.out 13).trans rfl, (xaB h.out 14).trans rfl⟩
theorem cz15 {w : World} {g : Nat} {t : TypeId} {v0 v1 v2 v3 v4 v5 v6 v7 v8 v9 v10 v11 v12 v13 v14 : Value} (h : xaA (w.heap[g]? = some (.cells #[v0, v1, v2, v3, v4, v5, v6, v7, v8, v9, v10, v11, v12, v13, v14] t (0, 0)))) : (∀ j, w.frozen? ⟨g, j, none⟩ = false) ∧ w.cell? ⟨g, 0, none⟩ = some v0 ∧ w.cell? ⟨g, 1, none⟩ = some v1 ∧ w.cell? ⟨g, 2, none⟩ = some v2 ∧ w.cell? ⟨g, 3, none⟩ = some v3 ∧ w.cell? ⟨g, 4, none⟩ = some v4 ∧ w.cell? ⟨g, 5, none⟩ = some v5 ∧ w.cell? ⟨g, 6, none⟩ = some v6 ∧ w.cell? ⟨g, 7, none⟩ = some v7 ∧ w.cell? ⟨g, 8, none⟩ = some v8 ∧ w.cell? ⟨g, 9, none⟩ = some v9 ∧ w.cell? ⟨g, 10, none⟩ = some v10 ∧ w.cell? ⟨g, 11, none⟩ = some v11 ∧ w.cell? ⟨g, 12, none⟩ = some v12 ∧ w.cell? ⟨g, 13, none⟩ = some v13 ∧ w.cell? ⟨g, 14, none⟩ = some v14 := ⟨xaE h.out, ce15 h⟩
theorem bxv {P : Program} {ops : Array Oper} {Q : Exit → Act → World → Prop} {rest : List Oper} {o : Oper} {a : Act} {W : World} (N : Tmp) (cs : Array Value) (t : TypeId)
    (h : ∀ g, g = W.heap.size → ∀ w1, w1.heap[g]? = some (.cells cs t (0, 0)) → Below W.heap.size W w1 → wpList P ops Q rest (a.put o.dst (.pointer (some ⟨g, 0, none⟩))) w1)
    (hd : o.dst = some N := by rfl) (hg : o.guard = none := by rfl) (hr : (execOp a.eval o).run P W = .ok (.value (.pointer (some ⟨W.heap.size, 0, none⟩))) (W.alloc (.cells cs t (0, 0))) := by first | (go_simp; done) | (go_simp; rfl)) : wpList P ops Q (o :: rest) a W := xgF hg hd hr h
end Go.Proofs.YtkabcgmegljebaaGreatDoor.H
namespace Go.Proofs.YtkabcgmegljebaaGreatDoorW.PrintWords
open Go.RowKit
theorem xhP (P : Program) (w : World) (a : Addr) (m : Mode) (k : FloatKind) (x : Nat) : (store a (.float k x) m).run P w = stored P w a (.float k x) m := run_store P w a _ m rfl
attribute [go_sem] xhP
theorem xgL (P : Program) (w : World) (d : Nat) (t : TypeId) (k k' : FloatKind) (a b : Nat) (h : P.underlying t = some (.float k')) : (Op.equalIn (d + 1) t (.float k a) (.float k b)).run P w = .ok (Op.floatEq k a b) w := by
  simp [Op.equalIn, run_underlying h]
theorem xjT (P : Program) (w : World) (k : FloatKind) (b : Nat) : (Op.unary .neg (.float k b)).run P w = .ok (.float k (Op.negFloat k b)) w := by rfl
attribute [go_sem] xjT
theorem floatEq00 : Op.floatEq .f64 0 0 = true := by decide
attribute [go_sem] xgL floatEq00
namespace Kd
def float : Kd Nat := scalar (Value.float .f64) (fun _ => rfl)
end Kd
end Go.Proofs.YtkabcgmegljebaaGreatDoorW.PrintWords
namespace Go.Proofs.YtkabcgmegljebaaGreatDoor.Q
open Go.RowKit Go.Proofs.YtkabcgmegljebaaGreatDoorW.PrintWords Go.Proofs.YtkabcgmegljebaaGreatDoorW.PrintLast Go.Proofs.YtkabcgmegljebaaGreatDoorW.PrintMore
attribute [local go_sem] xbV xbT xcM xcL xbN xbM xbU xbS
def errW : Option Int → Value
  | none => .nilIface
  | some c => .iface 0 (.int .i64 c)
theorem xcX : errW none = .nilIface := rfl
theorem xcW (c : Int) : errW (some c) = .iface 0 (.int .i64 c) := rfl
theorem info3 : (Tryz.prog.info? 3).map (fun i => (i.zero, i.size, i.bytes)) = some (some (.int .i64 0), 1, 8) := by kernel_rfl
theorem info74 : (Tryz.prog.info? 74).map (fun i => (i.zero, i.size, i.bytes)) = some (some (.int .u64 0), 1, 8) := by kernel_rfl
theorem info77 : (Tryz.prog.info? 77).map (fun i => (i.zero, i.size, i.bytes)) = some (some (.agg #[(.int .i64 0), (.int .u64 0), (.int .u64 0), (.int .i64 0), (.int .i64 0), (.int .i64 0), (.int .i64 0), (.int .i64 0), (.int .i64 0)]), 9, 72) := by kernel_rfl
theorem xeF : (Tryz.prog.info? 79).map (fun i => (i.zero, i.size, i.bytes)) = some (some (.agg #[(.int .i64 0), (.int .u64 0), (.int .i64 0)]), 3, 24) := by kernel_rfl
theorem xmL : (Tryz.prog.info? 145).map (fun i => (i.zero, i.size, i.bytes)) = some (some (.agg #[(.int .i64 0), (.int .i64 0), (.int .i64 0), (.int .i64 0), (.int .i64 0)]), 5, 40) := by kernel_rfl
-- the values' own types
structure S103 where
 f0 : Int
 f1 : Int
 f2 : Int
 f3 : Nat
 f4 : Nat
 f5 : Int
 f6 : Int
 f7 : Int
 f8 : Int
 f9 : Int
 f10 : Int
def z103 : S103 := ⟨(0 : Int), (0 : Int), (0 : Int), (0 : Nat), (0 : Nat), (0 : Int), (0 : Int), (0 : Int), (0 : Int), (0 : Int), (0 : Int)⟩
def k103 : Kd S103 := Kd.iso (Kd.pair (Kd.int .i64) (Kd.pair (Kd.int .i64) (Kd.pair (Kd.int .i64) (Kd.pair Kd.float (Kd.pair Kd.float (Kd.pair (Kd.int .i64) (Kd.pair (Kd.int .i64) (Kd.pair (Kd.int .i64) (Kd.pair (Kd.int .i64) (Kd.pair (Kd.int .i64) (Kd.int .i64))))))))))) (fun x : S103 => (x.f0, x.f1, x.f2, x.f3, x.f4, x.f5, x.f6, x.f7, x.f8, x.f9, x.f10))
theorem xlL {w : World} {x : S103} {cs : List Value} (h : k103.K w x cs) : cs = [.int .i64 x.f0, .int .i64 x.f1, .int .i64 x.f2, .float .f64 x.f3, .float .f64 x.f4, .int .i64 x.f5, .int .i64 x.f6, .int .i64 x.f7, .int .i64 x.f8, .int .i64 x.f9, .int .i64 x.f10] := by
  obtain ⟨_, _, rfl, rfl, ⟨_, _, rfl, rfl, ⟨_, _, rfl, rfl, ⟨_, _, rfl, rfl, ⟨_, _, rfl, rfl, ⟨_, _, rfl, rfl, ⟨_, _, rfl, rfl, ⟨_, _, rfl, rfl, ⟨_, _, rfl, rfl, ⟨_, _, rfl, rfl, rfl⟩⟩⟩⟩⟩⟩⟩⟩⟩⟩ := h
  exact rfl
theorem xiA (w : World) (x : S103)  : k103.K w x [.int .i64 x.f0, .int .i64 x.f1, .int .i64 x.f2, .float .f64 x.f3, .float .f64 x.f4, .int .i64 x.f5, .int .i64 x.f6, .int .i64 x.f7, .int .i64 x.f8, .int .i64 x.f9, .int .i64 x.f10] := ⟨[.int .i64 x.f0], [.int .i64 x.f1, .int .i64 x.f2, .float .f64 x.f3, .float .f64 x.f4, .int .i64 x.f5, .int .i64 x.f6, .int .i64 x.f7, .int .i64 x.f8, .int .i64 x.f9, .int .i64 x.f10], rfl, rfl, ⟨[.int .i64 x.f1], [.int .i64 x.f2, .float .f64 x.f3, .float .f64 x.f4, .int .i64 x.f5, .int .i64 x.f6, .int .i64 x.f7, .int .i64 x.f8, .int .i64 x.f9, .int .i64 x.f10], rfl, rfl, ⟨[.int .i64 x.f2], [.float .f64 x.f3, .float .f64 x.f4, .int .i64 x.f5, .int .i64 x.f6, .int .i64 x.f7, .int .i64 x.f8, .int .i64 x.f9, .int .i64 x.f10], rfl, rfl, ⟨[.float .f64 x.f3], [.float .f64 x.f4, .int .i64 x.f5, .int .i64 x.f6, .int .i64 x.f7, .int .i64 x.f8, .int .i64 x.f9, .int .i64 x.f10], rfl, rfl, ⟨[.float .f64 x.f4], [.int .i64 x.f5, .int .i64 x.f6, .int .i64 x.f7, .int .i64 x.f8, .int .i64 x.f9, .int .i64 x.f10], rfl, rfl, ⟨[.int .i64 x.f5], [.int .i64 x.f6, .int .i64 x.f7, .int .i64 x.f8, .int .i64 x.f9, .int .i64 x.f10], rfl, rfl, ⟨[.int .i64 x.f6], [.int .i64 x.f7, .int .i64 x.f8, .int .i64 x.f9, .int .i64 x.f10], rfl, rfl, ⟨[.int .i64 x.f7], [.int .i64 x.f8, .int .i64 x.f9, .int .i64 x.f10], rfl, rfl, ⟨[.int .i64 x.f8], [.int .i64 x.f9, .int .i64 x.f10], rfl, rfl, ⟨[.int .i64 x.f9], [.int .i64 x.f10], rfl, rfl, rfl⟩⟩⟩⟩⟩⟩⟩⟩⟩⟩
def xdP (xs : List S103) (i : Int) : S103 := xs.getD i.toNat z103
theorem at_T103 {w : World} {A : Option Addr} {n : Nat} {xs : List S103} (h : Kd.C k103 w A n xs) (i : Int) (h0 : 0 ≤ i) (h1 : i < n) : ∃ ad , A = some ad ∧ w.cell? (ad.add (i.toNat * 11)) = some (.int .i64 (xdP xs i).f0) ∧ w.cell? ⟨(ad.add (i.toNat * 11)).block, (ad.add (i.toNat * 11)).off + 1, none⟩ = some (.int .i64 (xdP xs i).f1) ∧ w.cell? ⟨(ad.add (i.toNat * 11)).block, (ad.add (i.toNat * 11)).off + 2, none⟩ = some (.int .i64 (xdP xs i).f2) ∧ w.cell? ⟨(ad.add (i.toNat * 11)).block, (ad.add (i.toNat * 11)).off + 3, none⟩ = some (.float .f64 (xdP xs i).f3) ∧ w.cell? ⟨(ad.add (i.toNat * 11)).block, (ad.add (i.toNat * 11)).off + 4, none⟩ = some (.float .f64 (xdP xs i).f4) ∧ w.cell? ⟨(ad.add (i.toNat * 11)).block, (ad.add (i.toNat * 11)).off + 5, none⟩ = some (.int .i64 (xdP xs i).f5) ∧ w.cell? ⟨(ad.add (i.toNat * 11)).block, (ad.add (i.toNat * 11)).off + 6, none⟩ = some (.int .i64 (xdP xs i).f6) ∧ w.cell? ⟨(ad.add (i.toNat * 11)).block, (ad.add (i.toNat * 11)).off + 7, none⟩ = some (.int .i64 (xdP xs i).f7) ∧ w.cell? ⟨(ad.add (i.toNat * 11)).block, (ad.add (i.toNat * 11)).off + 8, none⟩ = some (.int .i64 (xdP xs i).f8) ∧ w.cell? ⟨(ad.add (i.toNat * 11)).block, (ad.add (i.toNat * 11)).off + 9, none⟩ = some (.int .i64 (xdP xs i).f9) ∧ w.cell? ⟨(ad.add (i.toNat * 11)).block, (ad.add (i.toNat * 11)).off + 10, none⟩ = some (.int .i64 (xdP xs i).f10) := by
 obtain ⟨ad, c, e, _, hK, hc0⟩ := Kd.C_get h z103 i h0 h1
 have hc : ∀ j u, c[j]? = some u → w.cell? (ad.add (i.toNat * 11 + j)) = some u := hc0
 obtain rfl := xlL hK
 exact ⟨ad, e, hc 0 _ rfl, by rw [← xbC _ _ 1 (by omega)]; exact hc 1 _ rfl, by rw [← xbC _ _ 2 (by omega)]; exact hc 2 _ rfl, by rw [← xbC _ _ 3 (by omega)]; exact hc 3 _ rfl, by rw [← xbC _ _ 4 (by omega)]; exact hc 4 _ rfl, by rw [← xbC _ _ 5 (by omega)]; exact hc 5 _ rfl, by rw [← xbC _ _ 6 (by omega)]; exact hc 6 _ rfl, by rw [← xbC _ _ 7 (by omega)]; exact hc 7 _ rfl, by rw [← xbC _ _ 8 (by omega)]; exact hc 8 _ rfl, by rw [← xbC _ _ 9 (by omega)]; exact hc 9 _ rfl, by rw [← xbC _ _ 10 (by omega)]; exact hc 10 _ rfl⟩
structure S37 where
 f0 : Int
 f1 : Nat
 f2 : Nat
 f3 : Int
 f4 : Int
 f5 : Int
 f6 : Int
 f7 : Int
 f8 : Int
def z37 : S37 := ⟨(0 : Int), (0 : Nat), (0 : Nat), (0 : Int), (0 : Int), (0 : Int), (0 : Int), (0 : Int), (0 : Int)⟩
def k37 : Kd S37 := Kd.iso (Kd.pair (Kd.int .i64) (Kd.pair Kd.float (Kd.pair Kd.float (Kd.pair (Kd.int .i64) (Kd.pair (Kd.int .i64) (Kd.pair (Kd.int .i64) (Kd.pair (Kd.int .i64) (Kd.pair (Kd.int .i64) (Kd.int .i64))))))))) (fun x : S37 => (x.f0, x.f1, x.f2, x.f3, x.f4, x.f5, x.f6, x.f7, x.f8))
theorem k37_open {w : World} {x : S37} {cs : List Value} (h : k37.K w x cs) : cs = [.int .i64 x.f0, .float .f64 x.f1, .float .f64 x.f2, .int .i64 x.f3, .int .i64 x.f4, .int .i64 x.f5, .int .i64 x.f6, .int .i64 x.f7, .int .i64 x.f8] := by
  obtain ⟨_, _, rfl, rfl, ⟨_, _, rfl, rfl, ⟨_, _, rfl, rfl, ⟨_, _, rfl, rfl, ⟨_, _, rfl, rfl, ⟨_, _, rfl, rfl, ⟨_, _, rfl, rfl, ⟨_, _, rfl, rfl, rfl⟩⟩⟩⟩⟩⟩⟩⟩ := h
  exact rfl
theorem xhZ (w : World) (x : S37)  : k37.K w x [.int .i64 x.f0, .float .f64 x.f1, .float .f64 x.f2, .int .i64 x.f3, .int .i64 x.f4, .int .i64 x.f5, .int .i64 x.f6, .int .i64 x.f7, .int .i64 x.f8] := ⟨[.int .i64 x.f0], [.float .f64 x.f1, .float .f64 x.f2, .int .i64 x.f3, .int .i64 x.f4, .int .i64 x.f5, .int .i64 x.f6, .int .i64 x.f7, .int .i64 x.f8], rfl, rfl, ⟨[.float .f64 x.f1], [.float .f64 x.f2, .int .i64 x.f3, .int .i64 x.f4, .int .i64 x.f5, .int .i64 x.f6, .int .i64 x.f7, .int .i64 x.f8], rfl, rfl, ⟨[.float .f64 x.f2], [.int .i64 x.f3, .int .i64 x.f4, .int .i64 x.f5, .int .i64 x.f6, .int .i64 x.f7, .int .i64 x.f8], rfl, rfl, ⟨[.int .i64 x.f3], [.int .i64 x.f4, .int .i64 x.f5, .int .i64 x.f6, .int .i64 x.f7, .int .i64 x.f8], rfl, rfl, ⟨[.int .i64 x.f4], [.int .i64 x.f5, .int .i64 x.f6, .int .i64 x.f7, .int .i64 x.f8], rfl, rfl, ⟨[.int .i64 x.f5], [.int .i64 x.f6, .int .i64 x.f7, .int .i64 x.f8], rfl, rfl, ⟨[.int .i64 x.f6], [.int .i64 x.f7, .int .i64 x.f8], rfl, rfl, ⟨[.int .i64 x.f7], [.int .i64 x.f8], rfl, rfl, rfl⟩⟩⟩⟩⟩⟩⟩⟩
def xeE (xs : List S37) (i : Int) : S37 := xs.getD i.toNat z37
theorem xlW {w : World} {A : Option Addr} {n : Nat} {xs : List S37} (h : Kd.C k37 w A n xs) (i : Int) (h0 : 0 ≤ i) (h1 : i < n) : ∃ ad , A = some ad ∧ w.cell? (ad.add (i.toNat * 9)) = some (.int .i64 (xeE xs i).f0) ∧ w.cell? ⟨(ad.add (i.toNat * 9)).block, (ad.add (i.toNat * 9)).off + 1, none⟩ = some (.float .f64 (xeE xs i).f1) ∧ w.cell? ⟨(ad.add (i.toNat * 9)).block, (ad.add (i.toNat * 9)).off + 2, none⟩ = some (.float .f64 (xeE xs i).f2) ∧ w.cell? ⟨(ad.add (i.toNat * 9)).block, (ad.add (i.toNat * 9)).off + 3, none⟩ = some (.int .i64 (xeE xs i).f3) ∧ w.cell? ⟨(ad.add (i.toNat * 9)).block, (ad.add (i.toNat * 9)).off + 4, none⟩ = some (.int .i64 (xeE xs i).f4) ∧ w.cell? ⟨(ad.add (i.toNat * 9)).block, (ad.add (i.toNat * 9)).off + 5, none⟩ = some (.int .i64 (xeE xs i).f5) ∧ w.cell? ⟨(ad.add (i.toNat * 9)).block, (ad.add (i.toNat * 9)).off + 6, none⟩ = some (.int .i64 (xeE xs i).f6) ∧ w.cell? ⟨(ad.add (i.toNat * 9)).block, (ad.add (i.toNat * 9)).off + 7, none⟩ = some (.int .i64 (xeE xs i).f7) ∧ w.cell? ⟨(ad.add (i.toNat * 9)).block, (ad.add (i.toNat * 9)).off + 8, none⟩ = some (.int .i64 (xeE xs i).f8) := by
 obtain ⟨ad, c, e, _, hK, hc0⟩ := Kd.C_get h z37 i h0 h1
 have hc : ∀ j u, c[j]? = some u → w.cell? (ad.add (i.toNat * 9 + j)) = some u := hc0
 obtain rfl := k37_open hK
 exact ⟨ad, e, hc 0 _ rfl, by rw [← xbC _ _ 1 (by omega)]; exact hc 1 _ rfl, by rw [← xbC _ _ 2 (by omega)]; exact hc 2 _ rfl, by rw [← xbC _ _ 3 (by omega)]; exact hc 3 _ rfl, by rw [← xbC _ _ 4 (by omega)]; exact hc 4 _ rfl, by rw [← xbC _ _ 5 (by omega)]; exact hc 5 _ rfl, by rw [← xbC _ _ 6 (by omega)]; exact hc 6 _ rfl, by rw [← xbC _ _ 7 (by omega)]; exact hc 7 _ rfl, by rw [← xbC _ _ 8 (by omega)]; exact hc 8 _ rfl⟩
structure S48 where
 f0 : Int
 f1 : Nat
 f2 : Int
def z48 : S48 := ⟨(0 : Int), (0 : Nat), (0 : Int)⟩
def k48 : Kd S48 := Kd.iso (Kd.pair (Kd.int .i64) (Kd.pair Kd.float (Kd.int .i64))) (fun x : S48 => (x.f0, x.f1, x.f2))
theorem k48_open {w : World} {x : S48} {cs : List Value} (h : k48.K w x cs) : cs = [.int .i64 x.f0, .float .f64 x.f1, .int .i64 x.f2] := by
  obtain ⟨_, _, rfl, rfl, ⟨_, _, rfl, rfl, rfl⟩⟩ := h
  exact rfl
theorem k48_mk (w : World) (x : S48)  : k48.K w x [.int .i64 x.f0, .float .f64 x.f1, .int .i64 x.f2] := ⟨[.int .i64 x.f0], [.float .f64 x.f1, .int .i64 x.f2], rfl, rfl, ⟨[.float .f64 x.f1], [.int .i64 x.f2], rfl, rfl, rfl⟩⟩
theorem xeU (w : World) (base : Nat) (ok : Nat → Prop) (x : S48)  : k48.M w base ok x [.int .i64 x.f0, .float .f64 x.f1, .int .i64 x.f2] := ⟨[.int .i64 x.f0], [.float .f64 x.f1, .int .i64 x.f2], rfl, rfl, ⟨[.float .f64 x.f1], [.int .i64 x.f2], rfl, rfl, rfl⟩⟩
def xiW (xs : List S48) (i : Int) : S48 := xs.getD i.toNat z48
theorem xhA {w : World} {A : Option Addr} {n : Nat} {xs : List S48} (h : Kd.C k48 w A n xs) (i : Int) (h0 : 0 ≤ i) (h1 : i < n) : ∃ ad , A = some ad ∧ w.cell? (ad.add (i.toNat * 3)) = some (.int .i64 (xiW xs i).f0) ∧ w.cell? ⟨(ad.add (i.toNat * 3)).block, (ad.add (i.toNat * 3)).off + 1, none⟩ = some (.float .f64 (xiW xs i).f1) ∧ w.cell? ⟨(ad.add (i.toNat * 3)).block, (ad.add (i.toNat * 3)).off + 2, none⟩ = some (.int .i64 (xiW xs i).f2) := by
 obtain ⟨ad, c, e, _, hK, hc0⟩ := Kd.C_get h z48 i h0 h1
 have hc : ∀ j u, c[j]? = some u → w.cell? (ad.add (i.toNat * 3 + j)) = some u := hc0
 obtain rfl := k48_open hK
 exact ⟨ad, e, hc 0 _ rfl, by rw [← xbC _ _ 1 (by omega)]; exact hc 1 _ rfl, by rw [← xbC _ _ 2 (by omega)]; exact hc 2 _ rfl⟩
structure S77 where
 f0 : Int
 f1 : Int
 f2 : Int
 f3 : Int
 f4 : Int
 f5 : Int
 f6 : Int
 f7 : Int
 f8 : Int
def z77 : S77 := ⟨(0 : Int), (0 : Int), (0 : Int), (0 : Int), (0 : Int), (0 : Int), (0 : Int), (0 : Int), (0 : Int)⟩
def k77 : Kd S77 := Kd.iso (Kd.pair (Kd.int .i64) (Kd.pair (Kd.int .u64) (Kd.pair (Kd.int .u64) (Kd.pair (Kd.int .i64) (Kd.pair (Kd.int .i64) (Kd.pair (Kd.int .i64) (Kd.pair (Kd.int .i64) (Kd.pair (Kd.int .i64) (Kd.int .i64))))))))) (fun x : S77 => (x.f0, x.f1, x.f2, x.f3, x.f4, x.f5, x.f6, x.f7, x.f8))
theorem k77_open {w : World} {x : S77} {cs : List Value} (h : k77.K w x cs) : cs = [.int .i64 x.f0, .int .u64 x.f1, .int .u64 x.f2, .int .i64 x.f3, .int .i64 x.f4, .int .i64 x.f5, .int .i64 x.f6, .int .i64 x.f7, .int .i64 x.f8] := by
  obtain ⟨_, _, rfl, rfl, ⟨_, _, rfl, rfl, ⟨_, _, rfl, rfl, ⟨_, _, rfl, rfl, ⟨_, _, rfl, rfl, ⟨_, _, rfl, rfl, ⟨_, _, rfl, rfl, ⟨_, _, rfl, rfl, rfl⟩⟩⟩⟩⟩⟩⟩⟩ := h
  exact rfl
theorem k77_mk (w : World) (x : S77)  : k77.K w x [.int .i64 x.f0, .int .u64 x.f1, .int .u64 x.f2, .int .i64 x.f3, .int .i64 x.f4, .int .i64 x.f5, .int .i64 x.f6, .int .i64 x.f7, .int .i64 x.f8] := ⟨[.int .i64 x.f0], [.int .u64 x.f1, .int .u64 x.f2, .int .i64 x.f3, .int .i64 x.f4, .int .i64 x.f5, .int .i64 x.f6, .int .i64 x.f7, .int .i64 x.f8], rfl, rfl, ⟨[.int .u64 x.f1], [.int .u64 x.f2, .int .i64 x.f3, .int .i64 x.f4, .int .i64 x.f5, .int .i64 x.f6, .int .i64 x.f7, .int .i64 x.f8], rfl, rfl, ⟨[.int .u64 x.f2], [.int .i64 x.f3, .int .i64 x.f4, .int .i64 x.f5, .int .i64 x.f6, .int .i64 x.f7, .int .i64 x.f8], rfl, rfl, ⟨[.int .i64 x.f3], [.int .i64 x.f4, .int .i64 x.f5, .int .i64 x.f6, .int .i64 x.f7, .int .i64 x.f8], rfl, rfl, ⟨[.int .i64 x.f4], [.int .i64 x.f5, .int .i64 x.f6, .int .i64 x.f7, .int .i64 x.f8], rfl, rfl, ⟨[.int .i64 x.f5], [.int .i64 x.f6, .int .i64 x.f7, .int .i64 x.f8], rfl, rfl, ⟨[.int .i64 x.f6], [.int .i64 x.f7, .int .i64 x.f8], rfl, rfl, ⟨[.int .i64 x.f7], [.int .i64 x.f8], rfl, rfl, rfl⟩⟩⟩⟩⟩⟩⟩⟩
def xfD (xs : List S77) (i : Int) : S77 := xs.getD i.toNat z77
theorem at_T77 {w : World} {A : Option Addr} {n : Nat} {xs : List S77} (h : Kd.C k77 w A n xs) (i : Int) (h0 : 0 ≤ i) (h1 : i < n) : ∃ ad , A = some ad ∧ w.cell? (ad.add (i.toNat * 9)) = some (.int .i64 (xfD xs i).f0) ∧ w.cell? ⟨(ad.add (i.toNat * 9)).block, (ad.add (i.toNat * 9)).off + 1, none⟩ = some (.int .u64 (xfD xs i).f1) ∧ w.cell? ⟨(ad.add (i.toNat * 9)).block, (ad.add (i.toNat * 9)).off + 2, none⟩ = some (.int .u64 (xfD xs i).f2) ∧ w.cell? ⟨(ad.add (i.toNat * 9)).block, (ad.add (i.toNat * 9)).off + 3, none⟩ = some (.int .i64 (xfD xs i).f3) ∧ w.cell? ⟨(ad.add (i.toNat * 9)).block, (ad.add (i.toNat * 9)).off + 4, none⟩ = some (.int .i64 (xfD xs i).f4) ∧ w.cell? ⟨(ad.add (i.toNat * 9)).block, (ad.add (i.toNat * 9)).off + 5, none⟩ = some (.int .i64 (xfD xs i).f5) ∧ w.cell? ⟨(ad.add (i.toNat * 9)).block, (ad.add (i.toNat * 9)).off + 6, none⟩ = some (.int .i64 (xfD xs i).f6) ∧ w.cell? ⟨(ad.add (i.toNat * 9)).block, (ad.add (i.toNat * 9)).off + 7, none⟩ = some (.int .i64 (xfD xs i).f7) ∧ w.cell? ⟨(ad.add (i.toNat * 9)).block, (ad.add (i.toNat * 9)).off + 8, none⟩ = some (.int .i64 (xfD xs i).f8) := by
 obtain ⟨ad, c, e, _, hK, hc0⟩ := Kd.C_get h z77 i h0 h1
 have hc : ∀ j u, c[j]? = some u → w.cell? (ad.add (i.toNat * 9 + j)) = some u := hc0
 obtain rfl := k77_open hK
 exact ⟨ad, e, hc 0 _ rfl, by rw [← xbC _ _ 1 (by omega)]; exact hc 1 _ rfl, by rw [← xbC _ _ 2 (by omega)]; exact hc 2 _ rfl, by rw [← xbC _ _ 3 (by omega)]; exact hc 3 _ rfl, by rw [← xbC _ _ 4 (by omega)]; exact hc 4 _ rfl, by rw [← xbC _ _ 5 (by omega)]; exact hc 5 _ rfl, by rw [← xbC _ _ 6 (by omega)]; exact hc 6 _ rfl, by rw [← xbC _ _ 7 (by omega)]; exact hc 7 _ rfl, by rw [← xbC _ _ 8 (by omega)]; exact hc 8 _ rfl⟩
structure S79 where
 f0 : Int
 f1 : Int
 f2 : Int
def z79 : S79 := ⟨(0 : Int), (0 : Int), (0 : Int)⟩
def k79 : Kd S79 := Kd.iso (Kd.pair (Kd.int .i64) (Kd.pair (Kd.int .u64) (Kd.int .i64))) (fun x : S79 => (x.f0, x.f1, x.f2))
theorem k79_open {w : World} {x : S79} {cs : List Value} (h : k79.K w x cs) : cs = [.int .i64 x.f0, .int .u64 x.f1, .int .i64 x.f2] := by
  obtain ⟨_, _, rfl, rfl, ⟨_, _, rfl, rfl, rfl⟩⟩ := h
  exact rfl
theorem xhY (w : World) (x : S79)  : k79.K w x [.int .i64 x.f0, .int .u64 x.f1, .int .i64 x.f2] := ⟨[.int .i64 x.f0], [.int .u64 x.f1, .int .i64 x.f2], rfl, rfl, ⟨[.int .u64 x.f1], [.int .i64 x.f2], rfl, rfl, rfl⟩⟩
def xlC (xs : List S79) (i : Int) : S79 := xs.getD i.toNat z79
theorem xlV {w : World} {A : Option Addr} {n : Nat} {xs : List S79} (h : Kd.C k79 w A n xs) (i : Int) (h0 : 0 ≤ i) (h1 : i < n) : ∃ ad , A = some ad ∧ w.cell? (ad.add (i.toNat * 3)) = some (.int .i64 (xlC xs i).f0) ∧ w.cell? ⟨(ad.add (i.toNat * 3)).block, (ad.add (i.toNat * 3)).off + 1, none⟩ = some (.int .u64 (xlC xs i).f1) ∧ w.cell? ⟨(ad.add (i.toNat * 3)).block, (ad.add (i.toNat * 3)).off + 2, none⟩ = some (.int .i64 (xlC xs i).f2) := by
 obtain ⟨ad, c, e, _, hK, hc0⟩ := Kd.C_get h z79 i h0 h1
 have hc : ∀ j u, c[j]? = some u → w.cell? (ad.add (i.toNat * 3 + j)) = some u := hc0
 obtain rfl := k79_open hK
 exact ⟨ad, e, hc 0 _ rfl, by rw [← xbC _ _ 1 (by omega)]; exact hc 1 _ rfl, by rw [← xbC _ _ 2 (by omega)]; exact hc 2 _ rfl⟩
structure S214 where
 f0 : Int
 f1 : Int
 f2 : Int
 f3 : Int
 f4 : Int
 f5 : Int
 f6 : Int
 f7 : Int
 f8 : Int
def k214 : Kd S214 := Kd.iso (Kd.pair (Kd.int .i64) (Kd.pair (Kd.int .i64) (Kd.pair (Kd.int .i64) (Kd.pair (Kd.int .i64) (Kd.pair (Kd.int .i64) (Kd.pair (Kd.int .i64) (Kd.pair (Kd.int .i64) (Kd.pair (Kd.int .i64) (Kd.int .i64))))))))) (fun x : S214 => (x.f0, x.f1, x.f2, x.f3, x.f4, x.f5, x.f6, x.f7, x.f8))
structure S115 where
  f0 : Int
  f1 : (List S214)
structure S145 where
 f0 : Int
 f1 : Int
 f2 : Int
 f3 : Int
 f4 : Int
def z145 : S145 := ⟨(0 : Int), (0 : Int), (0 : Int), (0 : Int), (0 : Int)⟩
def k145 : Kd S145 := Kd.iso (Kd.pair (Kd.int .i64) (Kd.pair (Kd.int .i64) (Kd.pair (Kd.int .i64) (Kd.pair (Kd.int .i64) (Kd.int .i64))))) (fun x : S145 => (x.f0, x.f1, x.f2, x.f3, x.f4))
theorem xlK {w : World} {x : S145} {cs : List Value} (h : k145.K w x cs) : cs = [.int .i64 x.f0, .int .i64 x.f1, .int .i64 x.f2, .int .i64 x.f3, .int .i64 x.f4] := by
  obtain ⟨_, _, rfl, rfl, ⟨_, _, rfl, rfl, ⟨_, _, rfl, rfl, ⟨_, _, rfl, rfl, rfl⟩⟩⟩⟩ := h
  exact rfl
theorem xmK (w : World) (x : S145)  : k145.K w x [.int .i64 x.f0, .int .i64 x.f1, .int .i64 x.f2, .int .i64 x.f3, .int .i64 x.f4] := ⟨[.int .i64 x.f0], [.int .i64 x.f1, .int .i64 x.f2, .int .i64 x.f3, .int .i64 x.f4], rfl, rfl, ⟨[.int .i64 x.f1], [.int .i64 x.f2, .int .i64 x.f3, .int .i64 x.f4], rfl, rfl, ⟨[.int .i64 x.f2], [.int .i64 x.f3, .int .i64 x.f4], rfl, rfl, ⟨[.int .i64 x.f3], [.int .i64 x.f4], rfl, rfl, rfl⟩⟩⟩⟩
theorem k145_mkM (w : World) (base : Nat) (ok : Nat → Prop) (x : S145)  : k145.M w base ok x [.int .i64 x.f0, .int .i64 x.f1, .int .i64 x.f2, .int .i64 x.f3, .int .i64 x.f4] := ⟨[.int .i64 x.f0], [.int .i64 x.f1, .int .i64 x.f2, .int .i64 x.f3, .int .i64 x.f4], rfl, rfl, ⟨[.int .i64 x.f1], [.int .i64 x.f2, .int .i64 x.f3, .int .i64 x.f4], rfl, rfl, ⟨[.int .i64 x.f2], [.int .i64 x.f3, .int .i64 x.f4], rfl, rfl, ⟨[.int .i64 x.f3], [.int .i64 x.f4], rfl, rfl, rfl⟩⟩⟩⟩
def xfX (xs : List S145) (i : Int) : S145 := xs.getD i.toNat z145
theorem at_T145 {w : World} {A : Option Addr} {n : Nat} {xs : List S145} (h : Kd.C k145 w A n xs) (i : Int) (h0 : 0 ≤ i) (h1 : i < n) : ∃ ad , A = some ad ∧ w.cell? (ad.add (i.toNat * 5)) = some (.int .i64 (xfX xs i).f0) ∧ w.cell? ⟨(ad.add (i.toNat * 5)).block, (ad.add (i.toNat * 5)).off + 1, none⟩ = some (.int .i64 (xfX xs i).f1) ∧ w.cell? ⟨(ad.add (i.toNat * 5)).block, (ad.add (i.toNat * 5)).off + 2, none⟩ = some (.int .i64 (xfX xs i).f2) ∧ w.cell? ⟨(ad.add (i.toNat * 5)).block, (ad.add (i.toNat * 5)).off + 3, none⟩ = some (.int .i64 (xfX xs i).f3) ∧ w.cell? ⟨(ad.add (i.toNat * 5)).block, (ad.add (i.toNat * 5)).off + 4, none⟩ = some (.int .i64 (xfX xs i).f4) := by
 obtain ⟨ad, c, e, _, hK, hc0⟩ := Kd.C_get h z145 i h0 h1
 have hc : ∀ j u, c[j]? = some u → w.cell? (ad.add (i.toNat * 5 + j)) = some u := hc0
 obtain rfl := xlK hK
 exact ⟨ad, e, hc 0 _ rfl, by rw [← xbC _ _ 1 (by omega)]; exact hc 1 _ rfl, by rw [← xbC _ _ 2 (by omega)]; exact hc 2 _ rfl, by rw [← xbC _ _ 3 (by omega)]; exact hc 3 _ rfl, by rw [← xbC _ _ 4 (by omega)]; exact hc 4 _ rfl⟩
end Go.Proofs.YtkabcgmegljebaaGreatDoor.Q
namespace Go.Proofs.YtkabcgmegljebaaGreatDoor.H
open Go.RowKit Go.Proofs.YtkabcgmegljebaaGreatDoorW.PrintWords Go.Proofs.YtkabcgmegljebaaGreatDoorW.PrintLast Go.Proofs.YtkabcgmegljebaaGreatDoorW.PrintMore
section
variable {P : Program} {md : Region.Mode} {ops : Array Oper} {Q : Exit → Act → World → Prop} {S : World → Prop} {ds : List Nat}
theorem rP (i : Nat) {N : Option Tmp} {oi : Oper} {v : Value} {fuel : Nat} {l l' : Array Bool} {a a' : Act} {w : World}
  (h : xaS P md ops Q S ds fuel l' a' w) (hi : ops[i]? = some oi := by rfl) (hN : oi.dst = N := by first | exact (rfl : _ = some _) | exact (rfl : _ = none))
  (hl : l.setIfInBounds i true = l' := by simp only [List.setIfInBounds_toArray, List.set_cons_zero, List.set_cons_succ]; rfl) (hc : anyB md ops l l' i = true := by kernel_rfl)
  (hQ : ∀ c a w, Q (.panic c) (a.put oi.dst v) w → Q (.panic c) a w := by exact fun _ _ _ h => h)
  (hy : Yields P ops oi v a := by refine Or.inl ⟨by rfl, ?_⟩; intro w'; go_simp; with_reducible rfl)
  (ha : a.put N v = a' := by simp only [Act.put, List.setIfInBounds_toArray, List.set_cons_zero, List.set_cons_succ, i64_w, i32_w]; rfl) : xaS P md ops Q S ds (fuel + 1) l a w := pure_ l' hi hN hc hQ hy ha h
theorem rT (i : Nat) {N : Option Tmp} {oi : Oper} {v : Value} {fuel : Nat} {l l' : Array Bool} {a a' : Act} {w : World}
  (h : xaS P md ops Q S ds fuel l' a' w) (hi : ops[i]? = some oi := by rfl) (hN : oi.dst = N := by first | exact (rfl : _ = some _) | exact (rfl : _ = none))
  (hl : l.setIfInBounds i true = l' := by simp only [List.setIfInBounds_toArray, List.set_cons_zero, List.set_cons_succ]; rfl) (hc : takeB md ops ds l l' i = true := by kernel_rfl)
  (hQ : ∀ c a w, Q (.panic c) (a.put oi.dst v) w → Q (.panic c) a w := by exact fun _ _ _ h => h)
  (hy : YieldsIf P ops S oi v a := by refine Or.inl ⟨by rfl, ?_⟩; intro w' hs_; go_simp; with_reducible rfl) (hS : S w := by exact hHeld)
  (ha : a.put N v = a' := by simp only [Act.put, List.setIfInBounds_toArray, List.set_cons_zero, List.set_cons_succ, i64_w, i32_w]; rfl) : xaS P md ops Q S ds (fuel + 1) l a w := take_ l' hi hN hc hQ hy hS ha h
theorem rO (i : Nat) {N : Option Tmp} {oi : Oper} {fuel : Nat} {l l' : Array Bool} {a : Act} {w : World}
  (h : ∀ K : Act → World → Prop, Shut (∀ a' w', S w' → (S w' → xaS P md ops Q S ds fuel l' a' w') → K a' w') → if Region.wanted oi (yielded ops a.tmps) = true then Oper.wp P oi a w K Q else K (a.put N undef) w)
  (hi : ops[i]? = some oi := by rfl) (hN : oi.dst = N := by first | exact (rfl : _ = some _) | exact (rfl : _ = none))
  (hl : l.setIfInBounds i true = l' := by simp only [List.setIfInBounds_toArray, List.set_cons_zero, List.set_cons_succ]; rfl) (hc : xiV md ops l l' i = true := by kernel_rfl) (hd : i ∉ ds := by decide) : xaS P md ops Q S ds (fuel + 1) l a w := one_ l' hi hN hc hd h
theorem rL (i : Nat) {N : Option Tmp} {oi : Oper} {fuel : Nat} {l l' : Array Bool} {a : Act} {w : World}
  (h : ∀ K : Act → World → Prop, Shut (∀ a' w', xaS P md ops Q S ds fuel l' a' w' → K a' w') → if Region.wanted oi (yielded ops a.tmps) = true then Oper.wp P oi a w K Q else K (a.put N undef) w)
  (hi : ops[i]? = some oi := by rfl) (hN : oi.dst = N := by first | exact (rfl : _ = some _) | exact (rfl : _ = none))
  (hl : l.setIfInBounds i true = l' := by simp only [List.setIfInBounds_toArray, List.set_cons_zero, List.set_cons_succ]; rfl) (hc : xiV md ops l l' i = true := by kernel_rfl) (hd : i ∈ ds := by decide) : xaS P md ops Q S ds (fuel + 1) l a w := last_ l' hi hN hc hd h
theorem rN {fuel : Nat} {l : Array Bool} {a a' : Act} {w : World} (h : xaS P md ops Q S ds fuel l a' w)
    (ha : a = a' := by simp only [Act.put, List.setIfInBounds_toArray, List.set_cons_zero, List.set_cons_succ, i64_w, i32_w]; rfl) : xaS P md ops Q S ds fuel l a w := norm_ ha h
theorem rD {l : Array Bool} {a : Act} {w : World} {n : Nat} (h : Q .normal a w) (hr : (Region.ready md ops l == []) = true := by kernel_rfl) : xaS P md ops Q S ds n l a w := done_ hr h
end
end Go.Proofs.YtkabcgmegljebaaGreatDoor.H
namespace Go.Proofs.YtkabcgmegljebaaGreatDoor.H
open Go.RowKit Go.Proofs.YtkabcgmegljebaaGreatDoorW.PrintWords Go.Proofs.YtkabcgmegljebaaGreatDoorW.PrintLast Go.Proofs.YtkabcgmegljebaaGreatDoorW.PrintMore
open Go.Proofs.YtkabcgmegljebaaGreatDoor.Q
structure Fr (F : Nat → Prop) (w w' : World) : Prop where
 os : w'.os = w.os
 tape : w'.tape = w.tape
 output : w'.output = w.output
 size : w.heap.size ≤ w'.heap.size
 block : ∀ k, k < w.heap.size → ¬ F k → w'.heap[k]? = w.heap[k]?
def Gr (F : Nat → Prop) (n m : Nat) : Nat → Prop := fun k => F k ∨ (n ≤ k ∧ k < m)
section
variable {F : Nat → Prop} {w W w1 : World}
theorem Fr.refl (F : Nat → Prop) (w : World) : Fr F w w := ⟨rfl, rfl, rfl, Nat.le_refl _, fun _ _ _ => rfl⟩
theorem Fr.below (h : Fr F w W) (hb : Below W.heap.size W w1) : Fr F w w1 := ⟨hb.os.trans h.os, hb.tape.trans h.tape, hb.output.trans h.output, Nat.le_trans h.size hb.size, fun k hk hF => (hb.block k (Nat.lt_of_lt_of_le hk h.size)).trans (h.block k hk hF)⟩
theorem Fr.alloc (h : Fr F w W) (o : Obj) : Fr F w (W.alloc o) := h.below (xaH (Below.refl _ _) o)
theorem Fr.drewN (h : Fr F w W) (n : Nat) : Fr F w (W.drewN n) := h.below (xaG (Below.refl _ _) n)
theorem Fr.drew (h : Fr F w W) : Fr F w W.drew := h.below (xaK (Below.refl _ _))
theorem Fr.grown (h : Fr F w W) {row : Option Nat} (hg : W.grownBy w1 row) (hr : ∀ k, row = some k → F k ∨ w.heap.size ≤ k) : Fr F w w1 :=
  ⟨hg.os.trans h.os, hg.tape.trans h.tape, hg.output.trans h.output, Nat.le_trans h.size hg.size, fun k hk hF => (hg.block k (Nat.lt_of_lt_of_le hk h.size) (fun e => by rcases hr k e.symm with h1 | h1; exact hF h1; omega)).trans (h.block k hk hF)⟩
theorem Fr.set (h : Fr F w W) {p : Addr} (u : Value) (hp : F p.block ∨ w.heap.size ≤ p.block) : Fr F w (W.setCell p u) := by
 refine ⟨h.os, h.tape, h.output, ?_, fun k hk hF => ?_⟩
 ·
  have : (W.setCell p u).heap.size = W.heap.size := by simp
  rw [this]; exact h.size
 ·
  rw [Below.heap_setCell W p u k (fun e => by subst e; rcases hp with h1 | h1; exact hF h1; omega)]
  exact h.block k hk hF
theorem Fr.setCells {b : Nat} (hb : F b ∨ w.heap.size ≤ b) : ∀ (vs : List Value) (o : Nat) {W : World}, Fr F w W → Fr F w (W.setCells b o vs)
  | [], _, _, h => h
  | v :: r, o, W, h => Fr.setCells hb r (o + 1) (h.set (p := ⟨b, o, none⟩) v hb)
theorem Fr.mono {G : Nat → Prop} (h : Fr F w W) (hG : ∀ k, k < w.heap.size → F k → G k) : Fr G w W := ⟨h.os, h.tape, h.output, h.size, fun k hk hn => h.block k hk (fun hF => hn (hG k hk hF))⟩
theorem Fr.trans (h : Fr F w W) (h1 : Fr (Gr F w.heap.size W.heap.size) W w1) : Fr F w w1 :=
  ⟨h1.os.trans h.os, h1.tape.trans h.tape, h1.output.trans h.output, Nat.le_trans h.size h1.size, fun k hk hF => (h1.block k (Nat.lt_of_lt_of_le hk h.size) (fun hG => by rcases hG with h2 | h2; exact hF h2; omega)).trans (h.block k hk hF)⟩
theorem Fr.step (h : Fr F w W) (h1 : Fr F W w1) : Fr F w w1 := h.trans (h1.mono (fun k _ hk => Or.inl hk))
theorem Fr.xdM {base : Nat} (h : Fr F w W) (hb : base ≤ w.heap.size) (hF : ∀ k, F k → base ≤ k) : Below base w W :=
  ⟨h.os, h.tape, h.output, h.size, fun k hk => h.block k (by omega) (fun hk2 => by have := hF k hk2; omega)⟩
theorem Fr.blk {g : Nat} {o : Obj} (h : Fr F w W) (hr : w.heap[g]? = some o) (hF : ¬ F g) : W.heap[g]? = some o := (h.block g (xaM hr) hF).trans hr
theorem Gr.sub {n n' m : Nat} (h : n ≤ n') : ∀ k, Gr F n' m k → Gr F n m k := fun k hk => hk.imp_right (fun h1 => ⟨Nat.le_trans h h1.1, h1.2⟩)
end
def own (A : Option Addr) : Nat → Prop := fun k => ∃ a, A = some a ∧ a.block = k
class Flat {α : Type} (d : Kd α) : Prop where
  K : ∀ {w w' : World} {x : α} {cs : List Value}, d.K w x cs → d.K w' x cs
instance : Flat k48 := ⟨fun {w w' x cs} h => by rw [k48_open h]; exact k48_mk w' x⟩
instance : Flat k37 := ⟨fun {w w' x cs} h => by rw [k37_open h]; exact xhZ w' x⟩
instance : Flat k103 := ⟨fun {w w' x cs} h => by rw [xlL h]; exact xiA w' x⟩
instance (k : IntKind) : Flat (Kd.int k) := ⟨fun h => h⟩
structure Sl {α : Type} (d : Kd α) (e : TypeId) (w : World) (base : Nat) (F : Nat → Prop) (A : Option Addr) (c : Nat) (xs : List α) : Prop where
 le : xs.length ≤ c
 lim : xs.length ≤ 9223372036854775807
 row : (A = none ∧ c = 0) ∨ ∃ b off cur inner, A = some ⟨b, off, none⟩ ∧ F b ∧ base ≤ b ∧ w.heap[b]? = some (.cells cur e (0, 0)) ∧ off + c * d.sz ≤ cur.size ∧ Reps (d.K w) d.sz xs inner ∧ (cur.toList.drop off).take (xs.length * d.sz) = inner
section
variable {α : Type} {d : Kd α} {e : TypeId} {w w1 : World} {base : Nat} {F G : Nat → Prop} {A : Option Addr} {c : Nat} {xs : List α}
theorem Sl.nil (d : Kd α) (e : TypeId) (w : World) (base : Nat) (F : Nat → Prop) : Sl d e w base F none 0 [] := ⟨Nat.le_refl _, Nat.zero_le _, Or.inl ⟨rfl, rfl⟩⟩
theorem Sl.mono (h : Sl d e w base F A c xs) (hG : ∀ k, F k → k < w.heap.size → G k) : Sl d e w base G A c xs :=
  ⟨h.le, h.lim, h.row.imp_right (fun ⟨b, off, cur, inner, h1, h2, h3, h4, h5⟩ => ⟨b, off, cur, inner, h1, hG b h2 (xaM h4), h3, h4, h5⟩)⟩
theorem Sl.frame [Flat d] (h : Sl d e w base F A c xs) (hm : ∀ k, F k → k < w.heap.size → w1.heap[k]? = w.heap[k]?) : Sl d e w1 base F A c xs :=
  ⟨h.le, h.lim, h.row.imp_right (fun ⟨b, off, cur, inner, h1, h2, h3, h4, h5, h6, h7⟩ => ⟨b, off, cur, inner, h1, h2, h3, (hm b h2 (xaM h4)).trans h4, h5, h6.imp_ (fun _ _ hp => Flat.K hp), h7⟩)⟩
theorem Sl.below [Flat d] (h : Sl d e w base F A c xs) (hb : Below w.heap.size w w1) : Sl d e w1 base F A c xs := h.frame (fun k _ hk => hb.block k hk)
theorem Sl.fr [Flat d] (h : Sl d e w base F A c xs) (hf : Fr G w w1) (hd : ∀ k, F k → ¬ G k) : Sl d e w1 base F A c xs := h.frame (fun k h1 hk => hf.block k hk (hd k h1))
theorem Sl.set [Flat d] (h : Sl d e w base F A c xs) {g t : Nat} {cells : Array Value} (hb : w.heap[g]? = some (.cells cells t (0, 0))) (ht : e ≠ t) (j : Nat) (u : Value) : Sl d e (w.setCell ⟨g, j, none⟩ u) base F A c xs :=
  ⟨h.le, h.lim, h.row.imp_right (fun ⟨b, off, cur, inner, h1, h2, h3, h4, h5, h6, h7⟩ => ⟨b, off, cur, inner, h1, h2, h3, (Below.heap_setCell w ⟨g, j, none⟩ u b (fun e1 => by
    subst e1; rw [h4] at hb; injection hb with hb; injection hb with _ hb; exact ht hb)).trans h4, h5, h6.imp_ (fun _ _ hp => Flat.K hp), h7⟩)⟩
theorem Sl.cell (h : Sl d e w base F A c xs) {b off : Nat} {cur : Array Value} (hb : w.heap[b]? = some (.cells cur e (0, 0))) (j : Nat) : w.cell? ⟨b, off + j, none⟩ = (cur.toList.drop off)[j]? := by
  rw [xaB hb, List.getElem?_drop, Array.getElem?_toList]
theorem Sl.C (h : Sl d e w base F A c xs) : Kd.C d w A xs.length xs := by
 refine ⟨rfl, h.lim, fun hn => ?_⟩
 rcases h.row with ⟨rfl, rfl⟩ | ⟨b, off, cur, inner, rfl, h2, h3, h4, h5, h6, h7⟩
 ·
  have := h.le; omega
 ·
  refine ⟨_, rfl, fun j p hp => ⟨(inner.drop (j * d.sz)).take d.sz, d.K_len (h6.2 j p hp), h6.2 j p hp, fun i u hu => ?_⟩⟩
  rw [List.getElem?_take] at hu
  split at hu
  ·
   rename_i hi
   rw [List.getElem?_drop, ← h7, List.getElem?_take] at hu
   split at hu
   ·
    rw [Addr.add_lit, h.cell h4]; exact hu
   ·
    cases hu
  ·
   cases hu
theorem Sl.of_own {base' n : Nat} {v : Value} {inner : List Value} (h : w.ownsRow base' e d.sz v n inner) (hr : Reps (d.K w) d.sz xs inner) (hn : xs.length = n) (hF : ∀ k, base' ≤ k → k < w.heap.size → F k) (hb : base ≤ base') : ∃ A c, v = .slice A n c ∧ Sl d e w base F A c xs ∧ (∀ a, A = some a → base' ≤ a.block) := by
 subst hn
 rcases h.2 with ⟨rfl, h0⟩ | ⟨g, cap, cur, rfl, h1, h2, h3, h4, h5, h6⟩
 ·
  exact ⟨none, 0, by rw [h0], ⟨by omega, by omega, Or.inl ⟨rfl, rfl⟩⟩, fun a ha => by cases ha⟩
 ·
  exact ⟨_, cap, rfl, ⟨h3, by simp only [maxLen] at h4; omega, Or.inr ⟨g, 0, cur, inner, rfl, hF g h1 (xaM h2), by omega, h2, by omega, hr, by rw [List.drop_zero]; exact h6⟩⟩, fun a ha => by injection ha with ha; subst ha; exact h1⟩
theorem Sl.of_R [Flat d] {ok : Nat → Prop} {v : Value} (h : Kd.R d e w base ok v xs) : ∃ A c, v = .slice A xs.length c ∧ Sl d e w base ok A c xs := by
 obtain ⟨h0, inner, ho, hr⟩ := h
 have hr' : Reps (d.K w) d.sz xs inner := hr.imp_ (fun _ _ hp => d.K_of_M hp)
 rcases ho.2 with ⟨rfl, hz⟩ | ⟨g, cap, cur, rfl, h1, h2, h3, h4, h5, h6⟩
 ·
  exact ⟨none, 0, by rw [hz], by omega, by omega, Or.inl ⟨rfl, rfl⟩⟩
 ·
  exact ⟨_, cap, rfl, h3, by simp only [maxLen] at h4; omega, Or.inr ⟨g, 0, cur, inner, rfl, h0 g rfl, h1, h2, by omega, hr', by rw [List.drop_zero]; exact h6⟩⟩
theorem xlA {R : α → List Value → Prop} {sz : Nat} {ps : List α} {cs : List Value} (h : Reps R sz ps cs) (m : Nat) (hm : m ≤ ps.length) : Reps R sz (ps.take m) (cs.take (m * sz)) := by
 refine ⟨?_, fun j p hj => ?_⟩
 ·
  rw [List.length_take, List.length_take, h.1, Nat.min_eq_left hm, Nat.min_eq_left (Nat.mul_le_mul_right _ hm)]
 ·
  rw [List.getElem?_take] at hj
  split at hj
  ·
   rename_i hlt
   have h1 := h.2 j p hj
   have h2 : j * sz + sz ≤ m * sz := by
    have := Nat.mul_le_mul_right sz (show j + 1 ≤ m by omega)
    rwa [Nat.add_mul, Nat.one_mul] at this
   rw [List.drop_take, List.take_take, Nat.min_eq_left (by omega)]
   exact h1
  ·
   cases hj
theorem Sl.head (h : Sl d e w base F A c xs) (m c' : Nat) (hm : m ≤ xs.length) (hc : m ≤ c') (hc' : c' ≤ c) : Sl d e w base F A c' (xs.take m) := by
 have hl : (xs.take m).length = m := by rw [List.length_take]; omega
 refine ⟨by omega, by have := h.lim; omega, ?_⟩
 rcases h.row with ⟨rfl, rfl⟩ | ⟨b, off, cur, inner, rfl, h2, h3, h4, h5, h6, h7⟩
 ·
  exact Or.inl ⟨rfl, by omega⟩
 ·
  refine Or.inr ⟨b, off, cur, inner.take (m * d.sz), rfl, h2, h3, h4, ?_, xlA h6 m hm, ?_⟩
  ·
   have := Nat.mul_le_mul_right d.sz hc'; omega
  ·
   rw [hl, ← h7, List.take_take, Nat.min_eq_left (Nat.mul_le_mul_right _ hm)]
theorem xeS {R : α → List Value → Prop} {sz : Nat} {ps qs : List α} {cs ds : List Value} (h : Reps R sz ps cs) (h' : Reps R sz qs ds) : Reps R sz (ps ++ qs) (cs ++ ds) := by
 refine ⟨by rw [List.length_append, List.length_append, h.1, h'.1, Nat.add_mul], fun j p hj => ?_⟩
 by_cases hlt : j < ps.length
 ·
  rw [List.getElem?_append_left hlt] at hj
  have h1 := h.2 j p hj
  have h2 : j * sz + sz ≤ cs.length := by
   have := Nat.mul_le_mul_right sz (show j + 1 ≤ ps.length by omega)
   rw [Nat.add_mul, Nat.one_mul] at this
   rw [h.1]; exact this
  rw [List.drop_append_of_le_length (by omega), List.take_append_of_le_length (by rw [List.length_drop]; omega)]
  exact h1
 ·
  rw [List.getElem?_append_right (by omega)] at hj
  have h1 := h'.2 (j - ps.length) p hj
  have h2 : j * sz = cs.length + (j - ps.length) * sz := by
   rw [h.1, ← Nat.add_mul]; congr 1; omega
  rw [h2, List.drop_append, List.drop_of_length_le (by omega), List.nil_append, Nat.add_sub_cancel_left]
  exact h1
def putR : Array Value → Nat → List Value → Array Value
  | cs, _, [] => cs
  | cs, o, v :: r => putR (cs.setIfInBounds o v) (o + 1) r
theorem xhT : ∀ (vs : List Value) (cs : Array Value) (o : Nat), (putR cs o vs).size = cs.size
  | [], _, _ => rfl
  | v :: r, cs, o => by rw [putR, xhT r]; simp
theorem xhU : ∀ (vs : List Value) (cs : Array Value) (o : Nat), o + vs.length ≤ cs.size → (putR cs o vs).toList = cs.toList.take o ++ (vs ++ cs.toList.drop (o + vs.length))
 | [], cs, o, h => by simp [putR]
 | v :: r, cs, o, h => by
  rw [List.length_cons] at h
  rw [putR, xhU r _ (o + 1) (by simp; omega)]
  simp only [Array.toList_setIfInBounds, List.length_cons]
  have hl : o < cs.toList.length := by simp; omega
  have e1 : (cs.toList.set o v).take (o + 1) = cs.toList.take o ++ [v] := by
   rw [List.take_succ_eq_append_getElem (by rw [List.length_set]; exact hl), List.getElem_set_self]
   congr 1
   apply List.ext_getElem?
   intro i
   rw [List.getElem?_take, List.getElem?_take]
   split
   ·
    rw [List.getElem?_set_ne (by omega)]
   ·
    rfl
  have e2 : (cs.toList.set o v).drop (o + 1 + r.length) = cs.toList.drop (o + (r.length + 1)) := by
   rw [List.drop_set_of_lt (by omega), show o + 1 + r.length = o + (r.length + 1) by omega]
  rw [e1, e2]
  simp
theorem putR_head (vs : List Value) (cs : Array Value) (o off n : Nat) (h : o + vs.length ≤ cs.size) (hn : off + n ≤ o) : ((putR cs o vs).toList.drop off).take n = (cs.toList.drop off).take n := by
 rw [xhU vs cs o h]
 apply List.ext_getElem?
 intro i
 rw [List.getElem?_take, List.getElem?_take]
 split
 ·
  rename_i hi
  have h1 : (cs.toList.take o).length = o := by rw [List.length_take]; simp; omega
  rw [List.getElem?_drop, List.getElem?_drop, List.getElem?_append_left (by omega), List.getElem?_take, if_pos (by omega)]
 ·
  rfl
def Old {α : Type} (d : Kd α) (e : TypeId) (w w1 : World) (A A1 : Option Addr) (n : Nat) : Prop :=
  (A1 = A ∨ ∀ a, A1 = some a → w.heap.size ≤ a.block) ∧ ∀ (base : Nat) (F : Nat → Prop) (Ao : Option Addr) (co : Nat) (ys : List α), Sl d e w base F Ao co ys → (∀ a a', A = some a → Ao = some a' → a'.block = a.block → a'.off + ys.length * d.sz ≤ a.off + n * d.sz) → Sl d e w1 base F Ao co ys
theorem xeV {b t : Nat} : ∀ (vs : List Value) (o : Nat) (cs : Array Value) (w : World), w.heap[b]? = some (.cells cs t (0, 0)) → (w.setCells b o vs).heap[b]? = some (.cells (putR cs o vs) t (0, 0))
  | [], _, _, _, h => h
  | v :: r, o, cs, w, h => by rw [World.setCells, putR]; exact xeV r (o + 1) _ _ (xaN h o v rfl)
theorem Sl.xjL [Flat d] {P : Program} (t ty : TypeId) (z : Value) (bytes : Nat) (ht : P.underlying t = some (.slice e)) (hinfo : (P.info? e).map (fun i => (i.zero, i.size, i.bytes)) = some (some z, d.sz, bytes)) (hz : z.cells.size = d.sz) (hs0 : 0 < d.sz) (hb0 : 0 < bytes)
  (h : Sl d e w base F A c xs) (hbase : base ≤ w.heap.size) {A' : Option Addr} {m c' : Nat} {ys : List α} (hy : Kd.C d w A' m ys) (hl : (xs.length + m) * bytes ≤ 140737488355328) :
  ∃ A1 c1 w1, (Builtin.append_ #[t, t] ty #[.slice A xs.length c, .slice A' m c']).run P w = .ok (.slice A1 (xs.length + m) c1) w1 ∧ Sl d e w1 base (Gr F w.heap.size w1.heap.size) A1 c1 (xs ++ ys) ∧ Fr (own A) w w1 ∧
   Old d e w w1 A A1 xs.length := by
 obtain ⟨i0, hi, hzz⟩ := Option.map_eq_some_iff.1 hinfo
 simp only [Prod.mk.injEq] at hzz
 obtain ⟨hz0, hz1, hz2⟩ := hzz
 have hm : ys.length = m := hy.1
 have hlen : xs.length + m ≤ 140737488355328 := Nat.le_trans (Nat.le_mul_of_pos_right _ hb0) hl
 have hup : Sl d e w base (Gr F w.heap.size w.heap.size) A c xs := h.mono (fun k hk _ => Or.inl hk)
 rcases A' with _ | ad
 ·
  have h0 : m = 0 := by
   rcases Nat.eq_zero_or_pos m with h0 | h0
   ·
    exact h0
   ·
    obtain ⟨ad, he, _⟩ := hy.2.2 h0
    cases he
  subst h0
  obtain rfl : ys = [] := List.eq_nil_of_length_eq_zero hm
  refine ⟨A, c, w, ?_, by rw [List.append_nil]; exact hup, Fr.refl _ _, Or.inl rfl, fun _ _ _ _ _ h _ => h⟩
  rcases h.row with ⟨rfl, rfl⟩ | ⟨b, off, cur, inner, rfl, _⟩
  ·
   have h1 : xs.length = 0 := by have := h.le; omega
   simp [Builtin.append_, run_underlying ht, sizeOf, typeInfo, hi, Builtin.lenOf, Builtin.firstCells, h1]
  ·
   simp [Builtin.append_, run_underlying ht, sizeOf, typeInfo, hi, Builtin.lenOf, Builtin.firstCells, h.le, storeCells]
 ·
  obtain ⟨news, hnr, hnc⟩ := xcN.inner_ hy
  have hone : ∀ u ∈ news, u.oneCell' = true := Kd.reps_one hnr hs0 (fun p c hp u hu => d.K_one hp u hu)
  have hnl : news.length = m * d.sz := by rw [hnr.1, hm]
  rcases h.row with ⟨rfl, rfl⟩ | ⟨b, off, cur, inner, rfl, h2, h3, h4, h5, h6, h7⟩
  ·
   have h1 : xs = [] := List.eq_nil_of_length_eq_zero (by have := h.le; omega)
   subst h1
   obtain ⟨v1, w1, hrun, ho, hg, _, hat⟩ := run_append_own_at (P := P) w w.heap.size t ty e i0 z d.sz bytes ht hi hz0 hz1 hz2 hz hs0 (.slice none 0 0) 0 [] (own_nil _ _ _ _) ad m c' news hnl hnc hone (by simp only [maxLen]; omega) (by simpa using hl) (Nat.le_refl _)
   rw [List.nil_append] at ho
   obtain ⟨A1, c1, rfl, hs, hnew⟩ := Sl.of_own (base := base) (F := Gr F w.heap.size w1.heap.size) ho (hnr.imp_ (fun _ _ hp => Flat.K hp)) (by omega) (fun k h1 h2 => Or.inr ⟨h1, h2⟩) hbase
   refine ⟨A1, c1, w1, hrun, hs, (Fr.refl _ w).grown hg (fun k hk => by simp [Value.ownBlock] at hk), Or.inr hnew, fun _ _ _ _ _ h _ => h.frame (fun k _ hk => hg.block k hk (by simp [Value.ownBlock]))⟩
  ·
   have hil : inner.length = xs.length * d.sz := h6.1
   have hread : ∀ j u, inner[j]? = some u → w.cell? (Addr.add ⟨b, off, none⟩ j) = some u := fun j u hu => by
    rw [Addr.add_lit, h.cell h4]
    rw [← h7, List.getElem?_take] at hu
    split at hu
    ·
     exact hu
    ·
     cases hu
   by_cases hroom : xs.length + m ≤ c
   ·
    have hfit : off + xs.length * d.sz + news.length ≤ cur.size := by
     have := Nat.mul_le_mul_right d.sz hroom
     rw [Nat.add_mul] at this
     rw [hnl]; omega
    have hrun := run_append_room_cells (P := P) w t ty e i0 ht hi b off xs.length c ad m c' news (by rw [hz1]; exact hnl) hnc hone hroom (fun j hj => by
     rw [hz1, xaB h4, Array.getElem?_eq_getElem (by omega)]; rfl) (fun j hj => xaE h4 _)
    rw [hz1] at hrun
    refine ⟨_, c, _, hrun, ⟨by rw [List.length_append, hm]; exact hroom, by rw [List.length_append, hm]; omega, Or.inr ⟨b, off, putR cur (off + xs.length * d.sz) news, inner ++ news, rfl, Or.inl h2, h3, xeV _ _ _ _ h4, by rw [xhT]; exact h5, xeS (h6.imp_ (fun _ _ hp => Flat.K hp)) (hnr.imp_ (fun _ _ hp => Flat.K hp)), ?_⟩⟩, Fr.setCells (Or.inl ⟨_, rfl, rfl⟩) _ _ (Fr.refl _ _), Or.inl rfl, fun base' F' Ao co ys' ho hrel => ?_⟩
    ·
     rw [xhU _ _ _ hfit, List.drop_append_of_le_length (by rw [List.length_take]; simp; omega), List.drop_take, show off + xs.length * d.sz - off = xs.length * d.sz by omega, h7, List.length_append, hm, Nat.add_mul, List.take_append, hil, List.take_of_length_le (by omega), show xs.length * d.sz + m * d.sz - xs.length * d.sz = m * d.sz by omega, List.take_append_of_le_length (by omega), List.take_of_length_le (by omega)]
    ·
     refine ⟨ho.le, ho.lim, ho.row.imp_right (fun ⟨b2, off2, cur2, inner2, g1, g2, g3, g4, g5, g6, g7⟩ => ?_)⟩
     by_cases hb2 : b2 = b
     ·
      subst hb2
      rw [h4] at g4
      injection g4 with g4
      injection g4 with g4
      subst g4;have h8 := hrel _ _ rfl g1 rfl
      exact ⟨b2, off2, _, inner2, g1, g2, g3, xeV _ _ _ _ h4, by rw [xhT]; exact g5, g6.imp_ (fun _ _ hp => Flat.K hp), by rw [putR_head _ _ _ _ _ hfit h8]; exact g7⟩
     ·
      have hf := Fr.setCells (F := own (some ⟨b, off, none⟩)) (w := w) (b := b) (Or.inl ⟨_, rfl, rfl⟩) news (off + xs.length * d.sz) (Fr.refl _ w)
      exact ⟨b2, off2, cur2, inner2, g1, g2, g3, (hf.block b2 (xaM g4) (fun ⟨a, ha, hk⟩ => by injection ha with ha; subst ha; exact hb2 hk.symm)).trans g4, g5, g6.imp_ (fun _ _ hp => Flat.K hp), g7⟩
   ·
    obtain ⟨v1, w1, hrun, ho, hg⟩ := run_append_arg_grows (P := P) w t ty e i0 z d.sz bytes ht hi hz0 hz1 hz2 hz hs0 ⟨b, off, none⟩ xs.length c inner hil hread ad m c' news hnl hnc (by omega) (by simp only [maxLen]; omega) hl
    obtain ⟨A1, c1, rfl, hs, hnew⟩ := Sl.of_own (base := base) (F := Gr F w.heap.size w1.heap.size) (xs := xs ++ ys) ho (xeS (h6.imp_ (fun _ _ hp => Flat.K hp)) (hnr.imp_ (fun _ _ hp => Flat.K hp))) (by rw [List.length_append, hm]) (fun k h1 h2 => Or.inr ⟨h1, h2⟩) hbase
    exact ⟨A1, c1, w1, hrun, hs, (Fr.refl _ w).grown hg (fun k hk => by cases hk), Or.inr hnew, fun _ _ _ _ _ h _ => h.frame (fun k _ hk => hg.block k hk (by simp))⟩
theorem Sl.own_F (h : Sl d e w base F A c xs) : ∀ k, own A k → F k := fun k hk => by
 obtain ⟨a, rfl, rfl⟩ := hk
 rcases h.row with ⟨h1, _⟩ | ⟨b, off, cur, inner, h1, h2, _⟩
 ·
  cases h1
 ·
  injection h1 with h1; subst h1; exact h2
theorem Sl.xeK (h : Sl d e w base F A c xs) {g t : Nat} {cells : Array Value} (hb : w.heap[g]? = some (.cells cells t (0, 0))) (ht : e ≠ t) : ¬ own A g := fun hk => by
 obtain ⟨a, rfl, rfl⟩ := hk
 rcases h.row with ⟨h1, _⟩ | ⟨b, off, cur, inner, h1, h2, h3, h4, _⟩
 ·
  cases h1
 ·
  injection h1 with h1; subst h1; rw [h4] at hb; injection hb with hb; injection hb with _ hb; exact ht hb
theorem Sl.keep {β : Type} {d' : Kd β} {e' : TypeId} {base' : Nat} {F' : Nat → Prop} {A' : Option Addr} {c' : Nat} {ys : List β} [Flat d] (h : Sl d e w base F A c xs) (h' : Sl d' e' w base' F' A' c' ys) (hne : e ≠ e') (hf : Fr (own A') w w1) : Sl d e w1 base F A c xs :=
  ⟨h.le, h.lim, h.row.imp_right (fun ⟨b, off, cur, inner, h1, h2, h3, h4, h5, h6, h7⟩ => ⟨b, off, cur, inner, h1, h2, h3, (hf.block b (xaM h4) (h'.xeK h4 hne.symm)).trans h4, h5, h6.imp_ (fun _ _ hp => Flat.K hp), h7⟩)⟩
theorem lit_C {w : World} {e : TypeId} {p : α} {cs : List Value} (hp : d.K w p cs) [Flat d] : Kd.C d (w.alloc (.cells cs.toArray e)) (some ⟨w.heap.size, 0, none⟩) 1 [p] := by
 refine ⟨rfl, by omega, fun _ => ⟨_, rfl, fun j q hj => ?_⟩⟩
 have hj0 : j = 0 := by
  rcases Nat.eq_zero_or_pos j with h | h
  ·
   exact h
  ·
   rw [List.getElem?_eq_none (by simp; omega)] at hj; cases hj
 subst hj0
 injection hj with hj
 subst hj
 refine ⟨cs, d.K_len hp, Flat.K hp, fun i u hu => ?_⟩
 rw [Nat.zero_mul, Nat.zero_add, Addr.add_lit, Nat.zero_add, xaB (xbF w _)]
 simpa using hu
theorem Old.pre [Flat d] {W : World} {A1 : Option Addr} {n : Nat} (hb : Below w.heap.size w W) (h : Old d e W w1 A A1 n) : Old d e w w1 A A1 n :=
  ⟨h.1.imp_right (fun h1 a ha => Nat.le_trans hb.size (h1 a ha)), fun b F Ao co ys h1 h2 => h.2 b F Ao co ys (h1.below hb) h2⟩
theorem Old.set [Flat d] {A1 : Option Addr} {n g t : Nat} {cells : Array Value} (h : Old d e w w1 A A1 n) (hb : w1.heap[g]? = some (.cells cells t (0, 0))) (ht : e ≠ t) (j : Nat) (u : Value) : Old d e w (w1.setCell ⟨g, j, none⟩ u) A A1 n :=
  ⟨h.1, fun b F Ao co ys h1 h2 => (h.2 b F Ao co ys h1 h2).set hb ht j u⟩
section
variable {P : Program} {ops : Array Oper} {rest : List Oper} {o : Oper} {a : Act} {Q : Exit → Act → World → Prop} {Kc : Act → World → Prop}
theorem Sl.xkQ [Flat d] (hgd : o.guard = none) (s x : Operand) (t : TypeId) (z : Value) (bytes : Nat) (ho : o.op = .call { callee := .builtin .append, args := #[s, x], argTypes := #[t, t] }) (ht : P.underlying t = some (.slice e)) (hinfo : (P.info? e).map (fun i => (i.zero, i.size, i.bytes)) = some (some z, d.sz, bytes)) (hz : z.cells.size = d.sz) (hs0 : 0 < d.sz) (hb0 : 0 < bytes)
  {A' : Option Addr} {m c' : Nat} {ys : List α} (hs : a.eval s = .slice A xs.length c) (hx : a.eval x = .slice A' m c') (h : Sl d e w base F A c xs) (hy : Kd.C d w A' m ys) (hbase : base ≤ w.heap.size) (hl : (xs.length + m) * bytes ≤ 140737488355328)
  (hk : ∀ A1 c1 w1, Sl d e w1 base (Gr F w.heap.size w1.heap.size) A1 c1 (xs ++ ys) → Fr (own A) w w1 → Old d e w w1 A A1 xs.length → wpList P ops Q rest (a.put o.dst (.slice A1 (xs.length + m) c1)) w1) : wpList P ops Q (o :: rest) a w := by
 obtain ⟨A1, c1, w1, hrun, h1, h2, h3⟩ := h.xjL t o.type z bytes ht hinfo hz hs0 hb0 hbase (c' := c') hy hl
 refine wpList_plain hgd fun K hK' => ?_
 unfold Oper.wp
 simp [execOp, ho, resolve, invoke, builtin, hs, hx, hrun, Result.andThen]
 exact hK' _ _ (hk A1 c1 w1 h1 h2 h3)
theorem Sl.xfA [Flat d] (hw : Region.wanted o (yielded ops a.tmps) = true) (s x : Operand) (t : TypeId) (z : Value) (bytes : Nat) (ho : o.op = .call { callee := .builtin .append, args := #[s, x], argTypes := #[t, t] }) (ht : P.underlying t = some (.slice e)) (hinfo : (P.info? e).map (fun i => (i.zero, i.size, i.bytes)) = some (some z, d.sz, bytes)) (hz : z.cells.size = d.sz) (hs0 : 0 < d.sz) (hb0 : 0 < bytes)
  {A' : Option Addr} {m c' : Nat} {ys : List α} {E : Prop} (hs : a.eval s = .slice A xs.length c) (hx : a.eval x = .slice A' m c') (h : Sl d e w base F A c xs) (hy : Kd.C d w A' m ys) (hbase : base ≤ w.heap.size) (hl : (xs.length + m) * bytes ≤ 140737488355328)
  (hk : ∀ A1 c1 w1, Sl d e w1 base (Gr F w.heap.size w1.heap.size) A1 c1 (xs ++ ys) → Fr (own A) w w1 → Old d e w w1 A A1 xs.length → Kc (a.put o.dst (.slice A1 (xs.length + m) c1)) w1) :
  if Region.wanted o (yielded ops a.tmps) = true then Oper.wp P o a w Kc Q else E := by
 obtain ⟨A1, c1, w1, hrun, h1, h2, h3⟩ := h.xjL t o.type z bytes ht hinfo hz hs0 hb0 hbase (c' := c') hy hl
 rw [if_pos hw]
 unfold Oper.wp
 simp [execOp, ho, resolve, invoke, builtin, hs, hx, hrun, Result.andThen]
 exact hk A1 c1 w1 h1 h2 h3
end
end
end Go.Proofs.YtkabcgmegljebaaGreatDoor.H
namespace Go.Proofs.YtkabcgmegljebaaGreatDoor.H
open Go.RowKit Go.Proofs.YtkabcgmegljebaaGreatDoorW.PrintWords Go.Proofs.YtkabcgmegljebaaGreatDoorW.PrintLast Go.Proofs.YtkabcgmegljebaaGreatDoorW.PrintMore
theorem fbits (x : Nat) (w : World) : (callFunc 49 #[.float .f64 x]).run Tryz.prog w = .ok (.value (.int .u64 x)) w := by
  rw [run_callFunc_extern Tryz.func49 (by kernel_rfl) (by kernel_rfl) (by kernel_rfl) (e := Extern.MathFloatBits.float64bits) (by kernel_rfl)]; rfl
theorem eqT (d : Nat) (w : World) (x0 y0 x1 y1 x2 y2 x5 y5 x6 y6 x7 y7 x8 y8 x9 y9 x10 y10 : Int) (x3 y3 x4 y4 : Nat) :
  (Op.equalIn (d + 2) 103 (.agg #[.int .i64 x0, .int .i64 x1, .int .i64 x2, .float .f64 x3, .float .f64 x4, .int .i64 x5, .int .i64 x6, .int .i64 x7, .int .i64 x8, .int .i64 x9, .int .i64 x10]) (.agg #[.int .i64 y0, .int .i64 y1, .int .i64 y2, .float .f64 y3, .float .f64 y4, .int .i64 y5, .int .i64 y6, .int .i64 y7, .int .i64 y8, .int .i64 y9, .int .i64 y10])).run Tryz.prog w = .ok (x0 == y0 && (x1 == y1 && (x2 == y2 && (Op.floatEq .f64 x3 y3 && (Op.floatEq .f64 x4 y4 && (x5 == y5 && (x6 == y6 && (x7 == y7 && (x8 == y8 && (x9 == y9 && (x10 == y10))))))))))) w := by
 refine eqA_of Tryz.underlying103 (by kernel_rfl) ?_
 refine xbX (by rfl) (by go_simp; rfl) (by go_simp; rfl) (by go_simp) ?_
 refine xbX (by rfl) (by go_simp; rfl) (by go_simp; rfl) (by go_simp) ?_
 refine xbX (by rfl) (by go_simp; rfl) (by go_simp; rfl) (by go_simp) ?_
 refine xbX (by rfl) (by go_simp; rfl) (by go_simp; rfl) (by go_simp) ?_
 refine xbX (by rfl) (by go_simp; rfl) (by go_simp; rfl) (by go_simp) ?_
 refine xbX (by rfl) (by go_simp; rfl) (by go_simp; rfl) (by go_simp) ?_
 refine xbX (by rfl) (by go_simp; rfl) (by go_simp; rfl) (by go_simp) ?_
 refine xbX (by rfl) (by go_simp; rfl) (by go_simp; rfl) (by go_simp) ?_
 refine xbX (by rfl) (by go_simp; rfl) (by go_simp; rfl) (by go_simp) ?_
 refine xbX (by rfl) (by go_simp; rfl) (by go_simp; rfl) (by go_simp) ?_
 exact eqf_last (by rfl) (by go_simp; rfl) (by go_simp; rfl) (by go_simp)
theorem eqO (d : Nat) (w : World) (x0 y0 x3 y3 x4 y4 x5 y5 x6 y6 x7 y7 x8 y8 : Int) (x1 y1 x2 y2 : Nat) :
  (Op.equalIn (d + 2) 37 (.agg #[.int .i64 x0, .float .f64 x1, .float .f64 x2, .int .i64 x3, .int .i64 x4, .int .i64 x5, .int .i64 x6, .int .i64 x7, .int .i64 x8]) (.agg #[.int .i64 y0, .float .f64 y1, .float .f64 y2, .int .i64 y3, .int .i64 y4, .int .i64 y5, .int .i64 y6, .int .i64 y7, .int .i64 y8])).run Tryz.prog w = .ok (x0 == y0 && (Op.floatEq .f64 x1 y1 && (Op.floatEq .f64 x2 y2 && (x3 == y3 && (x4 == y4 && (x5 == y5 && (x6 == y6 && (x7 == y7 && (x8 == y8))))))))) w := by
 refine eqA_of Tryz.underlying37 (by kernel_rfl) ?_
 refine xbX (by rfl) (by go_simp; rfl) (by go_simp; rfl) (by go_simp) ?_
 refine xbX (by rfl) (by go_simp; rfl) (by go_simp; rfl) (by go_simp) ?_
 refine xbX (by rfl) (by go_simp; rfl) (by go_simp; rfl) (by go_simp) ?_
 refine xbX (by rfl) (by go_simp; rfl) (by go_simp; rfl) (by go_simp) ?_
 refine xbX (by rfl) (by go_simp; rfl) (by go_simp; rfl) (by go_simp) ?_
 refine xbX (by rfl) (by go_simp; rfl) (by go_simp; rfl) (by go_simp) ?_
 refine xbX (by rfl) (by go_simp; rfl) (by go_simp; rfl) (by go_simp) ?_
 refine xbX (by rfl) (by go_simp; rfl) (by go_simp; rfl) (by go_simp) ?_
 exact eqf_last (by rfl) (by go_simp; rfl) (by go_simp; rfl) (by go_simp)
theorem xdD (x : Nat) (w : World) : Calls Tryz.prog 29 #[.float .f64 x] w fun e w' => e = .returned (.int .u64 x) ∧ w' = w := by
 have hb := fbits x
 go_enter Tryz.func29, Tryz.ntmps29
 go_wp2
 go_ret
 exact ⟨rfl, rfl⟩
end Go.Proofs.YtkabcgmegljebaaGreatDoor.H
namespace Go.Proofs.YtkabcgmegljebaaGreatDoor.H
open Go.RowKit Go.Proofs.YtkabcgmegljebaaGreatDoorW.PrintWords Go.Proofs.YtkabcgmegljebaaGreatDoorW.PrintLast Go.Proofs.YtkabcgmegljebaaGreatDoorW.PrintMore
open Go.Proofs.YtkabcgmegljebaaGreatDoor.Q
theorem xeA : (Tryz.prog.info? 48).map (fun i => (i.zero, i.size, i.bytes)) = some (some (.agg #[.int .i64 0, .float .f64 0, .int .i64 0]), 3, 24) := by kernel_rfl
theorem xlM : (Tryz.prog.info? 37).map (fun i => (i.zero, i.size, i.bytes)) = some (some (.agg #[.int .i64 0, .float .f64 0, .float .f64 0, .int .i64 0, .int .i64 0, .int .i64 0, .int .i64 0, .int .i64 0, .int .i64 0]), 9, 72) := by kernel_rfl
theorem xjD (A : Option Addr) (c : Nat) (l : List S48) (w : World) (hr : Kd.C k48 w A l.length l) (hl : l.length * 24 ≤ 140737488355328) :
  Calls Tryz.prog 36 #[.slice A l.length c] w fun e w' => ∃ v, e = .returned v ∧ Kd.R k48 48 w' w.heap.size (fun _ => True) v l ∧ Below w.heap.size w w' := by
 have hnil := fun w => Lib.run_eql_slice_nil (P := Tryz.prog) w 24 48 A l.length c 0 0 Tryz.underlying24
 have HR := am hr;have HL := am hl
 have HB := am (Below.refl w.heap.size w)
 clear hl
 cases A with
 | none =>
  have hz : l.length = 0 := Nat.eq_zero_of_not_pos fun h0 => by
   obtain ⟨ad, he, _⟩ := hr.2.2 h0
   cases he
  have h0 : l = [] := List.length_eq_zero_iff.mp hz
  subst h0;clear hz hr HR HL
  simp only [List.length_nil, Option.isNone_none] at hnil ⊢
  go_enter Tryz.func36, Tryz.ntmps36
  go_wp2
  go_ret
  exact ⟨_, rfl, Kd.R_nil _ _ _ _ _, Below.refl _ _⟩
 | some ad =>
  clear hr
  go_enter Tryz.func36, Tryz.ntmps36
  go_wp2_with (first
   | ((with_reducible refine xaJ (N := 5) rfl ?_); refine Kd.R_lit k48 _ 48 ?hg (N := 5) ?hd (xs := ([] : List S48)) (inner := []) (ok := fun _ => True) (okp := fun _ => True) ?hr ?hp (fun _ hk => hk) trivial (Below.refl _ _) (Nat.le_refl _) (by simp) ?_; (case hd => rfl); (case hg => rfl); (case hr => first | (go_simp; done) | (go_simp; rfl)); (case hp => exact (Reps.none _ _)); intro v0 w1 ho hb hg_ hnew_; clear hg_ hnew_; have HO := am ho; replace HB := am hb; clear ho hb)
   | ((with_reducible refine xaR (b := .append) (xs := #[.tmp 5, .tmp 6]) rfl ?_); at_builtin; refine Kd.xeB k48 (w0 := w) w.heap.size rfl (.tmp 5) (.tmp 6) 24 48 (.agg #[.int .i64 0, .float .f64 0, .int .i64 0]) 24 rfl Tryz.underlying24 xeA rfl (by decide) (by omega) v0 [] l (some ad) l.length c (fun _ => True) (fun _ => False) rfl rfl HO.out ?aR (fun _ _ h => h) (fun _ h => h.elim) (fun _ _ => trivial) HB.out HB.out.size ?aL ?_; (case aR => exact Kd.xaQ HR.out HB.out); (case aL => have := HL.out; simp only [List.length_nil]; omega); intro v1 w2 ho hb hg hat; rw [List.nil_append] at ho; have HO1 := am ho; replace HB := am hb; clear ho hb hg hat))
  go_ret
  exact ⟨_, rfl, HO1.out, HB.out⟩
theorem clone_op (A : Option Addr) (c : Nat) (l : List S37) (w : World) (hr : Kd.C k37 w A l.length l) (hl : l.length * 72 ≤ 140737488355328) :
  Calls Tryz.prog 32 #[.slice A l.length c] w fun e w' => ∃ v, e = .returned v ∧ Kd.R k37 37 w' w.heap.size (fun _ => True) v l ∧ Below w.heap.size w w' := by
 have hnil := fun w => Lib.run_eql_slice_nil (P := Tryz.prog) w 22 37 A l.length c 0 0 Tryz.underlying22
 have HR := am hr;have HL := am hl
 have HB := am (Below.refl w.heap.size w)
 clear hl
 cases A with
 | none =>
  have hz : l.length = 0 := Nat.eq_zero_of_not_pos fun h0 => by
   obtain ⟨ad, he, _⟩ := hr.2.2 h0
   cases he
  have h0 : l = [] := List.length_eq_zero_iff.mp hz
  subst h0;clear hz hr HR HL
  simp only [List.length_nil, Option.isNone_none] at hnil ⊢
  go_enter Tryz.func32, Tryz.ntmps32
  go_wp2
  go_ret
  exact ⟨_, rfl, Kd.R_nil _ _ _ _ _, Below.refl _ _⟩
 | some ad =>
  clear hr
  go_enter Tryz.func32, Tryz.ntmps32
  go_wp2_with (first
   | ((with_reducible refine xaJ (N := 5) rfl ?_); refine Kd.R_lit k37 _ 37 ?hg (N := 5) ?hd (xs := ([] : List S37)) (inner := []) (ok := fun _ => True) (okp := fun _ => True) ?hr ?hp (fun _ hk => hk) trivial (Below.refl _ _) (Nat.le_refl _) (by simp) ?_; (case hd => rfl); (case hg => rfl); (case hr => first | (go_simp; done) | (go_simp; rfl)); (case hp => exact (Reps.none _ _)); intro v0 w1 ho hb hg_ hnew_; clear hg_ hnew_; have HO := am ho; replace HB := am hb; clear ho hb)
   | ((with_reducible refine xaR (b := .append) (xs := #[.tmp 5, .tmp 6]) rfl ?_); at_builtin; refine Kd.xeB k37 (w0 := w) w.heap.size rfl (.tmp 5) (.tmp 6) 22 37 (.agg #[.int .i64 0, .float .f64 0, .float .f64 0, .int .i64 0, .int .i64 0, .int .i64 0, .int .i64 0, .int .i64 0, .int .i64 0]) 72 rfl Tryz.underlying22 xlM rfl (by decide) (by omega) v0 [] l (some ad) l.length c (fun _ => True) (fun _ => False) rfl rfl HO.out ?aR (fun _ _ h => h) (fun _ h => h.elim) (fun _ _ => trivial) HB.out HB.out.size ?aL ?_; (case aR => exact Kd.xaQ HR.out HB.out); (case aL => have := HL.out; simp only [List.length_nil]; omega); intro v1 w2 ho hb hg hat; rw [List.nil_append] at ho; have HO1 := am ho; replace HB := am hb; clear ho hb hg hat))
  go_ret
  exact ⟨_, rfl, HO1.out, HB.out⟩
theorem xeP (A : Option Addr) (c : Nat) (l : List Int) (w : World) (hr : Kd.C (Kd.int .i64) w A l.length l) (hl : l.length * 8 ≤ 140737488355328) :
  Calls Tryz.prog 38 #[.slice A l.length c] w fun e w' => ∃ v, e = .returned v ∧ Kd.R (Kd.int .i64) 3 w' w.heap.size (fun _ => True) v l ∧ Below w.heap.size w w' := by
 have hnil := fun w => Lib.run_eql_slice_nil (P := Tryz.prog) w 49 3 A l.length c 0 0 Tryz.underlying49
 have HR := am hr;have HL := am hl
 have HB := am (Below.refl w.heap.size w)
 clear hl
 cases A with
 | none =>
  have hz : l.length = 0 := Nat.eq_zero_of_not_pos fun h0 => by
   obtain ⟨ad, he, _⟩ := hr.2.2 h0
   cases he
  have h0 : l = [] := List.length_eq_zero_iff.mp hz
  subst h0;clear hz hr HR HL
  simp only [List.length_nil, Option.isNone_none] at hnil ⊢
  go_enter Tryz.func38, Tryz.ntmps38
  go_wp2
  go_ret
  exact ⟨_, rfl, Kd.R_nil _ _ _ _ _, Below.refl _ _⟩
 | some ad =>
  clear hr
  go_enter Tryz.func38, Tryz.ntmps38
  go_wp2_with (first
   | ((with_reducible refine xaJ (N := 5) rfl ?_); refine Kd.R_lit (Kd.int .i64) _ 3 ?hg (N := 5) ?hd (xs := ([] : List Int)) (inner := []) (ok := fun _ => True) (okp := fun _ => True) ?hr ?hp (fun _ hk => hk) trivial (Below.refl _ _) (Nat.le_refl _) (by simp) ?_; (case hd => rfl); (case hg => rfl); (case hr => first | (go_simp; done) | (go_simp; rfl)); (case hp => exact (Reps.none _ _)); intro v0 w1 ho hb hg_ hnew_; clear hg_ hnew_; have HO := am ho; replace HB := am hb; clear ho hb)
   | ((with_reducible refine xaR (b := .append) (xs := #[.tmp 5, .tmp 6]) rfl ?_); at_builtin; refine Kd.xeB (Kd.int .i64) (w0 := w) w.heap.size rfl (.tmp 5) (.tmp 6) 49 3 (.int .i64 0) 8 rfl Tryz.underlying49 info3 rfl (by decide) (by omega) v0 [] l (some ad) l.length c (fun _ => True) (fun _ => False) rfl rfl HO.out ?aR (fun _ _ h => h) (fun _ h => h.elim) (fun _ _ => trivial) HB.out HB.out.size ?aL ?_; (case aR => exact Kd.xaQ HR.out HB.out); (case aL => have := HL.out; simp only [List.length_nil]; omega); intro v1 w2 ho hb hg hat; rw [List.nil_append] at ho; have HO1 := am ho; replace HB := am hb; clear ho hb hg hat))
  go_ret
  exact ⟨_, rfl, HO1.out, HB.out⟩
theorem xiE (A : Option Addr) (c n : Nat) (w : World) (hn : n ≤ c) (hc : n ≤ 9223372036854775807) :
  Calls Tryz.prog 35 #[.slice A n c] w fun e w' => e = .returned (.slice A n n) ∧ w' = w := by
 go_enter Tryz.func35, Tryz.ntmps35
 go_wp2
 go_ret
 exact ⟨rfl, rfl⟩
end Go.Proofs.YtkabcgmegljebaaGreatDoor.H
