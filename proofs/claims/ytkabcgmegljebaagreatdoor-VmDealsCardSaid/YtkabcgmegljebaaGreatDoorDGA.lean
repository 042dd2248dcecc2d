/- Contracts and facts of functions of the program, joined in one text. -/
import Derived.Test.YtkabcgmegljebaaGreatDoorDW
import Derived.WalkLawsBesides
import Derived.Test.YtkabcgmegljebaaGreatDoorProg
import Derived.Below
import Derived.Deep.Draws
import Derived.Deep.AppendLies
import Derived.Maps.AppendAt
import Derived.OwnWalk
import Derived.Laws.BytesArg
import Derived.Laws.MakeOwn
import Derived.Laws.OwnMore
import Derived.Deep.OwnRows
import Derived.Tactics
import Derived.Lib.ConvBytes
import Derived.Laws.Slices
import Derived.WalkKit
import Derived.KernelRfl
import Derived.RowKit3
import Derived.Deep.LoopGhost
import Derived.Deep.QuietTactic
import Derived.BigQuiet
import Derived.WideLaws
import Derived.Deep.DeepCutAuto
import Derived.Deep.CutBlock
import Derived.Deep.RegionHeld3
import Derived.Laws.Rows
import Derived.Lib.AppendStr
import Derived.ArgAppend
import Derived.Laws.IdiomCopy
import Derived.OrdersHeld
import Derived.Laws.BitsLemmas
import Derived.RowKit
import Derived.Laws.Externs
import Derived.WalkSpells
set_option maxHeartbeats 8000000
set_option maxRecDepth 100000
set_option linter.unusedVariables false
set_option linter.unusedSimpArgs false
namespace Go.Proofs.YtkabcgmegljebaaGreatDoorW.PrintWords
open Go.RowKit
theorem xhQ (P : Program) (w : World) (a : Addr) (m : Mode) (k : FloatKind) (x : Nat) : (store a (.float k x) m).run P w = stored P w a (.float k x) m := run_store P w a _ m rfl
attribute [go_sem] xhQ
theorem xgN (P : Program) (w : World) (d : Nat) (t : TypeId) (k k' : FloatKind) (a b : Nat) (h : P.underlying t = some (.float k')) : (Op.equalIn (d + 1) t (.float k a) (.float k b)).run P w = .ok (Op.floatEq k a b) w := by
  simp [Op.equalIn, run_underlying h]
theorem run_neg_float (P : Program) (w : World) (k : FloatKind) (b : Nat) : (Op.unary .neg (.float k b)).run P w = .ok (.float k (Op.negFloat k b)) w := by rfl
attribute [go_sem] run_neg_float
theorem floatEq00 : Op.floatEq .f64 0 0 = true := by decide
attribute [go_sem] xgN floatEq00
namespace Kd
def float : Kd Nat := scalar (Value.float .f64) (fun _ => rfl)
end Kd
end Go.Proofs.YtkabcgmegljebaaGreatDoorW.PrintWords
namespace Go.Proofs.YtkabcgmegljebaaGreatDoor.Q
open Go.RowKit Go.Proofs.YtkabcgmegljebaaGreatDoorW.PrintWords Go.Proofs.YtkabcgmegljebaaGreatDoorW.PrintLast Go.Proofs.YtkabcgmegljebaaGreatDoorW.PrintMore
theorem bB {P : Prop} (h : P := by repeat (first | (with_reducible first | exact HB.out | apply xaC | apply xaJ | apply xaM | refine xbA ?_ (Aside0.out (by assumption))) | exact HB.out)) : P := h
theorem bA {P : Prop} (h : P := by repeat (first | (with_reducible first | exact HB.out | apply xaC | apply xaJ | apply xaM | refine xbA ?_ (by simp)) | exact HB.out)) : P := h
theorem bS {w W w2 : World} (hb : Below W.heap.size W w2) (h : Below w.heap.size w W := by repeat (first | (with_reducible first | exact HB.out | apply xaC | apply xaJ | apply xaM | refine xbA ?_ (Aside0.out (by assumption))) | exact HB.out)) : Aside0 (Below w.heap.size w w2) := ⟨xaV h hb⟩
theorem bG {w W : World} {g : Nat} (hg : g = W.heap.size) (h : Below w.heap.size w W := by repeat (first | (with_reducible first | exact HB.out | apply xaC | apply xaJ | apply xaM | refine xbA ?_ (Aside0.out (by assumption))) | exact HB.out)) : Aside0 (w.heap.size ≤ g) := ⟨hg ▸ xbG h⟩
theorem bk {P Q : Prop} (q : Aside0 Q) (h : Q → P := by intro q_; (with_reducible repeat (first | refine xaH ?_ _ | refine xaF ?_ | refine xaE ?_ _)); exact q_) : P := h q.out
theorem bK {w w1 w2 : World} {g : Nat} {o : Obj} (q : Aside0 (w.heap[g]? = some o)) (hb : Below w1.heap.size w1 w2) (h : w.heap[g]? = some o → w1.heap[g]? = some o := by intro q_; (with_reducible repeat (first | refine xaH ?_ _ | refine xaF ?_ | refine xaE ?_ _)); exact q_) : Aside0 (w2.heap[g]? = some o) := ⟨xaK (h q.out) hb⟩
theorem bR {P Q : Prop} (q : Aside0 Q) (h : Q → P := by intro q_; (with_reducible repeat (first | apply Kd.xbJ | apply Kd.xbK | apply Kd.R_drew)); exact q_) : P := h q.out
theorem sC {P Q : Prop} (q : Aside0 Q) (h : Q → P := by intro q_; repeat (first | exact (Kd.xbP q_ HB.out) | (with_reducible refine Kd.C_alloc ?_ _) | (with_reducible refine Kd.C_drewN ?_ _) | (with_reducible refine Kd.C_drew ?_))) : P := h q.out
theorem eS {P : Prop} (h : P := by first | rfl | (simp; done) | (simp [*]; done)) : P := h
theorem eW {P : Prop} (h : P := by first | rfl | (simp [xbD, xbC] <;> rfl) | (simp [*, xbD, xbC] <;> rfl)) : P := h
theorem eN {P : Prop} (h : P := by first | omega | exact Nat.le_refl _) : P := h
theorem eD {P : Prop} (h : P := by repeat (first | exact Drawn0.refl _ | apply Drawn0.step)) : P := h
theorem tA {P : Prop} (h : P := by first | (with_reducible assumption) | assumption) : P := h
theorem blk3 {w : World} {g : Nat} {t : TypeId} {a b c : Value} (h : Aside0 (w.heap[g]? = some (.cells #[a, b, c] t (0, 0)))) : w.cell? ⟨g, 0, none⟩ = some a ∧ w.cell? ⟨g, 1, none⟩ = some b ∧ w.cell? ⟨g, 2, none⟩ = some c ∧ w.frozen? ⟨g, 0, none⟩ = false ∧ w.frozen? ⟨g, 1, none⟩ = false ∧ w.frozen? ⟨g, 2, none⟩ = false := ⟨(xaA h.out 0).trans rfl, (xaA h.out 1).trans rfl, (xaA h.out 2).trans rfl, xaB h.out 0, xaB h.out 1, xaB h.out 2⟩
theorem blk2 {w : World} {g : Nat} {t : TypeId} {a b : Value} (h : Aside0 (w.heap[g]? = some (.cells #[a, b] t (0, 0)))) : w.cell? ⟨g, 0, none⟩ = some a ∧ w.cell? ⟨g, 1, none⟩ = some b ∧ w.frozen? ⟨g, 0, none⟩ = false ∧ w.frozen? ⟨g, 1, none⟩ = false := ⟨(xaA h.out 0).trans rfl, (xaA h.out 1).trans rfl, xaB h.out 0, xaB h.out 1⟩
theorem blk5 {w : World} {g : Nat} {t : TypeId} {a b c d e : Value} (h : Aside0 (w.heap[g]? = some (.cells #[a, b, c, d, e] t (0, 0)))) : w.cell? ⟨g, 0, none⟩ = some a ∧ w.cell? ⟨g, 1, none⟩ = some b ∧ w.cell? ⟨g, 2, none⟩ = some c ∧ w.cell? ⟨g, 3, none⟩ = some d ∧ w.cell? ⟨g, 4, none⟩ = some e ∧ w.frozen? ⟨g, 0, none⟩ = false ∧ w.frozen? ⟨g, 1, none⟩ = false ∧ w.frozen? ⟨g, 2, none⟩ = false ∧ w.frozen? ⟨g, 3, none⟩ = false ∧ w.frozen? ⟨g, 4, none⟩ = false := ⟨(xaA h.out 0).trans rfl, (xaA h.out 1).trans rfl, (xaA h.out 2).trans rfl, (xaA h.out 3).trans rfl, (xaA h.out 4).trans rfl, xaB h.out 0, xaB h.out 1, xaB h.out 2, xaB h.out 3, xaB h.out 4⟩
theorem blk9 {w : World} {g : Nat} {t : TypeId} {a b c d e f i j k : Value} (h : Aside0 (w.heap[g]? = some (.cells #[a, b, c, d, e, f, i, j, k] t (0, 0)))) : w.cell? ⟨g, 0, none⟩ = some a ∧ w.cell? ⟨g, 1, none⟩ = some b ∧ w.cell? ⟨g, 2, none⟩ = some c ∧ w.cell? ⟨g, 3, none⟩ = some d ∧ w.cell? ⟨g, 4, none⟩ = some e ∧ w.cell? ⟨g, 5, none⟩ = some f ∧ w.cell? ⟨g, 6, none⟩ = some i ∧ w.cell? ⟨g, 7, none⟩ = some j ∧ w.cell? ⟨g, 8, none⟩ = some k ∧ w.frozen? ⟨g, 0, none⟩ = false ∧ w.frozen? ⟨g, 1, none⟩ = false ∧ w.frozen? ⟨g, 2, none⟩ = false ∧ w.frozen? ⟨g, 3, none⟩ = false ∧ w.frozen? ⟨g, 4, none⟩ = false ∧ w.frozen? ⟨g, 5, none⟩ = false ∧ w.frozen? ⟨g, 6, none⟩ = false ∧ w.frozen? ⟨g, 7, none⟩ = false ∧ w.frozen? ⟨g, 8, none⟩ = false := ⟨(xaA h.out 0).trans rfl, (xaA h.out 1).trans rfl, (xaA h.out 2).trans rfl, (xaA h.out 3).trans rfl, (xaA h.out 4).trans rfl, (xaA h.out 5).trans rfl, (xaA h.out 6).trans rfl, (xaA h.out 7).trans rfl, (xaA h.out 8).trans rfl, xaB h.out 0, xaB h.out 1, xaB h.out 2, xaB h.out 3, xaB h.out 4, xaB h.out 5, xaB h.out 6, xaB h.out 7, xaB h.out 8⟩
theorem blk10 {w : World} {g : Nat} {t : TypeId} {a b c d e f i j k l : Value} (h : Aside0 (w.heap[g]? = some (.cells #[a, b, c, d, e, f, i, j, k, l] t (0, 0)))) : w.cell? ⟨g, 0, none⟩ = some a ∧ w.cell? ⟨g, 1, none⟩ = some b ∧ w.cell? ⟨g, 2, none⟩ = some c ∧ w.cell? ⟨g, 3, none⟩ = some d ∧ w.cell? ⟨g, 4, none⟩ = some e ∧ w.cell? ⟨g, 5, none⟩ = some f ∧ w.cell? ⟨g, 6, none⟩ = some i ∧ w.cell? ⟨g, 7, none⟩ = some j ∧ w.cell? ⟨g, 8, none⟩ = some k ∧ w.cell? ⟨g, 9, none⟩ = some l ∧ w.frozen? ⟨g, 0, none⟩ = false ∧ w.frozen? ⟨g, 1, none⟩ = false ∧ w.frozen? ⟨g, 2, none⟩ = false ∧ w.frozen? ⟨g, 3, none⟩ = false ∧ w.frozen? ⟨g, 4, none⟩ = false ∧ w.frozen? ⟨g, 5, none⟩ = false ∧ w.frozen? ⟨g, 6, none⟩ = false ∧ w.frozen? ⟨g, 7, none⟩ = false ∧ w.frozen? ⟨g, 8, none⟩ = false ∧ w.frozen? ⟨g, 9, none⟩ = false := ⟨(xaA h.out 0).trans rfl, (xaA h.out 1).trans rfl, (xaA h.out 2).trans rfl, (xaA h.out 3).trans rfl, (xaA h.out 4).trans rfl, (xaA h.out 5).trans rfl, (xaA h.out 6).trans rfl, (xaA h.out 7).trans rfl, (xaA h.out 8).trans rfl, (xaA h.out 9).trans rfl, xaB h.out 0, xaB h.out 1, xaB h.out 2, xaB h.out 3, xaB h.out 4, xaB h.out 5, xaB h.out 6, xaB h.out 7, xaB h.out 8, xaB h.out 9⟩
section
variable {P : Program} {ops : Array Oper} {rest : List Oper} {o : Oper} {a : Act} {Q : Exit → Act → World → Prop}
theorem gG (f : FuncId) {ar : Array Operand} {ts : Array TypeId} {w : World} (h : wpList P ops Q (o :: rest) a w) (ho : o.op = .call { callee := .value (.func f), args := ar, argTypes := ts } := by rfl) : wpList P ops Q (o :: rest) a w := h
theorem goA {w : World} (N : Option Tmp) {f : FuncId} {fn : Func} {ar : Array Operand} {ts : Array TypeId} (hf : P.funcs[f]? = some fn) (args : Array Value)
  (h : Calls P f args w fun e w' => ∃ v, e = .returned v ∧ wpList P ops Q rest (a.put N v) w')
  (hd : o.dst = N := by rfl) (hg : o.guard = none := by rfl) (hop : o.op = .call { callee := .value (.func f), args := ar, argTypes := ts } := by with_reducible rfl) (hname : (fn.name == "runtime.NumGoroutine") = false := by kernel_rfl) (hb : fn.body.isSome = true := by rfl)
  (hargs : ar.map a.eval = args := by (try simp only [List.map_toArray, List.map_cons, List.map_nil]); first | done | rfl | (simp only [List.length_drop, List.length_take]; rfl)) : wpList P ops Q (o :: rest) a w := goesL_ N hd hg hf hname hb args hop hargs h
end
end Go.Proofs.YtkabcgmegljebaaGreatDoor.Q
namespace Go.Proofs.YtkabcgmegljebaaGreatDoor.Q
open Go.RowKit Go.Proofs.YtkabcgmegljebaaGreatDoorW.PrintWords Go.Proofs.YtkabcgmegljebaaGreatDoorW.PrintLast Go.Proofs.YtkabcgmegljebaaGreatDoorW.PrintMore
attribute [local go_sem] xcP xcM xcY xcX xcF xcE xcN xcL
def errW : Option Int → Value
  | none => .nilIface
  | some c => .iface 0 (.int .i64 c)
theorem xbD : errW none = .nilIface := rfl
theorem xbC (c : Int) : errW (some c) = .iface 0 (.int .i64 c) := rfl
theorem info3 : (Tryz.prog.info? 3).map (fun i => (i.zero, i.size, i.bytes)) = some (some (.int .i64 0), 1, 8) := by kernel_rfl
theorem info79 : (Tryz.prog.info? 79).map (fun i => (i.zero, i.size, i.bytes)) = some (some (.agg #[(.int .i64 0), (.int .u64 0), (.int .i64 0)]), 3, 24) := by kernel_rfl
theorem info145 : (Tryz.prog.info? 145).map (fun i => (i.zero, i.size, i.bytes)) = some (some (.agg #[(.int .i64 0), (.int .i64 0), (.int .i64 0), (.int .i64 0), (.int .i64 0)]), 5, 40) := by kernel_rfl
-- the values' own types
structure S103 where
 f0 : Int
 f1 : Int
 f2 : Int
 f3 : Nat
 f4 : Nat
 f5 : Int
 f6 : Int
 f7 : Int
 f8 : Int
 f9 : Int
 f10 : Int
def z103 : S103 := ⟨(0 : Int), (0 : Int), (0 : Int), (0 : Nat), (0 : Nat), (0 : Int), (0 : Int), (0 : Int), (0 : Int), (0 : Int), (0 : Int)⟩
def k103 : Kd S103 := Kd.iso (Kd.pair (Kd.int .i64) (Kd.pair (Kd.int .i64) (Kd.pair (Kd.int .i64) (Kd.pair Kd.float (Kd.pair Kd.float (Kd.pair (Kd.int .i64) (Kd.pair (Kd.int .i64) (Kd.pair (Kd.int .i64) (Kd.pair (Kd.int .i64) (Kd.pair (Kd.int .i64) (Kd.int .i64))))))))))) (fun x : S103 => (x.f0, x.f1, x.f2, x.f3, x.f4, x.f5, x.f6, x.f7, x.f8, x.f9, x.f10))
theorem k103_open {w : World} {x : S103} {cs : List Value} (h : k103.K w x cs) : cs = [.int .i64 x.f0, .int .i64 x.f1, .int .i64 x.f2, .float .f64 x.f3, .float .f64 x.f4, .int .i64 x.f5, .int .i64 x.f6, .int .i64 x.f7, .int .i64 x.f8, .int .i64 x.f9, .int .i64 x.f10] := by
  obtain ⟨_, _, rfl, rfl, ⟨_, _, rfl, rfl, ⟨_, _, rfl, rfl, ⟨_, _, rfl, rfl, ⟨_, _, rfl, rfl, ⟨_, _, rfl, rfl, ⟨_, _, rfl, rfl, ⟨_, _, rfl, rfl, ⟨_, _, rfl, rfl, ⟨_, _, rfl, rfl, rfl⟩⟩⟩⟩⟩⟩⟩⟩⟩⟩ := h
  exact rfl
theorem xgV (w : World) (x : S103)  : k103.K w x [.int .i64 x.f0, .int .i64 x.f1, .int .i64 x.f2, .float .f64 x.f3, .float .f64 x.f4, .int .i64 x.f5, .int .i64 x.f6, .int .i64 x.f7, .int .i64 x.f8, .int .i64 x.f9, .int .i64 x.f10] := ⟨[.int .i64 x.f0], [.int .i64 x.f1, .int .i64 x.f2, .float .f64 x.f3, .float .f64 x.f4, .int .i64 x.f5, .int .i64 x.f6, .int .i64 x.f7, .int .i64 x.f8, .int .i64 x.f9, .int .i64 x.f10], rfl, rfl, ⟨[.int .i64 x.f1], [.int .i64 x.f2, .float .f64 x.f3, .float .f64 x.f4, .int .i64 x.f5, .int .i64 x.f6, .int .i64 x.f7, .int .i64 x.f8, .int .i64 x.f9, .int .i64 x.f10], rfl, rfl, ⟨[.int .i64 x.f2], [.float .f64 x.f3, .float .f64 x.f4, .int .i64 x.f5, .int .i64 x.f6, .int .i64 x.f7, .int .i64 x.f8, .int .i64 x.f9, .int .i64 x.f10], rfl, rfl, ⟨[.float .f64 x.f3], [.float .f64 x.f4, .int .i64 x.f5, .int .i64 x.f6, .int .i64 x.f7, .int .i64 x.f8, .int .i64 x.f9, .int .i64 x.f10], rfl, rfl, ⟨[.float .f64 x.f4], [.int .i64 x.f5, .int .i64 x.f6, .int .i64 x.f7, .int .i64 x.f8, .int .i64 x.f9, .int .i64 x.f10], rfl, rfl, ⟨[.int .i64 x.f5], [.int .i64 x.f6, .int .i64 x.f7, .int .i64 x.f8, .int .i64 x.f9, .int .i64 x.f10], rfl, rfl, ⟨[.int .i64 x.f6], [.int .i64 x.f7, .int .i64 x.f8, .int .i64 x.f9, .int .i64 x.f10], rfl, rfl, ⟨[.int .i64 x.f7], [.int .i64 x.f8, .int .i64 x.f9, .int .i64 x.f10], rfl, rfl, ⟨[.int .i64 x.f8], [.int .i64 x.f9, .int .i64 x.f10], rfl, rfl, ⟨[.int .i64 x.f9], [.int .i64 x.f10], rfl, rfl, rfl⟩⟩⟩⟩⟩⟩⟩⟩⟩⟩
def xdR (xs : List S103) (i : Int) : S103 := xs.getD i.toNat z103
theorem xfW {w : World} {A : Option Addr} {n : Nat} {xs : List S103} (h : Kd.C k103 w A n xs) (i : Int) (h0 : 0 ≤ i) (h1 : i < n) : ∃ ad , A = some ad ∧ w.cell? (ad.add (i.toNat * 11)) = some (.int .i64 (xdR xs i).f0) ∧ w.cell? ⟨(ad.add (i.toNat * 11)).block, (ad.add (i.toNat * 11)).off + 1, none⟩ = some (.int .i64 (xdR xs i).f1) ∧ w.cell? ⟨(ad.add (i.toNat * 11)).block, (ad.add (i.toNat * 11)).off + 2, none⟩ = some (.int .i64 (xdR xs i).f2) ∧ w.cell? ⟨(ad.add (i.toNat * 11)).block, (ad.add (i.toNat * 11)).off + 3, none⟩ = some (.float .f64 (xdR xs i).f3) ∧ w.cell? ⟨(ad.add (i.toNat * 11)).block, (ad.add (i.toNat * 11)).off + 4, none⟩ = some (.float .f64 (xdR xs i).f4) ∧ w.cell? ⟨(ad.add (i.toNat * 11)).block, (ad.add (i.toNat * 11)).off + 5, none⟩ = some (.int .i64 (xdR xs i).f5) ∧ w.cell? ⟨(ad.add (i.toNat * 11)).block, (ad.add (i.toNat * 11)).off + 6, none⟩ = some (.int .i64 (xdR xs i).f6) ∧ w.cell? ⟨(ad.add (i.toNat * 11)).block, (ad.add (i.toNat * 11)).off + 7, none⟩ = some (.int .i64 (xdR xs i).f7) ∧ w.cell? ⟨(ad.add (i.toNat * 11)).block, (ad.add (i.toNat * 11)).off + 8, none⟩ = some (.int .i64 (xdR xs i).f8) ∧ w.cell? ⟨(ad.add (i.toNat * 11)).block, (ad.add (i.toNat * 11)).off + 9, none⟩ = some (.int .i64 (xdR xs i).f9) ∧ w.cell? ⟨(ad.add (i.toNat * 11)).block, (ad.add (i.toNat * 11)).off + 10, none⟩ = some (.int .i64 (xdR xs i).f10) := by
 obtain ⟨ad, c, e, _, hK, hc0⟩ := Kd.C_get h z103 i h0 h1
 have hc : ∀ j u, c[j]? = some u → w.cell? (ad.add (i.toNat * 11 + j)) = some u := hc0
 obtain rfl := k103_open hK
 exact ⟨ad, e, hc 0 _ rfl, by rw [← xbT _ _ 1 (by omega)]; exact hc 1 _ rfl, by rw [← xbT _ _ 2 (by omega)]; exact hc 2 _ rfl, by rw [← xbT _ _ 3 (by omega)]; exact hc 3 _ rfl, by rw [← xbT _ _ 4 (by omega)]; exact hc 4 _ rfl, by rw [← xbT _ _ 5 (by omega)]; exact hc 5 _ rfl, by rw [← xbT _ _ 6 (by omega)]; exact hc 6 _ rfl, by rw [← xbT _ _ 7 (by omega)]; exact hc 7 _ rfl, by rw [← xbT _ _ 8 (by omega)]; exact hc 8 _ rfl, by rw [← xbT _ _ 9 (by omega)]; exact hc 9 _ rfl, by rw [← xbT _ _ 10 (by omega)]; exact hc 10 _ rfl⟩
structure S37 where
 f0 : Int
 f1 : Nat
 f2 : Nat
 f3 : Int
 f4 : Int
 f5 : Int
 f6 : Int
 f7 : Int
 f8 : Int
def z37 : S37 := ⟨(0 : Int), (0 : Nat), (0 : Nat), (0 : Int), (0 : Int), (0 : Int), (0 : Int), (0 : Int), (0 : Int)⟩
def k37 : Kd S37 := Kd.iso (Kd.pair (Kd.int .i64) (Kd.pair Kd.float (Kd.pair Kd.float (Kd.pair (Kd.int .i64) (Kd.pair (Kd.int .i64) (Kd.pair (Kd.int .i64) (Kd.pair (Kd.int .i64) (Kd.pair (Kd.int .i64) (Kd.int .i64))))))))) (fun x : S37 => (x.f0, x.f1, x.f2, x.f3, x.f4, x.f5, x.f6, x.f7, x.f8))
theorem k37_open {w : World} {x : S37} {cs : List Value} (h : k37.K w x cs) : cs = [.int .i64 x.f0, .float .f64 x.f1, .float .f64 x.f2, .int .i64 x.f3, .int .i64 x.f4, .int .i64 x.f5, .int .i64 x.f6, .int .i64 x.f7, .int .i64 x.f8] := by
  obtain ⟨_, _, rfl, rfl, ⟨_, _, rfl, rfl, ⟨_, _, rfl, rfl, ⟨_, _, rfl, rfl, ⟨_, _, rfl, rfl, ⟨_, _, rfl, rfl, ⟨_, _, rfl, rfl, ⟨_, _, rfl, rfl, rfl⟩⟩⟩⟩⟩⟩⟩⟩ := h
  exact rfl
theorem k37_mk (w : World) (x : S37)  : k37.K w x [.int .i64 x.f0, .float .f64 x.f1, .float .f64 x.f2, .int .i64 x.f3, .int .i64 x.f4, .int .i64 x.f5, .int .i64 x.f6, .int .i64 x.f7, .int .i64 x.f8] := ⟨[.int .i64 x.f0], [.float .f64 x.f1, .float .f64 x.f2, .int .i64 x.f3, .int .i64 x.f4, .int .i64 x.f5, .int .i64 x.f6, .int .i64 x.f7, .int .i64 x.f8], rfl, rfl, ⟨[.float .f64 x.f1], [.float .f64 x.f2, .int .i64 x.f3, .int .i64 x.f4, .int .i64 x.f5, .int .i64 x.f6, .int .i64 x.f7, .int .i64 x.f8], rfl, rfl, ⟨[.float .f64 x.f2], [.int .i64 x.f3, .int .i64 x.f4, .int .i64 x.f5, .int .i64 x.f6, .int .i64 x.f7, .int .i64 x.f8], rfl, rfl, ⟨[.int .i64 x.f3], [.int .i64 x.f4, .int .i64 x.f5, .int .i64 x.f6, .int .i64 x.f7, .int .i64 x.f8], rfl, rfl, ⟨[.int .i64 x.f4], [.int .i64 x.f5, .int .i64 x.f6, .int .i64 x.f7, .int .i64 x.f8], rfl, rfl, ⟨[.int .i64 x.f5], [.int .i64 x.f6, .int .i64 x.f7, .int .i64 x.f8], rfl, rfl, ⟨[.int .i64 x.f6], [.int .i64 x.f7, .int .i64 x.f8], rfl, rfl, ⟨[.int .i64 x.f7], [.int .i64 x.f8], rfl, rfl, rfl⟩⟩⟩⟩⟩⟩⟩⟩
def rd_T37 (xs : List S37) (i : Int) : S37 := xs.getD i.toNat z37
theorem at_T37 {w : World} {A : Option Addr} {n : Nat} {xs : List S37} (h : Kd.C k37 w A n xs) (i : Int) (h0 : 0 ≤ i) (h1 : i < n) : ∃ ad , A = some ad ∧ w.cell? (ad.add (i.toNat * 9)) = some (.int .i64 (rd_T37 xs i).f0) ∧ w.cell? ⟨(ad.add (i.toNat * 9)).block, (ad.add (i.toNat * 9)).off + 1, none⟩ = some (.float .f64 (rd_T37 xs i).f1) ∧ w.cell? ⟨(ad.add (i.toNat * 9)).block, (ad.add (i.toNat * 9)).off + 2, none⟩ = some (.float .f64 (rd_T37 xs i).f2) ∧ w.cell? ⟨(ad.add (i.toNat * 9)).block, (ad.add (i.toNat * 9)).off + 3, none⟩ = some (.int .i64 (rd_T37 xs i).f3) ∧ w.cell? ⟨(ad.add (i.toNat * 9)).block, (ad.add (i.toNat * 9)).off + 4, none⟩ = some (.int .i64 (rd_T37 xs i).f4) ∧ w.cell? ⟨(ad.add (i.toNat * 9)).block, (ad.add (i.toNat * 9)).off + 5, none⟩ = some (.int .i64 (rd_T37 xs i).f5) ∧ w.cell? ⟨(ad.add (i.toNat * 9)).block, (ad.add (i.toNat * 9)).off + 6, none⟩ = some (.int .i64 (rd_T37 xs i).f6) ∧ w.cell? ⟨(ad.add (i.toNat * 9)).block, (ad.add (i.toNat * 9)).off + 7, none⟩ = some (.int .i64 (rd_T37 xs i).f7) ∧ w.cell? ⟨(ad.add (i.toNat * 9)).block, (ad.add (i.toNat * 9)).off + 8, none⟩ = some (.int .i64 (rd_T37 xs i).f8) := by
 obtain ⟨ad, c, e, _, hK, hc0⟩ := Kd.C_get h z37 i h0 h1
 have hc : ∀ j u, c[j]? = some u → w.cell? (ad.add (i.toNat * 9 + j)) = some u := hc0
 obtain rfl := k37_open hK
 exact ⟨ad, e, hc 0 _ rfl, by rw [← xbT _ _ 1 (by omega)]; exact hc 1 _ rfl, by rw [← xbT _ _ 2 (by omega)]; exact hc 2 _ rfl, by rw [← xbT _ _ 3 (by omega)]; exact hc 3 _ rfl, by rw [← xbT _ _ 4 (by omega)]; exact hc 4 _ rfl, by rw [← xbT _ _ 5 (by omega)]; exact hc 5 _ rfl, by rw [← xbT _ _ 6 (by omega)]; exact hc 6 _ rfl, by rw [← xbT _ _ 7 (by omega)]; exact hc 7 _ rfl, by rw [← xbT _ _ 8 (by omega)]; exact hc 8 _ rfl⟩
structure S48 where
 f0 : Int
 f1 : Nat
 f2 : Int
def z48 : S48 := ⟨(0 : Int), (0 : Nat), (0 : Int)⟩
def k48 : Kd S48 := Kd.iso (Kd.pair (Kd.int .i64) (Kd.pair Kd.float (Kd.int .i64))) (fun x : S48 => (x.f0, x.f1, x.f2))
theorem k48_open {w : World} {x : S48} {cs : List Value} (h : k48.K w x cs) : cs = [.int .i64 x.f0, .float .f64 x.f1, .int .i64 x.f2] := by
  obtain ⟨_, _, rfl, rfl, ⟨_, _, rfl, rfl, rfl⟩⟩ := h
  exact rfl
theorem k48_mk (w : World) (x : S48)  : k48.K w x [.int .i64 x.f0, .float .f64 x.f1, .int .i64 x.f2] := ⟨[.int .i64 x.f0], [.float .f64 x.f1, .int .i64 x.f2], rfl, rfl, ⟨[.float .f64 x.f1], [.int .i64 x.f2], rfl, rfl, rfl⟩⟩
theorem xeZ (w : World) (base : Nat) (ok : Nat → Prop) (x : S48)  : k48.M w base ok x [.int .i64 x.f0, .float .f64 x.f1, .int .i64 x.f2] := ⟨[.int .i64 x.f0], [.float .f64 x.f1, .int .i64 x.f2], rfl, rfl, ⟨[.float .f64 x.f1], [.int .i64 x.f2], rfl, rfl, rfl⟩⟩
def rd_T48 (xs : List S48) (i : Int) : S48 := xs.getD i.toNat z48
theorem at_T48 {w : World} {A : Option Addr} {n : Nat} {xs : List S48} (h : Kd.C k48 w A n xs) (i : Int) (h0 : 0 ≤ i) (h1 : i < n) : ∃ ad , A = some ad ∧ w.cell? (ad.add (i.toNat * 3)) = some (.int .i64 (rd_T48 xs i).f0) ∧ w.cell? ⟨(ad.add (i.toNat * 3)).block, (ad.add (i.toNat * 3)).off + 1, none⟩ = some (.float .f64 (rd_T48 xs i).f1) ∧ w.cell? ⟨(ad.add (i.toNat * 3)).block, (ad.add (i.toNat * 3)).off + 2, none⟩ = some (.int .i64 (rd_T48 xs i).f2) := by
 obtain ⟨ad, c, e, _, hK, hc0⟩ := Kd.C_get h z48 i h0 h1
 have hc : ∀ j u, c[j]? = some u → w.cell? (ad.add (i.toNat * 3 + j)) = some u := hc0
 obtain rfl := k48_open hK
 exact ⟨ad, e, hc 0 _ rfl, by rw [← xbT _ _ 1 (by omega)]; exact hc 1 _ rfl, by rw [← xbT _ _ 2 (by omega)]; exact hc 2 _ rfl⟩
structure S77 where
 f0 : Int
 f1 : Int
 f2 : Int
 f3 : Int
 f4 : Int
 f5 : Int
 f6 : Int
 f7 : Int
 f8 : Int
structure S79 where
 f0 : Int
 f1 : Int
 f2 : Int
def z79 : S79 := ⟨(0 : Int), (0 : Int), (0 : Int)⟩
def k79 : Kd S79 := Kd.iso (Kd.pair (Kd.int .i64) (Kd.pair (Kd.int .u64) (Kd.int .i64))) (fun x : S79 => (x.f0, x.f1, x.f2))
theorem k79_open {w : World} {x : S79} {cs : List Value} (h : k79.K w x cs) : cs = [.int .i64 x.f0, .int .u64 x.f1, .int .i64 x.f2] := by
  obtain ⟨_, _, rfl, rfl, ⟨_, _, rfl, rfl, rfl⟩⟩ := h
  exact rfl
theorem k79_mk (w : World) (x : S79)  : k79.K w x [.int .i64 x.f0, .int .u64 x.f1, .int .i64 x.f2] := ⟨[.int .i64 x.f0], [.int .u64 x.f1, .int .i64 x.f2], rfl, rfl, ⟨[.int .u64 x.f1], [.int .i64 x.f2], rfl, rfl, rfl⟩⟩
theorem k79_mkM (w : World) (base : Nat) (ok : Nat → Prop) (x : S79)  : k79.M w base ok x [.int .i64 x.f0, .int .u64 x.f1, .int .i64 x.f2] := ⟨[.int .i64 x.f0], [.int .u64 x.f1, .int .i64 x.f2], rfl, rfl, ⟨[.int .u64 x.f1], [.int .i64 x.f2], rfl, rfl, rfl⟩⟩
def rd_T79 (xs : List S79) (i : Int) : S79 := xs.getD i.toNat z79
theorem at_T79 {w : World} {A : Option Addr} {n : Nat} {xs : List S79} (h : Kd.C k79 w A n xs) (i : Int) (h0 : 0 ≤ i) (h1 : i < n) : ∃ ad , A = some ad ∧ w.cell? (ad.add (i.toNat * 3)) = some (.int .i64 (rd_T79 xs i).f0) ∧ w.cell? ⟨(ad.add (i.toNat * 3)).block, (ad.add (i.toNat * 3)).off + 1, none⟩ = some (.int .u64 (rd_T79 xs i).f1) ∧ w.cell? ⟨(ad.add (i.toNat * 3)).block, (ad.add (i.toNat * 3)).off + 2, none⟩ = some (.int .i64 (rd_T79 xs i).f2) := by
 obtain ⟨ad, c, e, _, hK, hc0⟩ := Kd.C_get h z79 i h0 h1
 have hc : ∀ j u, c[j]? = some u → w.cell? (ad.add (i.toNat * 3 + j)) = some u := hc0
 obtain rfl := k79_open hK
 exact ⟨ad, e, hc 0 _ rfl, by rw [← xbT _ _ 1 (by omega)]; exact hc 1 _ rfl, by rw [← xbT _ _ 2 (by omega)]; exact hc 2 _ rfl⟩
structure S214 where
 f0 : Int
 f1 : Int
 f2 : Int
 f3 : Int
 f4 : Int
 f5 : Int
 f6 : Int
 f7 : Int
 f8 : Int
def k214 : Kd S214 := Kd.iso (Kd.pair (Kd.int .i64) (Kd.pair (Kd.int .i64) (Kd.pair (Kd.int .i64) (Kd.pair (Kd.int .i64) (Kd.pair (Kd.int .i64) (Kd.pair (Kd.int .i64) (Kd.pair (Kd.int .i64) (Kd.pair (Kd.int .i64) (Kd.int .i64))))))))) (fun x : S214 => (x.f0, x.f1, x.f2, x.f3, x.f4, x.f5, x.f6, x.f7, x.f8))
structure S115 where
  f0 : Int
  f1 : (List S214)
structure S145 where
 f0 : Int
 f1 : Int
 f2 : Int
 f3 : Int
 f4 : Int
def z145 : S145 := ⟨(0 : Int), (0 : Int), (0 : Int), (0 : Int), (0 : Int)⟩
def k145 : Kd S145 := Kd.iso (Kd.pair (Kd.int .i64) (Kd.pair (Kd.int .i64) (Kd.pair (Kd.int .i64) (Kd.pair (Kd.int .i64) (Kd.int .i64))))) (fun x : S145 => (x.f0, x.f1, x.f2, x.f3, x.f4))
theorem k145_open {w : World} {x : S145} {cs : List Value} (h : k145.K w x cs) : cs = [.int .i64 x.f0, .int .i64 x.f1, .int .i64 x.f2, .int .i64 x.f3, .int .i64 x.f4] := by
  obtain ⟨_, _, rfl, rfl, ⟨_, _, rfl, rfl, ⟨_, _, rfl, rfl, ⟨_, _, rfl, rfl, rfl⟩⟩⟩⟩ := h
  exact rfl
theorem k145_mk (w : World) (x : S145)  : k145.K w x [.int .i64 x.f0, .int .i64 x.f1, .int .i64 x.f2, .int .i64 x.f3, .int .i64 x.f4] := ⟨[.int .i64 x.f0], [.int .i64 x.f1, .int .i64 x.f2, .int .i64 x.f3, .int .i64 x.f4], rfl, rfl, ⟨[.int .i64 x.f1], [.int .i64 x.f2, .int .i64 x.f3, .int .i64 x.f4], rfl, rfl, ⟨[.int .i64 x.f2], [.int .i64 x.f3, .int .i64 x.f4], rfl, rfl, ⟨[.int .i64 x.f3], [.int .i64 x.f4], rfl, rfl, rfl⟩⟩⟩⟩
theorem k145_mkM (w : World) (base : Nat) (ok : Nat → Prop) (x : S145)  : k145.M w base ok x [.int .i64 x.f0, .int .i64 x.f1, .int .i64 x.f2, .int .i64 x.f3, .int .i64 x.f4] := ⟨[.int .i64 x.f0], [.int .i64 x.f1, .int .i64 x.f2, .int .i64 x.f3, .int .i64 x.f4], rfl, rfl, ⟨[.int .i64 x.f1], [.int .i64 x.f2, .int .i64 x.f3, .int .i64 x.f4], rfl, rfl, ⟨[.int .i64 x.f2], [.int .i64 x.f3, .int .i64 x.f4], rfl, rfl, ⟨[.int .i64 x.f3], [.int .i64 x.f4], rfl, rfl, rfl⟩⟩⟩⟩
def xfU (xs : List S145) (i : Int) : S145 := xs.getD i.toNat z145
theorem at_T145 {w : World} {A : Option Addr} {n : Nat} {xs : List S145} (h : Kd.C k145 w A n xs) (i : Int) (h0 : 0 ≤ i) (h1 : i < n) : ∃ ad , A = some ad ∧ w.cell? (ad.add (i.toNat * 5)) = some (.int .i64 (xfU xs i).f0) ∧ w.cell? ⟨(ad.add (i.toNat * 5)).block, (ad.add (i.toNat * 5)).off + 1, none⟩ = some (.int .i64 (xfU xs i).f1) ∧ w.cell? ⟨(ad.add (i.toNat * 5)).block, (ad.add (i.toNat * 5)).off + 2, none⟩ = some (.int .i64 (xfU xs i).f2) ∧ w.cell? ⟨(ad.add (i.toNat * 5)).block, (ad.add (i.toNat * 5)).off + 3, none⟩ = some (.int .i64 (xfU xs i).f3) ∧ w.cell? ⟨(ad.add (i.toNat * 5)).block, (ad.add (i.toNat * 5)).off + 4, none⟩ = some (.int .i64 (xfU xs i).f4) := by
 obtain ⟨ad, c, e, _, hK, hc0⟩ := Kd.C_get h z145 i h0 h1
 have hc : ∀ j u, c[j]? = some u → w.cell? (ad.add (i.toNat * 5 + j)) = some u := hc0
 obtain rfl := k145_open hK
 exact ⟨ad, e, hc 0 _ rfl, by rw [← xbT _ _ 1 (by omega)]; exact hc 1 _ rfl, by rw [← xbT _ _ 2 (by omega)]; exact hc 2 _ rfl, by rw [← xbT _ _ 3 (by omega)]; exact hc 3 _ rfl, by rw [← xbT _ _ 4 (by omega)]; exact hc 4 _ rfl⟩
end Go.Proofs.YtkabcgmegljebaaGreatDoor.Q
namespace Go.Proofs.YtkabcgmegljebaaGreatDoor.H
open Go.RowKit Go.Proofs.YtkabcgmegljebaaGreatDoorW.PrintWords Go.Proofs.YtkabcgmegljebaaGreatDoorW.PrintLast Go.Proofs.YtkabcgmegljebaaGreatDoorW.PrintMore
theorem fbits (x : Nat) (w : World) : (callFunc 49 #[.float .f64 x]).run Tryz.prog w = .ok (.value (.int .u64 x)) w := by
  rw [run_callFunc_extern Tryz.func49 (by kernel_rfl) (by kernel_rfl) (by kernel_rfl) (e := Extern.MathFloatBits.float64bits) (by kernel_rfl)]; rfl
theorem bits_calls (x : Nat) (w : World) : Calls Tryz.prog 29 #[.float .f64 x] w fun e w' => e = .returned (.int .u64 x) ∧ Drawn0 w w' := by
 have hb := fbits x
 go_enter Tryz.func29, Tryz.ntmps29
 go_wp2
 go_ret
 exact ⟨rfl, Drawn0.refl _⟩
theorem eqT (d : Nat) (w : World) (x0 y0 x1 y1 x2 y2 x5 y5 x6 y6 x7 y7 x8 y8 x9 y9 x10 y10 : Int) (x3 y3 x4 y4 : Nat) :
  (Op.equalIn (d + 2) 103 (.agg #[.int .i64 x0, .int .i64 x1, .int .i64 x2, .float .f64 x3, .float .f64 x4, .int .i64 x5, .int .i64 x6, .int .i64 x7, .int .i64 x8, .int .i64 x9, .int .i64 x10]) (.agg #[.int .i64 y0, .int .i64 y1, .int .i64 y2, .float .f64 y3, .float .f64 y4, .int .i64 y5, .int .i64 y6, .int .i64 y7, .int .i64 y8, .int .i64 y9, .int .i64 y10])).run Tryz.prog w = .ok (x0 == y0 && (x1 == y1 && (x2 == y2 && (Op.floatEq .f64 x3 y3 && (Op.floatEq .f64 x4 y4 && (x5 == y5 && (x6 == y6 && (x7 == y7 && (x8 == y8 && (x9 == y9 && (x10 == y10))))))))))) w := by
 refine eqA_of Tryz.underlying103 (by kernel_rfl) ?_
 refine xcS (by rfl) (by go_simp; rfl) (by go_simp; rfl) (by go_simp) ?_
 refine xcS (by rfl) (by go_simp; rfl) (by go_simp; rfl) (by go_simp) ?_
 refine xcS (by rfl) (by go_simp; rfl) (by go_simp; rfl) (by go_simp) ?_
 refine xcS (by rfl) (by go_simp; rfl) (by go_simp; rfl) (by go_simp) ?_
 refine xcS (by rfl) (by go_simp; rfl) (by go_simp; rfl) (by go_simp) ?_
 refine xcS (by rfl) (by go_simp; rfl) (by go_simp; rfl) (by go_simp) ?_
 refine xcS (by rfl) (by go_simp; rfl) (by go_simp; rfl) (by go_simp) ?_
 refine xcS (by rfl) (by go_simp; rfl) (by go_simp; rfl) (by go_simp) ?_
 refine xcS (by rfl) (by go_simp; rfl) (by go_simp; rfl) (by go_simp) ?_
 refine xcS (by rfl) (by go_simp; rfl) (by go_simp; rfl) (by go_simp) ?_
 exact eqf_last (by rfl) (by go_simp; rfl) (by go_simp; rfl) (by go_simp)
theorem eqO (d : Nat) (w : World) (x0 y0 x3 y3 x4 y4 x5 y5 x6 y6 x7 y7 x8 y8 : Int) (x1 y1 x2 y2 : Nat) :
  (Op.equalIn (d + 2) 37 (.agg #[.int .i64 x0, .float .f64 x1, .float .f64 x2, .int .i64 x3, .int .i64 x4, .int .i64 x5, .int .i64 x6, .int .i64 x7, .int .i64 x8]) (.agg #[.int .i64 y0, .float .f64 y1, .float .f64 y2, .int .i64 y3, .int .i64 y4, .int .i64 y5, .int .i64 y6, .int .i64 y7, .int .i64 y8])).run Tryz.prog w = .ok (x0 == y0 && (Op.floatEq .f64 x1 y1 && (Op.floatEq .f64 x2 y2 && (x3 == y3 && (x4 == y4 && (x5 == y5 && (x6 == y6 && (x7 == y7 && (x8 == y8))))))))) w := by
 refine eqA_of Tryz.underlying37 (by kernel_rfl) ?_
 refine xcS (by rfl) (by go_simp; rfl) (by go_simp; rfl) (by go_simp) ?_
 refine xcS (by rfl) (by go_simp; rfl) (by go_simp; rfl) (by go_simp) ?_
 refine xcS (by rfl) (by go_simp; rfl) (by go_simp; rfl) (by go_simp) ?_
 refine xcS (by rfl) (by go_simp; rfl) (by go_simp; rfl) (by go_simp) ?_
 refine xcS (by rfl) (by go_simp; rfl) (by go_simp; rfl) (by go_simp) ?_
 refine xcS (by rfl) (by go_simp; rfl) (by go_simp; rfl) (by go_simp) ?_
 refine xcS (by rfl) (by go_simp; rfl) (by go_simp; rfl) (by go_simp) ?_
 refine xcS (by rfl) (by go_simp; rfl) (by go_simp; rfl) (by go_simp) ?_
 exact eqf_last (by rfl) (by go_simp; rfl) (by go_simp; rfl) (by go_simp)
theorem xeB (x : Nat) (w : World) : Calls Tryz.prog 29 #[.float .f64 x] w fun e w' => e = .returned (.int .u64 x) ∧ w' = w := by
 have hb := fbits x
 go_enter Tryz.func29, Tryz.ntmps29
 go_wp2
 go_ret
 exact ⟨rfl, rfl⟩
end Go.Proofs.YtkabcgmegljebaaGreatDoor.H
namespace Go.Proofs.YtkabcgmegljebaaGreatDoor.H
open Go.RowKit Go.Proofs.YtkabcgmegljebaaGreatDoorW.PrintWords Go.Proofs.YtkabcgmegljebaaGreatDoorW.PrintLast Go.Proofs.YtkabcgmegljebaaGreatDoorW.PrintMore
open Go.Proofs.YtkabcgmegljebaaGreatDoor.Q
def sameB (a0 a1 a2 : Int) (a3 a4 : Nat) (a5 a6 a7 a8 a9 a10 b0 b1 b2 : Int) (b3 b4 : Nat) (b5 b6 b7 b8 b9 b10 : Int) : Bool :=
  decide (a3 = b3 ∧ a4 = b4 ∧ a0 = b0 ∧ a1 = b1 ∧ a2 = b2 ∧ a5 = b5 ∧ a6 = b6 ∧ a7 = b7 ∧ a8 = b8 ∧ a9 = b9 ∧ a10 = b10)
theorem xbS (a0 a1 a2 : Int) (a3 a4 : Nat) (a5 a6 a7 a8 a9 a10 b0 b1 b2 : Int) (b3 b4 : Nat) (b5 b6 b7 b8 b9 b10 : Int) (w : World) :
  Calls Tryz.prog 95 #[.agg #[.int .i64 a0, .int .i64 a1, .int .i64 a2, .float .f64 a3, .float .f64 a4, .int .i64 a5, .int .i64 a6, .int .i64 a7, .int .i64 a8, .int .i64 a9, .int .i64 a10], .agg #[.int .i64 b0, .int .i64 b1, .int .i64 b2, .float .f64 b3, .float .f64 b4, .int .i64 b5, .int .i64 b6, .int .i64 b7, .int .i64 b8, .int .i64 b9, .int .i64 b10]] w
   fun e w' => e = .returned (.bool (sameB a0 a1 a2 a3 a4 a5 a6 a7 a8 a9 a10 b0 b1 b2 b3 b4 b5 b6 b7 b8 b9 b10)) ∧ Below w.heap.size w w' := by
 have HB := Aside0.mk (Below.refl w.heap.size w)
 have hu103 := Tryz.underlying103
 have heq := fun d w => eqT d w a0 b0 a1 b1 a2 b2 a5 b5 a6 b6 a7 b7 a8 b8 a9 b9 a10 b10 0 0 0 0
 by_cases h3 : a3 = b3
 ·
  by_cases h4 : a4 = b4
  ·
   subst h3 h4
   go_enter Tryz.func95, Tryz.ntmps95
   go_wp2
   go_quiet ((go_at_call 29; exact Calls.quiet_of_same (xeB _ _)))
   go_wp2
   go_ret
   exact ⟨congrArg (fun b => Ending.returned (.bool b)) (by unfold sameB; rw [Bool.eq_iff_iff]; simp), bA⟩
  ·
   have h4' : ((a4 : Int) == (b4 : Int)) = false := by rw [beq_eq_false_iff_ne]; omega
   subst h3
   go_enter Tryz.func95, Tryz.ntmps95
   go_wp2
   go_quiet ((go_at_call 29; exact Calls.quiet_of_same (xeB _ _)))
   go_wp2
   go_ret
   exact ⟨congrArg (fun b => Ending.returned (.bool b)) (by unfold sameB; simp [h4]), bA⟩
 ·
  have h3' : ((a3 : Int) == (b3 : Int)) = false := by rw [beq_eq_false_iff_ne]; omega
  go_enter Tryz.func95, Tryz.ntmps95
  go_wp2
  go_quiet ((go_at_call 29; exact Calls.quiet_of_same (xeB _ _)))
  go_wp2
  go_ret
  exact ⟨congrArg (fun b => Ending.returned (.bool b)) (by unfold sameB; simp [h3]), bA⟩
end Go.Proofs.YtkabcgmegljebaaGreatDoor.H
namespace Go.Proofs.YtkabcgmegljebaaGreatDoor.Q
open Go.RowKit Go.Proofs.YtkabcgmegljebaaGreatDoorW.PrintWords Go.Proofs.YtkabcgmegljebaaGreatDoorW.PrintLast Go.Proofs.YtkabcgmegljebaaGreatDoorW.PrintMore
attribute [local go_sem] xcP xcM xcY xcX xcF xcE xcN xcL
def xeA.f (a0 : Nat) : Option (Int) := some (a0 : Int)
theorem xeA.calls (a0 : Nat) (r : Int) (w : World) (h : xeA.f a0 = some r) :
  Calls Tryz.prog 29 #[.float .f64 a0] w fun e w' => e = .returned (.int .u64 r) ∧ Drawn0 w w' := by
 obtain rfl := Option.some.inj h
 exact Go.Proofs.YtkabcgmegljebaaGreatDoor.H.bits_calls a0 w
def xiF.f (a0_0 a0_1 a0_2 : Int) (a0_3 a0_4 : Nat) (a0_5 a0_6 a0_7 a0_8 a0_9 a0_10 : Int) : Option (Int × Int × Int × Nat × Nat × Int × Int × Int × Int × Int × Int) := some (a0_0, a0_1, a0_2, 0, 0, 0, 0, 0, 0, 0, 0)
theorem xiF.calls (a0_0 a0_1 a0_2 : Int) (a0_3 a0_4 : Nat) (a0_5 a0_6 a0_7 a0_8 a0_9 a0_10 r1 r2 r3 : Int) (r4 r5 : Nat) (r6 r7 r8 r9 r10 r11 : Int) (w : World) (h : xiF.f a0_0 a0_1 a0_2 a0_3 a0_4 a0_5 a0_6 a0_7 a0_8 a0_9 a0_10 = some (r1, r2, r3, r4, r5, r6, r7, r8, r9, r10, r11)) :
  Calls Tryz.prog 91 #[.agg #[.int .i64 a0_0, .int .i64 a0_1, .int .i64 a0_2, .float .f64 a0_3, .float .f64 a0_4, .int .i64 a0_5, .int .i64 a0_6, .int .i64 a0_7, .int .i64 a0_8, .int .i64 a0_9, .int .i64 a0_10]] w fun e w' => e = .returned (.agg #[.int .i64 r1, .int .i64 r2, .int .i64 r3, .float .f64 r4, .float .f64 r5, .int .i64 r6, .int .i64 r7, .int .i64 r8, .int .i64 r9, .int .i64 r10, .int .i64 r11]) ∧ Below w.heap.size w w' := by
 have hu103 := Tryz.underlying103
 have HB := Aside0.mk (Below.refl w.heap.size w)
 have H : (some (a0_0, a0_1, a0_2, 0, 0, 0, 0, 0, 0, 0, 0)) = some (r1, r2, r3, r4, r5, r6, r7, r8, r9, r10, r11) := h
 clear h
 simp only [Option.some.injEq, Prod.mk.injEq] at H
 obtain ⟨rfl, rfl, rfl, rfl, rfl, rfl, rfl, rfl, rfl, rfl, rfl⟩ := H
 go_enter Tryz.func91, Tryz.ntmps91
 go_wp2_with (first | ((with_reducible refine xaU (N := 1) rfl ?_); refine xaT ?hg (N := 1) ?hd (cs := #[.int .i64 a0_0, .int .i64 a0_1, .int .i64 a0_2, .float .f64 a0_3, .float .f64 a0_4, .int .i64 a0_5, .int .i64 a0_6, .int .i64 a0_7, .int .i64 a0_8, .int .i64 a0_9, .int .i64 a0_10]) (t := 103) ?hr ?_; (case hd => rfl); (case hg => rfl); (case hr => first | (go_simp; done) | (go_simp; rfl)); intro gb101 hg w2 hbox hb; have BK101 := Aside0.mk (hbox); have GW101 := bG hg; have GE101 := bG hg; replace HB := bS hb; clear hb hbox hg) | ((with_reducible refine xaU (N := 2) rfl ?_); refine xaT ?hg (N := 2) ?hd (cs := #[.int .i64 0, .int .i64 0, .int .i64 0, .float .f64 0, .float .f64 0, .int .i64 0, .int .i64 0, .int .i64 0, .int .i64 0, .int .i64 0, .int .i64 0]) (t := 103) ?hr ?_; (case hd => rfl); (case hg => rfl); (case hr => first | (go_simp; done) | (go_simp; rfl)); intro gb102 hg w3 hbox hb; have BK102 := Aside0.mk (hbox); have GW102 := bG hg; have GE102 := bG hg; replace HB := bS hb; have NB101_102 := Aside0.mk ((by rw [hg]; exact Nat.ne_of_lt (blk_lt (g := gb101) (o := .cells #[.int .i64 a0_0, .int .i64 a0_1, .int .i64 a0_2, .float .f64 a0_3, .float .f64 a0_4, .int .i64 a0_5, .int .i64 a0_6, .int .i64 a0_7, .int .i64 a0_8, .int .i64 a0_9, .int .i64 a0_10] 103 (0, 0)) (bk BK101)) : gb101 ≠ gb102)); have NB102_101 := Aside0.mk ((by rw [hg]; exact Nat.ne_of_gt (blk_lt (g := gb101) (o := .cells #[.int .i64 a0_0, .int .i64 a0_1, .int .i64 a0_2, .float .f64 a0_3, .float .f64 a0_4, .int .i64 a0_5, .int .i64 a0_6, .int .i64 a0_7, .int .i64 a0_8, .int .i64 a0_9, .int .i64 a0_10] 103 (0, 0)) (bk BK101)) : gb102 ≠ gb101)); replace BK101 := bK BK101 hb; clear hb hbox hg; have hnb4 := NB101_102.out; have hnc4 := NB102_101.out; have hcz5_0 : w3.cell? ⟨gb101, 0, none⟩ = some (.int .i64 a0_0) := (xaA BK101.out 0).trans rfl; have hcz5_1 : w3.cell? ⟨gb101, 1, none⟩ = some (.int .i64 a0_1) := (xaA BK101.out 1).trans rfl; have hcz5_2 : w3.cell? ⟨gb101, 2, none⟩ = some (.int .i64 a0_2) := (xaA BK101.out 2).trans rfl; have hcz5_3 : w3.cell? ⟨gb101, 3, none⟩ = some (.float .f64 a0_3) := (xaA BK101.out 3).trans rfl; have hcz5_4 : w3.cell? ⟨gb101, 4, none⟩ = some (.float .f64 a0_4) := (xaA BK101.out 4).trans rfl; have hcz5_5 : w3.cell? ⟨gb101, 5, none⟩ = some (.int .i64 a0_5) := (xaA BK101.out 5).trans rfl; have hcz5_6 : w3.cell? ⟨gb101, 6, none⟩ = some (.int .i64 a0_6) := (xaA BK101.out 6).trans rfl; have hcz5_7 : w3.cell? ⟨gb101, 7, none⟩ = some (.int .i64 a0_7) := (xaA BK101.out 7).trans rfl; have hcz5_8 : w3.cell? ⟨gb101, 8, none⟩ = some (.int .i64 a0_8) := (xaA BK101.out 8).trans rfl; have hcz5_9 : w3.cell? ⟨gb101, 9, none⟩ = some (.int .i64 a0_9) := (xaA BK101.out 9).trans rfl; have hcz5_10 : w3.cell? ⟨gb101, 10, none⟩ = some (.int .i64 a0_10) := (xaA BK101.out 10).trans rfl; have hfz5_0 := xaB BK101.out 0; have hfz5_1 := xaB BK101.out 1; have hfz5_2 := xaB BK101.out 2; have hfz5_3 := xaB BK101.out 3; have hfz5_4 := xaB BK101.out 4; have hfz5_5 := xaB BK101.out 5; have hfz5_6 := xaB BK101.out 6; have hfz5_7 := xaB BK101.out 7; have hfz5_8 := xaB BK101.out 8; have hfz5_9 := xaB BK101.out 9; have hfz5_10 := xaB BK101.out 10; have hcz6_0 : w3.cell? ⟨gb102, 0, none⟩ = some (.int .i64 0) := (xaA BK102.out 0).trans rfl; have hcz6_1 : w3.cell? ⟨gb102, 1, none⟩ = some (.int .i64 0) := (xaA BK102.out 1).trans rfl; have hcz6_2 : w3.cell? ⟨gb102, 2, none⟩ = some (.int .i64 0) := (xaA BK102.out 2).trans rfl; have hcz6_3 : w3.cell? ⟨gb102, 3, none⟩ = some (.float .f64 0) := (xaA BK102.out 3).trans rfl; have hcz6_4 : w3.cell? ⟨gb102, 4, none⟩ = some (.float .f64 0) := (xaA BK102.out 4).trans rfl; have hcz6_5 : w3.cell? ⟨gb102, 5, none⟩ = some (.int .i64 0) := (xaA BK102.out 5).trans rfl; have hcz6_6 : w3.cell? ⟨gb102, 6, none⟩ = some (.int .i64 0) := (xaA BK102.out 6).trans rfl; have hcz6_7 : w3.cell? ⟨gb102, 7, none⟩ = some (.int .i64 0) := (xaA BK102.out 7).trans rfl; have hcz6_8 : w3.cell? ⟨gb102, 8, none⟩ = some (.int .i64 0) := (xaA BK102.out 8).trans rfl; have hcz6_9 : w3.cell? ⟨gb102, 9, none⟩ = some (.int .i64 0) := (xaA BK102.out 9).trans rfl; have hcz6_10 : w3.cell? ⟨gb102, 10, none⟩ = some (.int .i64 0) := (xaA BK102.out 10).trans rfl; have hfz6_0 := xaB BK102.out 0; have hfz6_1 := xaB BK102.out 1; have hfz6_2 := xaB BK102.out 2; have hfz6_3 := xaB BK102.out 3; have hfz6_4 := xaB BK102.out 4; have hfz6_5 := xaB BK102.out 5; have hfz6_6 := xaB BK102.out 6; have hfz6_7 := xaB BK102.out 7; have hfz6_8 := xaB BK102.out 8; have hfz6_9 := xaB BK102.out 9; have hfz6_10 := xaB BK102.out 10))
 refine bodyPost_ret (results_cell_row rfl _ _ gb102 103 #[.int .i64 a0_0, .int .i64 a0_1, .int .i64 a0_2, .float .f64 0, .float .f64 0, .int .i64 0, .int .i64 0, .int .i64 0, .int .i64 0, .int .i64 0, .int .i64 0] (0, 0) _ rfl (by (with_reducible repeat (first | refine xaH ?_ _ | refine xaF ?_ | refine xaE ?_ _)); refine xaS (cs := #[.int .i64 a0_0, .int .i64 a0_1, .int .i64 a0_2, .float .f64 0, .float .f64 0, .int .i64 0, .int .i64 0, .int .i64 0, .int .i64 0, .int .i64 0, .int .i64 0]) ?_ 10 _ rfl; (with_reducible repeat (first | refine xaH ?_ _ | refine xaF ?_ | refine xaE ?_ _)); refine xaS (cs := #[.int .i64 a0_0, .int .i64 a0_1, .int .i64 a0_2, .float .f64 0, .float .f64 0, .int .i64 0, .int .i64 0, .int .i64 0, .int .i64 0, .int .i64 0, .int .i64 0]) ?_ 9 _ rfl; (with_reducible repeat (first | refine xaH ?_ _ | refine xaF ?_ | refine xaE ?_ _)); refine xaS (cs := #[.int .i64 a0_0, .int .i64 a0_1, .int .i64 a0_2, .float .f64 0, .float .f64 0, .int .i64 0, .int .i64 0, .int .i64 0, .int .i64 0, .int .i64 0, .int .i64 0]) ?_ 8 _ rfl; (with_reducible repeat (first | refine xaH ?_ _ | refine xaF ?_ | refine xaE ?_ _)); refine xaS (cs := #[.int .i64 a0_0, .int .i64 a0_1, .int .i64 a0_2, .float .f64 0, .float .f64 0, .int .i64 0, .int .i64 0, .int .i64 0, .int .i64 0, .int .i64 0, .int .i64 0]) ?_ 7 _ rfl; (with_reducible repeat (first | refine xaH ?_ _ | refine xaF ?_ | refine xaE ?_ _)); refine xaS (cs := #[.int .i64 a0_0, .int .i64 a0_1, .int .i64 a0_2, .float .f64 0, .float .f64 0, .int .i64 0, .int .i64 0, .int .i64 0, .int .i64 0, .int .i64 0, .int .i64 0]) ?_ 6 _ rfl; (with_reducible repeat (first | refine xaH ?_ _ | refine xaF ?_ | refine xaE ?_ _)); refine xaS (cs := #[.int .i64 a0_0, .int .i64 a0_1, .int .i64 a0_2, .float .f64 0, .float .f64 0, .int .i64 0, .int .i64 0, .int .i64 0, .int .i64 0, .int .i64 0, .int .i64 0]) ?_ 5 _ rfl; (with_reducible repeat (first | refine xaH ?_ _ | refine xaF ?_ | refine xaE ?_ _)); refine xaS (cs := #[.int .i64 a0_0, .int .i64 a0_1, .int .i64 a0_2, .float .f64 0, .float .f64 0, .int .i64 0, .int .i64 0, .int .i64 0, .int .i64 0, .int .i64 0, .int .i64 0]) ?_ 4 _ rfl; (with_reducible repeat (first | refine xaH ?_ _ | refine xaF ?_ | refine xaE ?_ _)); refine xaS (cs := #[.int .i64 a0_0, .int .i64 a0_1, .int .i64 a0_2, .float .f64 0, .float .f64 0, .int .i64 0, .int .i64 0, .int .i64 0, .int .i64 0, .int .i64 0, .int .i64 0]) ?_ 3 _ rfl; (with_reducible repeat (first | refine xaH ?_ _ | refine xaF ?_ | refine xaE ?_ _)); refine xaS (cs := #[.int .i64 a0_0, .int .i64 a0_1, .int .i64 0, .float .f64 0, .float .f64 0, .int .i64 0, .int .i64 0, .int .i64 0, .int .i64 0, .int .i64 0, .int .i64 0]) ?_ 2 _ rfl; (with_reducible repeat (first | refine xaH ?_ _ | refine xaF ?_ | refine xaE ?_ _)); refine xaS (cs := #[.int .i64 a0_0, .int .i64 0, .int .i64 0, .float .f64 0, .float .f64 0, .int .i64 0, .int .i64 0, .int .i64 0, .int .i64 0, .int .i64 0, .int .i64 0]) ?_ 1 _ rfl; (with_reducible repeat (first | refine xaH ?_ _ | refine xaF ?_ | refine xaE ?_ _)); refine xaS (cs := #[.int .i64 0, .int .i64 0, .int .i64 0, .float .f64 0, .float .f64 0, .int .i64 0, .int .i64 0, .int .i64 0, .int .i64 0, .int .i64 0, .int .i64 0]) ?_ 0 _ rfl; (with_reducible repeat (first | refine xaH ?_ _ | refine xaF ?_ | refine xaE ?_ _)); exact BK102.out) Tryz.underlying103 rfl (by kernel_rfl)) rfl ?_
 exact ⟨eW, bB⟩
def xdK.f (a0 : Nat) : Option (Int) := (xeA.f a0).bind fun t103 => (some (Go.bits .andNot .u64 t103 9223372036854775808))
theorem xdK.calls (a0 : Nat) (r : Int) (w : World) (h : xdK.f a0 = some r) :
  Calls Tryz.prog 140 #[.float .f64 a0] w fun e w' => e = .returned (.int .u64 r) ∧ Drawn0 w w' := by
 have H : ((xeA.f a0).bind fun t103 => (some (Go.bits .andNot .u64 t103 9223372036854775808))) = some r := h
 clear h;replace H := Option.bind_eq_some_iff.mp H
 obtain ⟨t103, A20, H⟩ := H
 replace H : (some (Go.bits .andNot .u64 t103 9223372036854775808)) = some r := H
 have A2 := Aside0.mk A20;clear A20
 obtain rfl := Option.some.inj H
 go_enter Tryz.func140, Tryz.ntmps140
 go_wp2_with (first | ((with_reducible refine gG 29 ?_); refine goA (some 4) Tryz.func29 #[.float .f64 a0] ?_; (with_reducible refine (xeA.calls a0 t103 _ A2.out).mono ?_); rintro e w' ⟨rfl, ⟨nd, rfl⟩⟩; refine ⟨_, rfl, ?_⟩))
 go_ret
 exact ⟨eS, eD⟩
def xdW.f (a0 : Nat) : Option (Int) := (xdK.f a0).bind fun t104 => (if t104 = 0 then (some 1) else (if t104 < 4503599627370496 then (some 2) else (if t104 < 9218868437227405312 then (some 3) else (if t104 = 9218868437227405312 then (some 4) else (some 5)))))
theorem xdW.calls (a0 : Nat) (r : Int) (w : World) (h : xdW.f a0 = some r) :
  Calls Tryz.prog 117 #[.float .f64 a0] w fun e w' => e = .returned (.int .i64 r) ∧ Drawn0 w w' := by
 have H : ((xdK.f a0).bind fun t104 => (if t104 = 0 then (some 1) else (if t104 < 4503599627370496 then (some 2) else (if t104 < 9218868437227405312 then (some 3) else (if t104 = 9218868437227405312 then (some 4) else (some 5)))))) = some r := h
 clear h;replace H := Option.bind_eq_some_iff.mp H
 obtain ⟨t104, A20, H⟩ := H
 replace H : (if t104 = 0 then (some 1) else (if t104 < 4503599627370496 then (some 2) else (if t104 < 9218868437227405312 then (some 3) else (if t104 = 9218868437227405312 then (some 4) else (some 5))))) = some r := H
 have A2 := Aside0.mk A20;clear A20
 by_cases c3 : t104 = 0
 ·
  rw [if_pos c3] at H
  have c3b0 : (t104 == 0) = true := beq_iff_eq.mpr c3
  have c3b1 : (t104 != 0) = false := bne_eq_false_iff_eq.mpr c3
  clear c3
  obtain rfl := Option.some.inj H
  go_enter Tryz.func117, Tryz.ntmps117
  go_wp2_with (first | ((with_reducible refine gG 140 ?_); refine goA (some 5) Tryz.func140 #[.float .f64 a0] ?_; (with_reducible refine (xdK.calls a0 t104 _ A2.out).mono ?_); rintro e w' ⟨rfl, ⟨nd, rfl⟩⟩; refine ⟨_, rfl, ?_⟩))
  go_ret
  exact ⟨eS, eD⟩
 ·
  rw [if_neg c3] at H
  have c3b0 : (t104 == 0) = false := beq_eq_false_iff_ne.mpr c3
  have c3b1 : (t104 != 0) = true := bne_iff_ne.mpr c3
  by_cases c4 : t104 < 4503599627370496
  ·
   rw [if_pos c4] at H
   have c4b0 : decide (t104 < 4503599627370496) = true := decide_eq_true c4
   clear c4
   obtain rfl := Option.some.inj H
   go_enter Tryz.func117, Tryz.ntmps117
   go_wp2_with (first | ((with_reducible refine gG 140 ?_); refine goA (some 5) Tryz.func140 #[.float .f64 a0] ?_; (with_reducible refine (xdK.calls a0 t104 _ A2.out).mono ?_); rintro e w' ⟨rfl, ⟨nd, rfl⟩⟩; refine ⟨_, rfl, ?_⟩))
   go_ret
   exact ⟨eS, eD⟩
  ·
   rw [if_neg c4] at H
   have c4b0 : decide (t104 < 4503599627370496) = false := decide_eq_false c4
   clear c4
   by_cases c5 : t104 < 9218868437227405312
   ·
    rw [if_pos c5] at H
    have c5b0 : decide (t104 < 9218868437227405312) = true := decide_eq_true c5
    clear c5
    obtain rfl := Option.some.inj H
    go_enter Tryz.func117, Tryz.ntmps117
    go_wp2_with (first | ((with_reducible refine gG 140 ?_); refine goA (some 5) Tryz.func140 #[.float .f64 a0] ?_; (with_reducible refine (xdK.calls a0 t104 _ A2.out).mono ?_); rintro e w' ⟨rfl, ⟨nd, rfl⟩⟩; refine ⟨_, rfl, ?_⟩))
    go_ret
    exact ⟨eS, eD⟩
   ·
    rw [if_neg c5] at H
    have c5b0 : decide (t104 < 9218868437227405312) = false := decide_eq_false c5
    clear c5
    by_cases c6 : t104 = 9218868437227405312
    ·
     rw [if_pos c6] at H
     have c6b0 : (t104 == 9218868437227405312) = true := beq_iff_eq.mpr c6
     have c6b1 : (t104 != 9218868437227405312) = false := bne_eq_false_iff_eq.mpr c6
     clear c6
     obtain rfl := Option.some.inj H
     go_enter Tryz.func117, Tryz.ntmps117
     go_wp2_with (first | ((with_reducible refine gG 140 ?_); refine goA (some 5) Tryz.func140 #[.float .f64 a0] ?_; (with_reducible refine (xdK.calls a0 t104 _ A2.out).mono ?_); rintro e w' ⟨rfl, ⟨nd, rfl⟩⟩; refine ⟨_, rfl, ?_⟩))
     go_ret
     exact ⟨eS, eD⟩
    ·
     rw [if_neg c6] at H
     have c6b0 : (t104 == 9218868437227405312) = false := beq_eq_false_iff_ne.mpr c6
     have c6b1 : (t104 != 9218868437227405312) = true := bne_iff_ne.mpr c6
     obtain rfl := Option.some.inj H
     go_enter Tryz.func117, Tryz.ntmps117
     go_wp2_with (first | ((with_reducible refine gG 140 ?_); refine goA (some 5) Tryz.func140 #[.float .f64 a0] ?_; (with_reducible refine (xdK.calls a0 t104 _ A2.out).mono ?_); rintro e w' ⟨rfl, ⟨nd, rfl⟩⟩; refine ⟨_, rfl, ?_⟩))
     go_ret
     exact ⟨eS, eD⟩
def xiE.f (a0 : Nat) : Option (Bool) := (xdW.f a0).bind fun t105 => (some (decide (t105 < 4)))
end Go.Proofs.YtkabcgmegljebaaGreatDoor.Q
namespace Go.Proofs.YtkabcgmegljebaaGreatDoor.H
open Go.RowKit Go.Proofs.YtkabcgmegljebaaGreatDoorW.PrintWords Go.Proofs.YtkabcgmegljebaaGreatDoorW.PrintLast Go.Proofs.YtkabcgmegljebaaGreatDoorW.PrintMore
section
variable {P : Program} {md : Region.Mode} {ops : Array Oper} {Q : Exit → Act → World → Prop} {S : World → Prop} {ds : List Nat}
theorem rP (i : Nat) {N : Option Tmp} {oi : Oper} {v : Value} {fuel : Nat} {l l' : Array Bool} {a a' : Act} {w : World}
  (h : xaX P md ops Q S ds fuel l' a' w) (hi : ops[i]? = some oi := by rfl) (hN : oi.dst = N := by first | exact (rfl : _ = some _) | exact (rfl : _ = none))
  (hl : l.setIfInBounds i true = l' := by simp only [List.setIfInBounds_toArray, List.set_cons_zero, List.set_cons_succ]; rfl) (hc : anyB md ops l l' i = true := by kernel_rfl)
  (hQ : ∀ c a w, Q (.panic c) (a.put oi.dst v) w → Q (.panic c) a w := by exact fun _ _ _ h => h)
  (hy : Yields P ops oi v a := by refine Or.inl ⟨by rfl, ?_⟩; intro w'; go_simp; with_reducible rfl)
  (ha : a.put N v = a' := by simp only [Act.put, List.setIfInBounds_toArray, List.set_cons_zero, List.set_cons_succ, i64_w, i32_w]; rfl) : xaX P md ops Q S ds (fuel + 1) l a w := pure_ l' hi hN hc hQ hy ha h
theorem rT (i : Nat) {N : Option Tmp} {oi : Oper} {v : Value} {fuel : Nat} {l l' : Array Bool} {a a' : Act} {w : World}
  (h : xaX P md ops Q S ds fuel l' a' w) (hi : ops[i]? = some oi := by rfl) (hN : oi.dst = N := by first | exact (rfl : _ = some _) | exact (rfl : _ = none))
  (hl : l.setIfInBounds i true = l' := by simp only [List.setIfInBounds_toArray, List.set_cons_zero, List.set_cons_succ]; rfl) (hc : takeB md ops ds l l' i = true := by kernel_rfl)
  (hQ : ∀ c a w, Q (.panic c) (a.put oi.dst v) w → Q (.panic c) a w := by exact fun _ _ _ h => h)
  (hy : YieldsIf P ops S oi v a := by refine Or.inl ⟨by rfl, ?_⟩; intro w' hs_; go_simp; with_reducible rfl) (hS : S w := by exact hHeld)
  (ha : a.put N v = a' := by simp only [Act.put, List.setIfInBounds_toArray, List.set_cons_zero, List.set_cons_succ, i64_w, i32_w]; rfl) : xaX P md ops Q S ds (fuel + 1) l a w := take_ l' hi hN hc hQ hy hS ha h
theorem rO (i : Nat) {N : Option Tmp} {oi : Oper} {fuel : Nat} {l l' : Array Bool} {a : Act} {w : World}
  (h : ∀ K : Act → World → Prop, Shut (∀ a' w', S w' → (S w' → xaX P md ops Q S ds fuel l' a' w') → K a' w') → if Region.wanted oi (yielded ops a.tmps) = true then Oper.wp P oi a w K Q else K (a.put N undef) w)
  (hi : ops[i]? = some oi := by rfl) (hN : oi.dst = N := by first | exact (rfl : _ = some _) | exact (rfl : _ = none))
  (hl : l.setIfInBounds i true = l' := by simp only [List.setIfInBounds_toArray, List.set_cons_zero, List.set_cons_succ]; rfl) (hc : readyB md ops l l' i = true := by kernel_rfl) (hd : i ∉ ds := by decide) : xaX P md ops Q S ds (fuel + 1) l a w := one_ l' hi hN hc hd h
theorem rL (i : Nat) {N : Option Tmp} {oi : Oper} {fuel : Nat} {l l' : Array Bool} {a : Act} {w : World}
  (h : ∀ K : Act → World → Prop, Shut (∀ a' w', xaX P md ops Q S ds fuel l' a' w' → K a' w') → if Region.wanted oi (yielded ops a.tmps) = true then Oper.wp P oi a w K Q else K (a.put N undef) w)
  (hi : ops[i]? = some oi := by rfl) (hN : oi.dst = N := by first | exact (rfl : _ = some _) | exact (rfl : _ = none))
  (hl : l.setIfInBounds i true = l' := by simp only [List.setIfInBounds_toArray, List.set_cons_zero, List.set_cons_succ]; rfl) (hc : readyB md ops l l' i = true := by kernel_rfl) (hd : i ∈ ds := by decide) : xaX P md ops Q S ds (fuel + 1) l a w := last_ l' hi hN hc hd h
theorem rN {fuel : Nat} {l : Array Bool} {a a' : Act} {w : World} (h : xaX P md ops Q S ds fuel l a' w)
    (ha : a = a' := by simp only [Act.put, List.setIfInBounds_toArray, List.set_cons_zero, List.set_cons_succ, i64_w, i32_w]; rfl) : xaX P md ops Q S ds fuel l a w := norm_ ha h
theorem rD {l : Array Bool} {a : Act} {w : World} {n : Nat} (h : Q .normal a w) (hr : (Region.ready md ops l == []) = true := by kernel_rfl) : xaX P md ops Q S ds n l a w := done_ hr h
end
end Go.Proofs.YtkabcgmegljebaaGreatDoor.H
namespace Go.Proofs.YtkabcgmegljebaaGreatDoor.H
open Go.RowKit Go.Proofs.YtkabcgmegljebaaGreatDoorW.PrintWords Go.Proofs.YtkabcgmegljebaaGreatDoorW.PrintLast Go.Proofs.YtkabcgmegljebaaGreatDoorW.PrintMore
open Go.Proofs.YtkabcgmegljebaaGreatDoor.Q
theorem andNot63 (x : Nat) : Go.bits .andNot .u64 (x : Int) 9223372036854775808 = ((x % 9223372036854775808 : Nat) : Int) := by
 have h1 : ~~~ (BitVec.ofInt 64 9223372036854775808) = BitVec.ofNat 64 (2 ^ 63 - 1) := by decide
 have h2 : (BitVec.ofInt 64 (x : Int)).toNat = x % 18446744073709551616 := by
  rw [BitVec.ofInt_natCast, BitVec.toNat_ofNat]
 have h3 : ((BitVec.ofInt 64 (x : Int)) &&& ~~~ (BitVec.ofInt 64 9223372036854775808)).toNat = x % 9223372036854775808 := by
  rw [h1, BitVec.toNat_and, h2, BitVec.toNat_ofNat, Nat.mod_eq_of_lt (show 2 ^ 63 - 1 < 2 ^ 64 by decide), Nat.and_two_pow_sub_one_eq_mod]
  omega
 show IntKind.wrap .u64 (((BitVec.ofInt 64 (x : Int)) &&& ~~~ (BitVec.ofInt 64 9223372036854775808)).toNat : Int) = _
 rw [h3]
 have h4 : (x % 9223372036854775808 : Nat) < 9223372036854775808 := Nat.mod_lt _ (by decide)
 generalize x % 9223372036854775808 = n at h4 ⊢
 simp [IntKind.wrap, IntKind.bits, IntKind.signed]
 omega
def numB (x : Nat) : Bool := decide (x % 9223372036854775808 < 9218868437227405312)
theorem number_f (x : Nat) : xiE.f x = some (numB x) := by
 unfold xiE.f xdW.f xdK.f xeA.f numB
 simp only [Option.bind_some, andNot63]
 generalize x % 9223372036854775808 = n
 repeat' split
 all_goals simp only [Option.bind_some, Option.some.injEq]
 all_goals first | (rw [eq_comm, decide_eq_decide]; omega) | (simp; omega)
def mulN (x y : Nat) : Nat := (floatBits .mul .f64 x y).getD 0
theorem read_num {x : Nat} (h : numB x = true) : ∃ s m i, Ieee.double.read x = .number s m i := by
 have h1 : x % 9223372036854775808 < 9218868437227405312 := of_decide_eq_true h
 unfold Ieee.Format.read
 rw [show Ieee.double.signWeight = 9223372036854775808 by decide, show Ieee.double.infRung = 9218868437227405312 by decide]
 simp only
 split
 ·
  exact ⟨_, _, _, rfl⟩
 ·
  first | exact ⟨_, _, _, rfl⟩ | (rw [if_pos h1]; exact ⟨_, _, _, rfl⟩)
theorem xfQ {x y : Nat} (hx : numB x = true) (hy : numB y = true) : floatBits .mul .f64 x y = some (mulN x y) := by
 obtain ⟨s, m, i, e1⟩ := read_num hx
 obtain ⟨t, n, j, e2⟩ := read_num hy
 have h : floatBits .mul .f64 x y = some (Ieee.double.write (.number (s ^^ t) (m * n) (i + j))) := by
  show ((Ieee.double.read x).product (Ieee.double.read y)).map Ieee.double.write = _
  rw [e1, e2]; rfl
 unfold mulN
 rw [h]; rfl
theorem info48 : (Tryz.prog.info? 48).map (fun i => (i.zero, i.size, i.bytes)) = some (some (.agg #[.int .i64 0, .float .f64 0, .int .i64 0]), 3, 24) := by kernel_rfl
theorem info37 : (Tryz.prog.info? 37).map (fun i => (i.zero, i.size, i.bytes)) = some (some (.agg #[.int .i64 0, .float .f64 0, .float .f64 0, .int .i64 0, .int .i64 0, .int .i64 0, .int .i64 0, .int .i64 0, .int .i64 0]), 9, 72) := by kernel_rfl
theorem clone_flow (A : Option Addr) (c : Nat) (l : List S48) (w : World) (hr : Kd.C k48 w A l.length l) (hl : l.length * 24 ≤ 140737488355328) :
  Calls Tryz.prog 36 #[.slice A l.length c] w fun e w' => ∃ v, e = .returned v ∧ Kd.R k48 48 w' w.heap.size (fun _ => True) v l ∧ Below w.heap.size w w' := by
 have hnil := fun w => Lib.run_eql_slice_nil (P := Tryz.prog) w 24 48 A l.length c 0 0 Tryz.underlying24
 have HR := Aside0.mk hr;have HL := Aside0.mk hl
 have HB := Aside0.mk (Below.refl w.heap.size w)
 clear hl
 cases A with
 | none =>
  have hz : l.length = 0 := Nat.eq_zero_of_not_pos fun h0 => by
   obtain ⟨ad, he, _⟩ := hr.2.2 h0
   cases he
  have h0 : l = [] := List.length_eq_zero_iff.mp hz
  subst h0;clear hz hr HR HL
  simp only [List.length_nil, Option.isNone_none] at hnil ⊢
  go_enter Tryz.func36, Tryz.ntmps36
  go_wp2
  go_ret
  exact ⟨_, rfl, Kd.R_nil _ _ _ _ _, Below.refl _ _⟩
 | some ad =>
  clear hr
  go_enter Tryz.func36, Tryz.ntmps36
  go_wp2_with (first
   | ((with_reducible refine xaU (N := 5) rfl ?_); refine Kd.R_lit k48 _ 48 ?hg (N := 5) ?hd (xs := ([] : List S48)) (inner := []) (ok := fun _ => True) (okp := fun _ => True) ?hr ?hp (fun _ hk => hk) trivial (Below.refl _ _) (Nat.le_refl _) (by simp) ?_; (case hd => rfl); (case hg => rfl); (case hr => first | (go_simp; done) | (go_simp; rfl)); (case hp => exact (Reps.none _ _)); intro v0 w1 ho hb hg_ hnew_; clear hg_ hnew_; have HO := Aside0.mk ho; replace HB := Aside0.mk hb; clear ho hb)
   | ((with_reducible refine xaR (b := .append) (xs := #[.tmp 5, .tmp 6]) rfl ?_); at_builtin; refine Kd.xdH k48 (w0 := w) w.heap.size rfl (.tmp 5) (.tmp 6) 24 48 (.agg #[.int .i64 0, .float .f64 0, .int .i64 0]) 24 rfl Tryz.underlying24 info48 rfl (by decide) (by omega) v0 [] l (some ad) l.length c (fun _ => True) (fun _ => False) rfl rfl HO.out ?aR (fun _ _ h => h) (fun _ h => h.elim) (fun _ _ => trivial) HB.out HB.out.size ?aL ?_; (case aR => exact Kd.xbP HR.out HB.out); (case aL => have := HL.out; simp only [List.length_nil]; omega); intro v1 w2 ho hb hg hat; rw [List.nil_append] at ho; have HO1 := Aside0.mk ho; replace HB := Aside0.mk hb; clear ho hb hg hat))
  go_ret
  exact ⟨_, rfl, HO1.out, HB.out⟩
theorem clone_op (A : Option Addr) (c : Nat) (l : List S37) (w : World) (hr : Kd.C k37 w A l.length l) (hl : l.length * 72 ≤ 140737488355328) :
  Calls Tryz.prog 32 #[.slice A l.length c] w fun e w' => ∃ v, e = .returned v ∧ Kd.R k37 37 w' w.heap.size (fun _ => True) v l ∧ Below w.heap.size w w' := by
 have hnil := fun w => Lib.run_eql_slice_nil (P := Tryz.prog) w 22 37 A l.length c 0 0 Tryz.underlying22
 have HR := Aside0.mk hr;have HL := Aside0.mk hl
 have HB := Aside0.mk (Below.refl w.heap.size w)
 clear hl
 cases A with
 | none =>
  have hz : l.length = 0 := Nat.eq_zero_of_not_pos fun h0 => by
   obtain ⟨ad, he, _⟩ := hr.2.2 h0
   cases he
  have h0 : l = [] := List.length_eq_zero_iff.mp hz
  subst h0;clear hz hr HR HL
  simp only [List.length_nil, Option.isNone_none] at hnil ⊢
  go_enter Tryz.func32, Tryz.ntmps32
  go_wp2
  go_ret
  exact ⟨_, rfl, Kd.R_nil _ _ _ _ _, Below.refl _ _⟩
 | some ad =>
  clear hr
  go_enter Tryz.func32, Tryz.ntmps32
  go_wp2_with (first
   | ((with_reducible refine xaU (N := 5) rfl ?_); refine Kd.R_lit k37 _ 37 ?hg (N := 5) ?hd (xs := ([] : List S37)) (inner := []) (ok := fun _ => True) (okp := fun _ => True) ?hr ?hp (fun _ hk => hk) trivial (Below.refl _ _) (Nat.le_refl _) (by simp) ?_; (case hd => rfl); (case hg => rfl); (case hr => first | (go_simp; done) | (go_simp; rfl)); (case hp => exact (Reps.none _ _)); intro v0 w1 ho hb hg_ hnew_; clear hg_ hnew_; have HO := Aside0.mk ho; replace HB := Aside0.mk hb; clear ho hb)
   | ((with_reducible refine xaR (b := .append) (xs := #[.tmp 5, .tmp 6]) rfl ?_); at_builtin; refine Kd.xdH k37 (w0 := w) w.heap.size rfl (.tmp 5) (.tmp 6) 22 37 (.agg #[.int .i64 0, .float .f64 0, .float .f64 0, .int .i64 0, .int .i64 0, .int .i64 0, .int .i64 0, .int .i64 0, .int .i64 0]) 72 rfl Tryz.underlying22 info37 rfl (by decide) (by omega) v0 [] l (some ad) l.length c (fun _ => True) (fun _ => False) rfl rfl HO.out ?aR (fun _ _ h => h) (fun _ h => h.elim) (fun _ _ => trivial) HB.out HB.out.size ?aL ?_; (case aR => exact Kd.xbP HR.out HB.out); (case aL => have := HL.out; simp only [List.length_nil]; omega); intro v1 w2 ho hb hg hat; rw [List.nil_append] at ho; have HO1 := Aside0.mk ho; replace HB := Aside0.mk hb; clear ho hb hg hat))
  go_ret
  exact ⟨_, rfl, HO1.out, HB.out⟩
theorem xfM (A : Option Addr) (c : Nat) (l : List Int) (w : World) (hr : Kd.C (Kd.int .i64) w A l.length l) (hl : l.length * 8 ≤ 140737488355328) :
  Calls Tryz.prog 38 #[.slice A l.length c] w fun e w' => ∃ v, e = .returned v ∧ Kd.R (Kd.int .i64) 3 w' w.heap.size (fun _ => True) v l ∧ Below w.heap.size w w' := by
 have hnil := fun w => Lib.run_eql_slice_nil (P := Tryz.prog) w 49 3 A l.length c 0 0 Tryz.underlying49
 have HR := Aside0.mk hr;have HL := Aside0.mk hl
 have HB := Aside0.mk (Below.refl w.heap.size w)
 clear hl
 cases A with
 | none =>
  have hz : l.length = 0 := Nat.eq_zero_of_not_pos fun h0 => by
   obtain ⟨ad, he, _⟩ := hr.2.2 h0
   cases he
  have h0 : l = [] := List.length_eq_zero_iff.mp hz
  subst h0;clear hz hr HR HL
  simp only [List.length_nil, Option.isNone_none] at hnil ⊢
  go_enter Tryz.func38, Tryz.ntmps38
  go_wp2
  go_ret
  exact ⟨_, rfl, Kd.R_nil _ _ _ _ _, Below.refl _ _⟩
 | some ad =>
  clear hr
  go_enter Tryz.func38, Tryz.ntmps38
  go_wp2_with (first
   | ((with_reducible refine xaU (N := 5) rfl ?_); refine Kd.R_lit (Kd.int .i64) _ 3 ?hg (N := 5) ?hd (xs := ([] : List Int)) (inner := []) (ok := fun _ => True) (okp := fun _ => True) ?hr ?hp (fun _ hk => hk) trivial (Below.refl _ _) (Nat.le_refl _) (by simp) ?_; (case hd => rfl); (case hg => rfl); (case hr => first | (go_simp; done) | (go_simp; rfl)); (case hp => exact (Reps.none _ _)); intro v0 w1 ho hb hg_ hnew_; clear hg_ hnew_; have HO := Aside0.mk ho; replace HB := Aside0.mk hb; clear ho hb)
   | ((with_reducible refine xaR (b := .append) (xs := #[.tmp 5, .tmp 6]) rfl ?_); at_builtin; refine Kd.xdH (Kd.int .i64) (w0 := w) w.heap.size rfl (.tmp 5) (.tmp 6) 49 3 (.int .i64 0) 8 rfl Tryz.underlying49 info3 rfl (by decide) (by omega) v0 [] l (some ad) l.length c (fun _ => True) (fun _ => False) rfl rfl HO.out ?aR (fun _ _ h => h) (fun _ h => h.elim) (fun _ _ => trivial) HB.out HB.out.size ?aL ?_; (case aR => exact Kd.xbP HR.out HB.out); (case aL => have := HL.out; simp only [List.length_nil]; omega); intro v1 w2 ho hb hg hat; rw [List.nil_append] at ho; have HO1 := Aside0.mk ho; replace HB := Aside0.mk hb; clear ho hb hg hat))
  go_ret
  exact ⟨_, rfl, HO1.out, HB.out⟩
theorem xgF (A : Option Addr) (c n : Nat) (w : World) (hn : n ≤ c) (hc : n ≤ 9223372036854775807) :
  Calls Tryz.prog 35 #[.slice A n c] w fun e w' => e = .returned (.slice A n n) ∧ w' = w := by
 go_enter Tryz.func35, Tryz.ntmps35
 go_wp2
 go_ret
 exact ⟨rfl, rfl⟩
theorem clip_op (A : Option Addr) (c n : Nat) (w : World) (hn : n ≤ c) (hc : n ≤ 9223372036854775807) :
  Calls Tryz.prog 41 #[.slice A n c] w fun e w' => e = .returned (.slice A n n) ∧ w' = w := by
 go_enter Tryz.func41, Tryz.ntmps41
 go_wp2
 go_ret
 exact ⟨rfl, rfl⟩
end Go.Proofs.YtkabcgmegljebaaGreatDoor.H
namespace Go.Proofs.YtkabcgmegljebaaGreatDoorW.PrintWords
open Go.RowKit
namespace Kd
section
variable {α : Type} {P : Program} {ops : Array Oper} {rest : List Oper} {o : Oper} {a : Act} {Q : Exit → Act → World → Prop}
theorem xfN (d : Kd α) {w0 W : World} (base e : Nat) (hgd : o.guard = none) {N : Tmp} (hd : o.dst = some N) (t : TypeId) (x y : Operand) (ho : o.op = .makeSlice t x y) (n : Int) (hx : a.eval x = .int .i64 0) (hy : a.eval y = .int .i64 n)
  (ht : P.underlying t = some (.slice e)) (z : Value) (bytes : Nat) (hinfo : (P.info? e).map (fun i => (i.zero, i.size, i.bytes)) = some (some z, d.sz, bytes)) (hz : z.cells.size = d.sz) (hs0 : 0 < d.sz) (hb0 : 0 < bytes)
  (z0 : α) {ok okp : Nat → Prop} (hzero : d.M W base okp z0 z.cells.toList) (hok : ∀ k, okp k → ok k) (hfresh : ok W.heap.size) (h0 : 0 ≤ n) (hl : n.toNat * bytes ≤ 281474976710656) (HB : Below base w0 W) (hbase : base ≤ W.heap.size)
  (h : ∀ v1 w1, d.R e w1 base ok v1 (List.replicate 0 z0) → Below base w0 w1 → W.grownBy w1 none → (∃ b, v1.ownBlock = some b ∧ W.heap.size ≤ b) → wpList P ops Q rest (a.put o.dst v1) w1) : wpList P ops Q (o :: rest) a W := by
 obtain ⟨m, rfl⟩ := Int.eq_ofNat_of_zero_le h0
 simp only [Int.toNat_natCast] at hl
 obtain ⟨i0, hi, hzz⟩ := Option.map_eq_some_iff.1 hinfo
 simp only [Prod.mk.injEq] at hzz
 obtain ⟨hz0, hz1, hz2⟩ := hzz
 have hm : m ≤ 281474976710656 := Nat.le_trans (Nat.le_mul_of_pos_right _ hb0) hl
 have hbs : (i0.bytes : Int) * (m : Int) ≤ 281474976710656 := by
  have h3 : ((i0.bytes * m : Nat) : Int) ≤ 281474976710656 := by rw [hz2, Nat.mul_comm]; omega
  rwa [Int.natCast_mul] at h3
 have hr := run_make (P := P) W t e i0 z ht hi hz0 .i64 .i64 0 (m : Int) (Int.le_refl _) (by omega) hbs (by omega)
 simp only [Int.toNat_natCast, Int.toNat_zero] at hr
 have hrun : (execOp a.eval o).run P W = .ok (.value (.slice (some ⟨W.heap.size, 0, none⟩) 0 m)) (W.alloc (.cells (madeCells z.cells (m * i0.size)) e)) := by
  simp [execOp, ho, hx, hy, hr]
 refine xiD hgd hrun (h _ _ ⟨fun k hk => ?_, [], ?_, Reps.none _ _⟩ (HB.alloc hbase _) (World.grownBy_alloc W _ none) ⟨W.heap.size, by simp [Value.ownBlock], Nat.le_refl _⟩)
 ·
  have : W.heap.size = k := by simpa [Value.ownBlock] using hk
  subst this
  exact hfresh
 ·
  rw [hz1]
  exact ⟨by simp, .inr ⟨W.heap.size, m, _, rfl, hbase, heap_alloc_new W _, Nat.zero_le _, by simp only [maxLen]; omega, size_madeCells _ _, by simp⟩⟩
end
end Kd
end Go.Proofs.YtkabcgmegljebaaGreatDoorW.PrintWords
namespace Go.Proofs.YtkabcgmegljebaaGreatDoor.H
open Go.RowKit Go.Proofs.YtkabcgmegljebaaGreatDoorW.PrintWords Go.Proofs.YtkabcgmegljebaaGreatDoorW.PrintLast Go.Proofs.YtkabcgmegljebaaGreatDoorW.PrintMore
open Go.Proofs.YtkabcgmegljebaaGreatDoor.Q
def ngF (x : S48) : S48 := ⟨x.f0, Op.negFloat .f64 x.f1, x.f2⟩
theorem xeG {α β : Type} (f : α → β) (l : List α) (i : Nat) (h : i < l.length) : (l.take (i + 1)).map f = (l.take i).map f ++ [f l[i]] := by
  rw [List.take_succ_eq_append_getElem h, List.map_append]; rfl
theorem rd48 {l : List S48} {i : Nat} (h : i < l.length) : rd_T48 l (i : Int) = l[i] := by
  unfold rd_T48; rw [Int.toNat_natCast, List.getD_eq_getElem?_getD, List.getElem?_eq_getElem h]; rfl
theorem flowGive (A : Option Addr) (c : Nat) (l : List S48) (w : World) (hr : Kd.C k48 w A l.length l) (hl : l.length ≤ 4096) :
  Calls Tryz.prog 73 #[.slice A l.length c] w fun e w' => ∃ v, e = .returned v ∧ Kd.R k48 48 w' w.heap.size (fun _ => True) v (l.map ngF) ∧ Below w.heap.size w w' := by
 have HR := Aside0.mk hr;have HL := Aside0.mk hl
 have HB := Aside0.mk (Below.refl w.heap.size w)
 clear hr hl
 go_enter Tryz.func73, Tryz.ntmps73
 go_wp2_with ((with_reducible refine xaU (N := 8) rfl ?_); refine Kd.xfN k48 _ 48 rfl (N := 8) rfl 24 _ _ rfl (l.length : Int) rfl rfl Tryz.underlying24 (.agg #[.int .i64 0, .float .f64 0, .int .i64 0]) 24 info48 rfl (by decide) (by omega) z48 (ok := fun _ => True) (okp := fun _ => True) (xeZ _ _ _ z48) (fun _ hk => hk) trivial (by omega) (by have := HL.out; omega) (Below.refl _ _) (Nat.le_refl _) ?_; intro v0 w1 ho hb hg_ hnew_; clear hg_ hnew_; have HO := Aside0.mk ho; replace HB := Aside0.mk hb; clear ho hb)
 go_loopg [3, 11] (l.length) (fun kq v3 v11 w' => ∃ i : Nat, i ≤ l.length ∧ kq + i = l.length ∧ v11 = .int .i64 i ∧ Aside0 (Kd.R k48 48 w' w.heap.size (fun _ => True) v3 ((l.take i).map ngF)) ∧ Aside0 (Below w.heap.size w w'))
 case atStart => exact ⟨0, by omega, by omega, rfl, HO, HB⟩
 case round =>
  obtain ⟨i, hi, hk, rfl, HO, HB⟩ := hrel
  by_cases hlt : i < l.length
  ·
   obtain ⟨ad, e, h0, h1, h2⟩ := at_T48 (Kd.xbP HR.out HB.out) (i : Int) (by omega) (by omega)
   subst e
   rw [rd48 hlt] at h0 h1 h2
   rw [Int.toNat_natCast] at h0 h1 h2
   have HT := Aside0.mk (xeG ngF l i hlt)
   obtain ⟨x, hx⟩ : ∃ x, x = l[i] := ⟨_, rfl⟩
   have HXX := Aside0.mk hx
   rw [← hx] at h0 h1 h2
   clear hx
   have hmx : (i : Int) + 1 ≤ 9223372036854775807 := by have := HL.out; omega
   go_wp2_with ((with_reducible refine xaR (b := .append) (xs := #[.tmp 19, .tmp 21]) rfl ?_); at_builtin; refine Kd.xbZ k48 (w0 := w) w.heap.size rfl (.tmp 19) (.tmp 21) 24 48 (.agg #[.int .i64 0, .float .f64 0, .int .i64 0]) 24 rfl Tryz.underlying24 info48 rfl (by decide) (by omega) u3 ((l.take i).map ngF) (ngF x) [.int .i64 x.f0, .float .f64 (Op.negFloat .f64 x.f1), .int .i64 x.f2] (fun _ => True) (fun _ => False) rfl ?aX (xeZ _ _ _ (ngF x)) (fun _ hk => hk.elim) (fun _ _ => trivial) (Kd.xbJ HO.out _) (xaC HB.out _) (xbG (xaC HB.out _)) ?aL ?_; (case aX => show Value.slice (some ⟨wr.heap.size + 1, 0, none⟩) 1 1 = _; simp); (case aL => have := HL.out; simp only [List.length_map, List.length_take]; omega); intro v1 w2 ho hb hg hat; rw [HXX.out, ← HT.out] at ho; replace HO := Aside0.mk ho; replace HB := Aside0.mk hb; clear ho hb hg hat)
   go_roundg (gk - 1)
   case measure => omega
   case rel => exact ⟨i + 1, by omega, by omega, by go_num, HO, HB⟩
  ·
   go_wp2_with fail
   go_ret
   have e : l.take i = l := List.take_of_length_le (by omega)
   exact ⟨_, rfl, by rw [← e]; exact HO.out, HB.out⟩
theorem size_same (x : Nat) (w : World) : Calls Tryz.prog 140 #[.float .f64 x] w fun e w' => e = .returned (.int .u64 ((x % 9223372036854775808 : Nat) : Int)) ∧ w' = w := by
 have h := andNot63 x;have H := Aside0.mk h;clear h
 go_enter Tryz.func140, Tryz.ntmps140
 go_wp2_with (go_at_call 29; (with_reducible refine (xeB x _).mono ?_); rintro e w' ⟨rfl, rfl⟩)
 go_ret
 exact ⟨congrArg (fun b => Ending.returned (.int .u64 b)) H.out, rfl⟩
theorem class_same (x : Nat) (w : World) : Calls Tryz.prog 117 #[.float .f64 x] w fun e w' => ∃ c : Int, decide (c < 4) = numB x ∧ e = .returned (.int .i64 c) ∧ w' = w := by
 unfold numB
 have hs := size_same x w
 generalize hn : x % 9223372036854775808 = n at hs
 have HS := Aside0.mk hs;clear hs
 by_cases h0 : n = 0
 ·
  have t0 : ((n : Int) == 0) = true := by rw [h0]; rfl
  go_enter Tryz.func117, Tryz.ntmps117
  go_wp2_with (go_at_call 140; (with_reducible refine HS.out.mono ?_); rintro e w' ⟨rfl, rfl⟩)
  go_ret
  exact ⟨1, by subst h0; rfl, rfl, rfl⟩
 have t0 : ((n : Int) == 0) = false := by rw [beq_eq_false_iff_ne]; omega
 by_cases h1 : n < 4503599627370496
 ·
  have t1 : decide ((n : Int) < 4503599627370496) = true := by simp; omega
  go_enter Tryz.func117, Tryz.ntmps117
  go_wp2_with (go_at_call 140; (with_reducible refine HS.out.mono ?_); rintro e w' ⟨rfl, rfl⟩)
  go_ret
  exact ⟨2, by simp; omega, rfl, rfl⟩
 have t1 : decide ((n : Int) < 4503599627370496) = false := by simp; omega
 by_cases h2 : n < 9218868437227405312
 ·
  have t2 : decide ((n : Int) < 9218868437227405312) = true := by simp; omega
  go_enter Tryz.func117, Tryz.ntmps117
  go_wp2_with (go_at_call 140; (with_reducible refine HS.out.mono ?_); rintro e w' ⟨rfl, rfl⟩)
  go_ret
  exact ⟨3, by simp; omega, rfl, rfl⟩
 have t2 : decide ((n : Int) < 9218868437227405312) = false := by simp; omega
 by_cases h3 : n = 9218868437227405312
 ·
  have t3 : ((n : Int) == 9218868437227405312) = true := by rw [h3]; rfl
  go_enter Tryz.func117, Tryz.ntmps117
  go_wp2_with (go_at_call 140; (with_reducible refine HS.out.mono ?_); rintro e w' ⟨rfl, rfl⟩)
  go_ret
  exact ⟨4, by simp; omega, rfl, rfl⟩
 have t3 : ((n : Int) == 9218868437227405312) = false := by rw [beq_eq_false_iff_ne]; omega
 go_enter Tryz.func117, Tryz.ntmps117
 go_wp2_with (go_at_call 140; (with_reducible refine HS.out.mono ?_); rintro e w' ⟨rfl, rfl⟩)
 go_ret
 exact ⟨5, by simp; omega, rfl, rfl⟩
theorem xfL (x : Nat) (b : Bool) (hb : numB x = b) (w : World) : Calls Tryz.prog 97 #[.float .f64 x] w fun e w' => e = .returned (.bool b) ∧ w' = w := by
 have H1 := Aside0.mk hb;clear hb
 go_enter Tryz.func97, Tryz.ntmps97
 go_wp2_with (go_at_call 117; (with_reducible refine (class_same x _).mono ?_); rintro e w' ⟨c, hc, rfl, rfl⟩; rw [H1.out] at hc)
 go_ret
 exact ⟨rfl, rfl⟩
def scF (x : Nat) (f : S48) : S48 := ⟨f.f0, mulN x f.f1, f.f2⟩
theorem xhE (y : Nat) (A : Option Addr) (c : Nat) (l : List S48) (w : World) (hr : Kd.C k48 w A l.length l) (hl : l.length ≤ 4096) (hy : numB y = true) (hn : ∀ f ∈ l, numB f.f1 = true) (hok : ∀ f ∈ l, numB (mulN y f.f1) = true) :
  Calls Tryz.prog 74 #[.float .f64 y, .slice A l.length c] w fun e w' => ∃ v, e = .returned (.tuple #[v, .int .i64 0]) ∧ Kd.R k48 48 w' w.heap.size (fun _ => True) v (l.map (scF y)) ∧ Below w.heap.size w w' := by
 have HR := Aside0.mk hr;have HL := Aside0.mk hl;have HY := Aside0.mk hy
 have HB := Aside0.mk (Below.refl w.heap.size w)
 have HOK : Aside0 (∀ i (h : i < l.length), numB (mulN y l[i].f1) = true ∧ floatBits .mul .f64 y l[i].f1 = some (mulN y l[i].f1)) := ⟨fun i h => ⟨hok _ (List.getElem_mem h), xfQ hy (hn _ (List.getElem_mem h))⟩⟩
 clear hr hl hy hn hok
 go_enter Tryz.func74, Tryz.ntmps74
 go_wp2_with (first | (go_at_call 97; (with_reducible refine (xfL y true HY.out _).mono ?_); rintro e w' ⟨rfl, hw_⟩; obtain rfl := hw_.symm) | ((with_reducible refine xaU (N := 14) rfl ?_); refine Kd.xfN k48 _ 48 rfl (N := 14) rfl 24 _ _ rfl (l.length : Int) rfl rfl Tryz.underlying24 (.agg #[.int .i64 0, .float .f64 0, .int .i64 0]) 24 info48 rfl (by decide) (by omega) z48 (ok := fun _ => True) (okp := fun _ => True) (xeZ _ _ _ z48) (fun _ hk => hk) trivial (by omega) (by have := HL.out; omega) (Below.refl _ _) (Nat.le_refl _) ?_; intro v0 w1 ho hb hg_ hnew_; clear hg_ hnew_; have HO := Aside0.mk ho; replace HB := Aside0.mk hb; clear ho hb))
 go_loopg [6, 17] (l.length) (fun kq v3 v11 w' => ∃ i : Nat, i ≤ l.length ∧ kq + i = l.length ∧ v11 = .int .i64 i ∧ Aside0 (Kd.R k48 48 w' w.heap.size (fun _ => True) v3 ((l.take i).map (scF y))) ∧ Aside0 (Below w.heap.size w w'))
 case atStart => exact ⟨0, by omega, by omega, rfl, ⟨by repeat (first | exact HO.out | apply Kd.xbK | apply Kd.R_drew)⟩, ⟨by repeat (first | exact HB.out | apply xaJ | apply xaM)⟩⟩
 case round =>
  obtain ⟨i, hi, hk, rfl, HO, HB⟩ := hrel
  by_cases hlt : i < l.length
  ·
   obtain ⟨ad, e, h0, h1, h2⟩ := at_T48 (Kd.xbP HR.out HB.out) (i : Int) (by omega) (by omega)
   subst e
   rw [rd48 hlt] at h0 h1 h2
   rw [Int.toNat_natCast] at h0 h1 h2
   have HT := Aside0.mk (xeG (scF y) l i hlt)
   have hok := HOK.out i hlt
   obtain ⟨x, hx⟩ : ∃ x, x = l[i] := ⟨_, rfl⟩
   have HXX := Aside0.mk hx
   rw [← hx] at h0 h1 h2 hok
   clear hx
   have hmx : (i : Int) + 1 ≤ 9223372036854775807 := by have := HL.out; omega
   have hmul : ∀ t w, (binOp .mul t (.float .f64 y) (.float .f64 x.f1)).run Tryz.prog w = .ok (.float .f64 (mulN y x.f1)) w := fun t w => run_float_arith w .mul t .f64 y x.f1 (mulN y x.f1) hok.2
   have HNM := Aside0.mk hok.1;clear hok
   go_wp2_with (first | (go_at_call 97; (with_reducible refine (xfL (mulN y x.f1) true HNM.out _).mono ?_); rintro e w' ⟨rfl, hw_⟩; obtain rfl := hw_.symm) | ((with_reducible refine xaR (b := .append) (xs := #[.tmp 30, .tmp 32]) rfl ?_); at_builtin; refine Kd.xbZ k48 (w0 := w) w.heap.size rfl (.tmp 30) (.tmp 32) 24 48 (.agg #[.int .i64 0, .float .f64 0, .int .i64 0]) 24 rfl Tryz.underlying24 info48 rfl (by decide) (by omega) u6 ((l.take i).map (scF y)) (scF y x) [.int .i64 x.f0, .float .f64 (mulN y x.f1), .int .i64 x.f2] (fun _ => True) (fun _ => False) rfl ?aX (xeZ _ _ _ (scF y x)) (fun _ hk => hk.elim) (fun _ _ => trivial) (Kd.xbJ HO.out _) (xaC HB.out _) (xbG (xaC HB.out _)) ?aL ?_; (case aX => show Value.slice (some ⟨wr.heap.size + 1, 0, none⟩) 1 1 = _; simp); (case aL => have := HL.out; simp only [List.length_map, List.length_take]; omega); intro v1 w2 ho hb hg hat; rw [HXX.out, ← HT.out] at ho; replace HO := Aside0.mk ho; replace HB := Aside0.mk hb; clear ho hb hg hat))
   go_roundg (gk - 1)
   case measure => omega
   case rel => exact ⟨i + 1, by omega, by omega, by go_num, HO, HB⟩
  ·
   go_wp2_with fail
   go_ret2
   have e : l.take i = l := List.take_of_length_le (by omega)
   exact ⟨_, rfl, by rw [← e]; exact HO.out, HB.out⟩
def inB (n lo hi : Int) : Bool := decide (lo ≤ n) && decide (n ≤ hi)
theorem xcH (n lo hi : Int) (w : World) : Calls Tryz.prog 93 #[.int .i64 n, .int .i64 lo, .int .i64 hi] w fun e w' => e = .returned (.bool (inB n lo hi)) ∧ w' = w := by
 unfold inB
 by_cases h1 : lo ≤ n
 ·
  have t1 : decide (n ≥ lo) = true := decide_eq_true h1
  have t2 : decide (lo ≤ n) = true := decide_eq_true h1
  go_enter Tryz.func93, Tryz.ntmps93
  go_wp2_with fail
  go_ret
  exact ⟨by simp [h1], rfl⟩
 ·
  have t1 : decide (n ≥ lo) = false := decide_eq_false h1
  have t2 : decide (lo ≤ n) = false := decide_eq_false h1
  go_enter Tryz.func93, Tryz.ntmps93
  go_wp2_with fail
  go_ret
  exact ⟨by simp [h1], rfl⟩
theorem is_c (n : Int) (w : World) : Calls Tryz.prog 94 #[.int .i64 n] w fun e w' => e = .returned (.bool (inB n 0 109572)) ∧ w' = w := by
 go_enter Tryz.func94, Tryz.ntmps94
 go_wp2_with (go_at_call 93; (with_reducible refine (xcH _ _ _ _).mono ?_); rintro e w' ⟨rfl, rfl⟩)
 go_ret
 exact ⟨rfl, rfl⟩
theorem xcT (x : Nat) (w : World) : Calls Tryz.prog 92 #[.float .f64 x] w fun e w' => e = .returned (.bool (numB x)) ∧ w' = w := by
 have hc := class_same x w;have HC := Aside0.mk hc;clear hc
 go_enter Tryz.func92, Tryz.ntmps92
 go_wp2_with (go_at_call 117; (with_reducible refine HC.out.mono ?_); rintro e w' ⟨c, hc, rfl, rfl⟩)
 go_ret
 exact ⟨by first | rfl | rw [← hc] | simp [hc], rfl⟩
theorem bare_c (a0 a1 a2 : Int) (a3 a4 : Nat) (a5 a6 a7 a8 a9 a10 : Int) (w : World) : Calls Tryz.prog 91 #[.agg #[.int .i64 a0, .int .i64 a1, .int .i64 a2, .float .f64 a3, .float .f64 a4, .int .i64 a5, .int .i64 a6, .int .i64 a7, .int .i64 a8, .int .i64 a9, .int .i64 a10]] w fun e w' => e = .returned (.agg #[.int .i64 a0, .int .i64 a1, .int .i64 a2, .float .f64 0, .float .f64 0, .int .i64 0, .int .i64 0, .int .i64 0, .int .i64 0, .int .i64 0, .int .i64 0]) ∧ Below w.heap.size w w' :=
  xiF.calls a0 a1 a2 a3 a4 a5 a6 a7 a8 a9 a10 a0 a1 a2 0 0 0 0 0 0 0 0 w rfl
theorem blk11 {w : World} {g : Nat} {t : TypeId} {a b c d e f i j k l m : Value} (h : Aside0 (w.heap[g]? = some (.cells #[a, b, c, d, e, f, i, j, k, l, m] t (0, 0)))) : (w.cell? ⟨g, 0, none⟩ = some a ∧ w.cell? ⟨g, 1, none⟩ = some b ∧ w.cell? ⟨g, 2, none⟩ = some c ∧ w.cell? ⟨g, 3, none⟩ = some d ∧ w.cell? ⟨g, 4, none⟩ = some e ∧ w.cell? ⟨g, 5, none⟩ = some f ∧ w.cell? ⟨g, 6, none⟩ = some i ∧ w.cell? ⟨g, 7, none⟩ = some j ∧ w.cell? ⟨g, 8, none⟩ = some k ∧ w.cell? ⟨g, 9, none⟩ = some l ∧ w.cell? ⟨g, 10, none⟩ = some m) ∧ ∀ q, w.frozen? ⟨g, q, none⟩ = false :=
  ⟨⟨(xaA h.out 0).trans rfl, (xaA h.out 1).trans rfl, (xaA h.out 2).trans rfl, (xaA h.out 3).trans rfl, (xaA h.out 4).trans rfl, (xaA h.out 5).trans rfl, (xaA h.out 6).trans rfl, (xaA h.out 7).trans rfl, (xaA h.out 8).trans rfl, (xaA h.out 9).trans rfl, (xaA h.out 10).trans rfl⟩, fun q => xaB h.out q⟩
end Go.Proofs.YtkabcgmegljebaaGreatDoor.H
