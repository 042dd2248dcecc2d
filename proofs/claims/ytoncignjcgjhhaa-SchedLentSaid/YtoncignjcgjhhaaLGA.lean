/- Contracts and facts of functions of the program (calendar, dates and their documents), joined in one text by a program of this session. No condition but what each theorem states. -/
import Derived.Test.YtoncignjcgjhhaaLW
import Derived.Test.YtoncignjcgjhhaaProg
import Derived.Below
import Derived.Deep.Draws
import Derived.Deep.AppendLies
import Derived.Maps.AppendAt
import Derived.OwnWalk
import Derived.Laws.BytesArg
import Derived.Laws.MakeOwn
import Derived.Laws.OwnMore
import Derived.Deep.OwnRows
import Derived.Tactics
import Derived.Lib.ConvBytes
import Derived.Laws.Slices
import Derived.WalkKit
import Derived.KernelRfl
import Derived.RowKit3
import Derived.Deep.LoopGhost
import Derived.Deep.QuietTactic
import Derived.BigQuiet
import Derived.WideLaws
import Derived.Deep.DeepCutAuto
import Derived.Deep.CutBlock
import Derived.Deep.RegionHeld3
import Derived.Laws.Rows
import Derived.Lib.AppendStr
import Derived.ArgAppend
import Derived.Laws.IdiomCopy
import Derived.OrdersHeld
import Derived.Laws.BitsLemmas
import Derived.RowKit
import Derived.Maps.OwnSet
import Derived.Maps.OwnOps
import Derived.WalkSpells
set_option linter.unusedVariables false
set_option linter.unusedSimpArgs false
namespace Go.Proofs.Ytoncignjcgjhhaa.Q
open Go.RowKit Go.Proofs.YtoncignjcgjhhaaW.PrintWords Go.Proofs.YtoncignjcgjhhaaW.PrintLast Go.Proofs.YtoncignjcgjhhaaW.PrintMore
theorem bB {P : Prop} (h : P := by repeat (first | (with_reducible first | exact HB.out | apply below_alloc | apply pw_below_drewN | apply below_drew1 | refine below_set ?_ (Aside0.out (by assumption))) | exact HB.out)) : P := h
theorem bS {w W w2 : World} (hb : Below W.heap.size W w2) (h : Below w.heap.size w W := by repeat (first | (with_reducible first | exact HB.out | apply below_alloc | apply pw_below_drewN | apply below_drew1 | refine below_set ?_ (Aside0.out (by assumption))) | exact HB.out)) : Aside0 (Below w.heap.size w w2) := ⟨below_step h hb⟩
theorem bG {w W : World} {g : Nat} (hg : g = W.heap.size) (h : Below w.heap.size w W := by repeat (first | (with_reducible first | exact HB.out | apply below_alloc | apply pw_below_drewN | apply below_drew1 | refine below_set ?_ (Aside0.out (by assumption))) | exact HB.out)) : Aside0 (w.heap.size ≤ g) := ⟨hg ▸ below_size h⟩
theorem bk {P Q : Prop} (q : Aside0 Q) (h : Q → P := by intro q_; (with_reducible repeat (first | refine blk_drewN ?_ _ | refine blk_drew ?_ | refine blk_alloc ?_ _)); exact q_) : P := h q.out
theorem bK {w w1 w2 : World} {g : Nat} {o : Obj} (q : Aside0 (w.heap[g]? = some o)) (hb : Below w1.heap.size w1 w2) (h : w.heap[g]? = some o → w1.heap[g]? = some o := by intro q_; (with_reducible repeat (first | refine blk_drewN ?_ _ | refine blk_drew ?_ | refine blk_alloc ?_ _)); exact q_) : Aside0 (w2.heap[g]? = some o) := ⟨blk_below (h q.out) hb⟩
theorem bR {P Q : Prop} (q : Aside0 Q) (h : Q → P := by intro q_; (with_reducible repeat (first | apply Kd.R_alloc | apply Kd.R_drewN | apply Kd.R_drew)); exact q_) : P := h q.out
theorem sC {P Q : Prop} (q : Aside0 Q) (h : Q → P := by intro q_; repeat (first | exact (Kd.C_below q_ HB.out) | (with_reducible refine Kd.C_alloc ?_ _) | (with_reducible refine Kd.C_drewN ?_ _) | (with_reducible refine Kd.C_drew ?_))) : P := h q.out
theorem sR {P : Prop} {α : Type} {d : Kd α} {e : TypeId} {w : World} {base : Nat} {ok : Nat → Prop} {v : Value} {xs : List α} (q : Aside0 (d.R e w base ok v xs)) (h : d.R e w base ok v xs → P := by intro q_; repeat (first | exact (Kd.R_reads' q_).2.2 | (with_reducible refine Kd.C_alloc ?_ _) | (with_reducible refine Kd.C_drewN ?_ _) | (with_reducible refine Kd.C_drew ?_))) : P := h q.out
theorem eS {P : Prop} (h : P := by first | rfl | (simp; done) | (simp [*]; done)) : P := h
theorem eW {P : Prop} (h : P := by first | rfl | (simp [errW_none, errW_some] <;> rfl) | (simp [*, errW_none, errW_some] <;> rfl)) : P := h
theorem eN {P : Prop} (h : P := by first | omega | exact Nat.le_refl _) : P := h
theorem eD {P : Prop} (h : P := by repeat (first | exact Drawn0.refl _ | apply Drawn0.step)) : P := h
theorem tA {P : Prop} (h : P := by first | (with_reducible assumption) | assumption) : P := h
theorem mL {P : Prop} (h : P := by
 repeat' first
  | (with_reducible apply ih0) | (with_reducible apply ih1) | (with_reducible apply ih2) | (with_reducible apply ih3)
  | (with_reducible apply m0) | (with_reducible apply m1) | (with_reducible apply m2) | (with_reducible apply m3) | (with_reducible apply m4) | (with_reducible apply m5) | (with_reducible apply m6) | (with_reducible apply m7)
  | (with_reducible exact LeO.refl _) | (with_reducible exact LeO.none _) | (with_reducible refine LeO.ite ?_ ?_) | (with_reducible refine LeO.bind ?_ (fun _ => ?_))
  | apply ih0 | apply ih1 | apply ih2 | apply ih3 | apply m0 | apply m1 | apply m2 | apply m3 | apply m4 | apply m5 | apply m6 | apply m7
  | exact LeO.none _ | refine LeO.ite ?_ ?_ | refine LeO.bind ?_ (fun _ => ?_)) : P := h
theorem blk3 {w : World} {g : Nat} {t : TypeId} {a b c : Value} (h : Aside0 (w.heap[g]? = some (.cells #[a, b, c] t (0, 0)))) : w.cell? ⟨g, 0, none⟩ = some a ∧ w.cell? ⟨g, 1, none⟩ = some b ∧ w.cell? ⟨g, 2, none⟩ = some c ∧ w.frozen? ⟨g, 0, none⟩ = false ∧ w.frozen? ⟨g, 1, none⟩ = false ∧ w.frozen? ⟨g, 2, none⟩ = false := ⟨(blk_cell h.out 0).trans rfl, (blk_cell h.out 1).trans rfl, (blk_cell h.out 2).trans rfl, blk_frozen h.out 0, blk_frozen h.out 1, blk_frozen h.out 2⟩
theorem blk2 {w : World} {g : Nat} {t : TypeId} {a b : Value} (h : Aside0 (w.heap[g]? = some (.cells #[a, b] t (0, 0)))) : w.cell? ⟨g, 0, none⟩ = some a ∧ w.cell? ⟨g, 1, none⟩ = some b ∧ w.frozen? ⟨g, 0, none⟩ = false ∧ w.frozen? ⟨g, 1, none⟩ = false := ⟨(blk_cell h.out 0).trans rfl, (blk_cell h.out 1).trans rfl, blk_frozen h.out 0, blk_frozen h.out 1⟩
theorem blk5 {w : World} {g : Nat} {t : TypeId} {a b c d e : Value} (h : Aside0 (w.heap[g]? = some (.cells #[a, b, c, d, e] t (0, 0)))) : w.cell? ⟨g, 0, none⟩ = some a ∧ w.cell? ⟨g, 1, none⟩ = some b ∧ w.cell? ⟨g, 2, none⟩ = some c ∧ w.cell? ⟨g, 3, none⟩ = some d ∧ w.cell? ⟨g, 4, none⟩ = some e ∧ w.frozen? ⟨g, 0, none⟩ = false ∧ w.frozen? ⟨g, 1, none⟩ = false ∧ w.frozen? ⟨g, 2, none⟩ = false ∧ w.frozen? ⟨g, 3, none⟩ = false ∧ w.frozen? ⟨g, 4, none⟩ = false := ⟨(blk_cell h.out 0).trans rfl, (blk_cell h.out 1).trans rfl, (blk_cell h.out 2).trans rfl, (blk_cell h.out 3).trans rfl, (blk_cell h.out 4).trans rfl, blk_frozen h.out 0, blk_frozen h.out 1, blk_frozen h.out 2, blk_frozen h.out 3, blk_frozen h.out 4⟩
theorem blk9 {w : World} {g : Nat} {t : TypeId} {a b c d e f i j k : Value} (h : Aside0 (w.heap[g]? = some (.cells #[a, b, c, d, e, f, i, j, k] t (0, 0)))) : w.cell? ⟨g, 0, none⟩ = some a ∧ w.cell? ⟨g, 1, none⟩ = some b ∧ w.cell? ⟨g, 2, none⟩ = some c ∧ w.cell? ⟨g, 3, none⟩ = some d ∧ w.cell? ⟨g, 4, none⟩ = some e ∧ w.cell? ⟨g, 5, none⟩ = some f ∧ w.cell? ⟨g, 6, none⟩ = some i ∧ w.cell? ⟨g, 7, none⟩ = some j ∧ w.cell? ⟨g, 8, none⟩ = some k ∧ w.frozen? ⟨g, 0, none⟩ = false ∧ w.frozen? ⟨g, 1, none⟩ = false ∧ w.frozen? ⟨g, 2, none⟩ = false ∧ w.frozen? ⟨g, 3, none⟩ = false ∧ w.frozen? ⟨g, 4, none⟩ = false ∧ w.frozen? ⟨g, 5, none⟩ = false ∧ w.frozen? ⟨g, 6, none⟩ = false ∧ w.frozen? ⟨g, 7, none⟩ = false ∧ w.frozen? ⟨g, 8, none⟩ = false := ⟨(blk_cell h.out 0).trans rfl, (blk_cell h.out 1).trans rfl, (blk_cell h.out 2).trans rfl, (blk_cell h.out 3).trans rfl, (blk_cell h.out 4).trans rfl, (blk_cell h.out 5).trans rfl, (blk_cell h.out 6).trans rfl, (blk_cell h.out 7).trans rfl, (blk_cell h.out 8).trans rfl, blk_frozen h.out 0, blk_frozen h.out 1, blk_frozen h.out 2, blk_frozen h.out 3, blk_frozen h.out 4, blk_frozen h.out 5, blk_frozen h.out 6, blk_frozen h.out 7, blk_frozen h.out 8⟩
theorem blk10 {w : World} {g : Nat} {t : TypeId} {a b c d e f i j k l : Value} (h : Aside0 (w.heap[g]? = some (.cells #[a, b, c, d, e, f, i, j, k, l] t (0, 0)))) : w.cell? ⟨g, 0, none⟩ = some a ∧ w.cell? ⟨g, 1, none⟩ = some b ∧ w.cell? ⟨g, 2, none⟩ = some c ∧ w.cell? ⟨g, 3, none⟩ = some d ∧ w.cell? ⟨g, 4, none⟩ = some e ∧ w.cell? ⟨g, 5, none⟩ = some f ∧ w.cell? ⟨g, 6, none⟩ = some i ∧ w.cell? ⟨g, 7, none⟩ = some j ∧ w.cell? ⟨g, 8, none⟩ = some k ∧ w.cell? ⟨g, 9, none⟩ = some l ∧ w.frozen? ⟨g, 0, none⟩ = false ∧ w.frozen? ⟨g, 1, none⟩ = false ∧ w.frozen? ⟨g, 2, none⟩ = false ∧ w.frozen? ⟨g, 3, none⟩ = false ∧ w.frozen? ⟨g, 4, none⟩ = false ∧ w.frozen? ⟨g, 5, none⟩ = false ∧ w.frozen? ⟨g, 6, none⟩ = false ∧ w.frozen? ⟨g, 7, none⟩ = false ∧ w.frozen? ⟨g, 8, none⟩ = false ∧ w.frozen? ⟨g, 9, none⟩ = false := ⟨(blk_cell h.out 0).trans rfl, (blk_cell h.out 1).trans rfl, (blk_cell h.out 2).trans rfl, (blk_cell h.out 3).trans rfl, (blk_cell h.out 4).trans rfl, (blk_cell h.out 5).trans rfl, (blk_cell h.out 6).trans rfl, (blk_cell h.out 7).trans rfl, (blk_cell h.out 8).trans rfl, (blk_cell h.out 9).trans rfl, blk_frozen h.out 0, blk_frozen h.out 1, blk_frozen h.out 2, blk_frozen h.out 3, blk_frozen h.out 4, blk_frozen h.out 5, blk_frozen h.out 6, blk_frozen h.out 7, blk_frozen h.out 8, blk_frozen h.out 9⟩
section
variable {P : Program} {ops : Array Oper} {rest : List Oper} {o : Oper} {a : Act} {Q : Exit → Act → World → Prop}
theorem gG (f : FuncId) {ar : Array Operand} {ts : Array TypeId} {w : World} (h : wpList P ops Q (o :: rest) a w) (ho : o.op = .call { callee := .value (.func f), args := ar, argTypes := ts } := by rfl) : wpList P ops Q (o :: rest) a w := h
theorem goA {w : World} (N : Option Tmp) {f : FuncId} {fn : Func} {ar : Array Operand} {ts : Array TypeId} (hf : P.funcs[f]? = some fn) (args : Array Value)
  (h : Calls P f args w fun e w' => ∃ v, e = .returned v ∧ wpList P ops Q rest (a.put N v) w')
  (hd : o.dst = N := by rfl) (hg : o.guard = none := by rfl) (hop : o.op = .call { callee := .value (.func f), args := ar, argTypes := ts } := by with_reducible rfl) (hname : (fn.name == "runtime.NumGoroutine") = false := by kernel_rfl) (hb : fn.body.isSome = true := by rfl)
  (hargs : ar.map a.eval = args := by (try simp only [List.map_toArray, List.map_cons, List.map_nil]); first | done | rfl | (simp only [List.length_drop, List.length_take]; rfl)) : wpList P ops Q (o :: rest) a w := goesL_ N hd hg hf hname hb args hop hargs h
end
end Go.Proofs.Ytoncignjcgjhhaa.Q
namespace Go.Proofs.Ytoncignjcgjhhaa.Q
open Go.RowKit Go.Proofs.YtoncignjcgjhhaaW.PrintWords Go.Proofs.YtoncignjcgjhhaaW.PrintLast Go.Proofs.YtoncignjcgjhhaaW.PrintMore
attribute [local go_sem] max2_int min2_int max_two min_two max_three min_three max_four min_four   -- for this text's walks alone
def errW : Option Int → Value
  | none => .nilIface
  | some c => .iface 0 (.int .i64 c)
theorem errW_none : errW none = .nilIface := rfl
theorem errW_some (c : Int) : errW (some c) = .iface 0 (.int .i64 c) := rfl
theorem info3 : (Try.prog.info? 3).map (fun i => (i.zero, i.size, i.bytes)) = some (some (.int .i64 0), 1, 8) := by kernel_rfl
theorem info63 : (Try.prog.info? 63).map (fun i => (i.zero, i.size, i.bytes)) = some (some (.agg #[(.int .i64 0), (.int .i64 0), (.int .i64 0), (.int .i64 0), (.int .i64 0), (.int .i64 0), (.int .i64 0), (.int .i64 0), (.int .i64 0)]), 9, 72) := by kernel_rfl
theorem info81 : (Try.prog.info? 81).map (fun i => (i.zero, i.size, i.bytes)) = some (some (.agg #[(.int .i64 0), (.int .i64 0), (.int .i64 0), (.int .i64 0), (.int .i64 0)]), 5, 40) := by kernel_rfl
-- the values' own types
structure S63 where
 f0 : Int
 f1 : Int
 f2 : Int
 f3 : Int
 f4 : Int
 f5 : Int
 f6 : Int
 f7 : Int
 f8 : Int
def z63 : S63 := ⟨(0 : Int), (0 : Int), (0 : Int), (0 : Int), (0 : Int), (0 : Int), (0 : Int), (0 : Int), (0 : Int)⟩
def k63 : Kd S63 := Kd.iso (Kd.pair (Kd.int .i64) (Kd.pair (Kd.int .i64) (Kd.pair (Kd.int .i64) (Kd.pair (Kd.int .i64) (Kd.pair (Kd.int .i64) (Kd.pair (Kd.int .i64) (Kd.pair (Kd.int .i64) (Kd.pair (Kd.int .i64) (Kd.int .i64))))))))) (fun x : S63 => (x.f0, x.f1, x.f2, x.f3, x.f4, x.f5, x.f6, x.f7, x.f8))
theorem k63_open {w : World} {x : S63} {cs : List Value} (h : k63.K w x cs) : cs = [.int .i64 x.f0, .int .i64 x.f1, .int .i64 x.f2, .int .i64 x.f3, .int .i64 x.f4, .int .i64 x.f5, .int .i64 x.f6, .int .i64 x.f7, .int .i64 x.f8] := by
  obtain ⟨_, _, rfl, rfl, ⟨_, _, rfl, rfl, ⟨_, _, rfl, rfl, ⟨_, _, rfl, rfl, ⟨_, _, rfl, rfl, ⟨_, _, rfl, rfl, ⟨_, _, rfl, rfl, ⟨_, _, rfl, rfl, rfl⟩⟩⟩⟩⟩⟩⟩⟩ := h
  exact rfl
theorem k63_mk (w : World) (x : S63)  : k63.K w x [.int .i64 x.f0, .int .i64 x.f1, .int .i64 x.f2, .int .i64 x.f3, .int .i64 x.f4, .int .i64 x.f5, .int .i64 x.f6, .int .i64 x.f7, .int .i64 x.f8] := ⟨[.int .i64 x.f0], [.int .i64 x.f1, .int .i64 x.f2, .int .i64 x.f3, .int .i64 x.f4, .int .i64 x.f5, .int .i64 x.f6, .int .i64 x.f7, .int .i64 x.f8], rfl, rfl, ⟨[.int .i64 x.f1], [.int .i64 x.f2, .int .i64 x.f3, .int .i64 x.f4, .int .i64 x.f5, .int .i64 x.f6, .int .i64 x.f7, .int .i64 x.f8], rfl, rfl, ⟨[.int .i64 x.f2], [.int .i64 x.f3, .int .i64 x.f4, .int .i64 x.f5, .int .i64 x.f6, .int .i64 x.f7, .int .i64 x.f8], rfl, rfl, ⟨[.int .i64 x.f3], [.int .i64 x.f4, .int .i64 x.f5, .int .i64 x.f6, .int .i64 x.f7, .int .i64 x.f8], rfl, rfl, ⟨[.int .i64 x.f4], [.int .i64 x.f5, .int .i64 x.f6, .int .i64 x.f7, .int .i64 x.f8], rfl, rfl, ⟨[.int .i64 x.f5], [.int .i64 x.f6, .int .i64 x.f7, .int .i64 x.f8], rfl, rfl, ⟨[.int .i64 x.f6], [.int .i64 x.f7, .int .i64 x.f8], rfl, rfl, ⟨[.int .i64 x.f7], [.int .i64 x.f8], rfl, rfl, rfl⟩⟩⟩⟩⟩⟩⟩⟩
def rd_T63 (xs : List S63) (i : Int) : S63 := xs.getD i.toNat z63
theorem at_T63 {w : World} {A : Option Addr} {n : Nat} {xs : List S63} (h : Kd.C k63 w A n xs) (i : Int) (h0 : 0 ≤ i) (h1 : i < n) : ∃ ad , A = some ad ∧ w.cell? (ad.add (i.toNat * 9)) = some (.int .i64 (rd_T63 xs i).f0) ∧ w.cell? ⟨(ad.add (i.toNat * 9)).block, (ad.add (i.toNat * 9)).off + 1, none⟩ = some (.int .i64 (rd_T63 xs i).f1) ∧ w.cell? ⟨(ad.add (i.toNat * 9)).block, (ad.add (i.toNat * 9)).off + 2, none⟩ = some (.int .i64 (rd_T63 xs i).f2) ∧ w.cell? ⟨(ad.add (i.toNat * 9)).block, (ad.add (i.toNat * 9)).off + 3, none⟩ = some (.int .i64 (rd_T63 xs i).f3) ∧ w.cell? ⟨(ad.add (i.toNat * 9)).block, (ad.add (i.toNat * 9)).off + 4, none⟩ = some (.int .i64 (rd_T63 xs i).f4) ∧ w.cell? ⟨(ad.add (i.toNat * 9)).block, (ad.add (i.toNat * 9)).off + 5, none⟩ = some (.int .i64 (rd_T63 xs i).f5) ∧ w.cell? ⟨(ad.add (i.toNat * 9)).block, (ad.add (i.toNat * 9)).off + 6, none⟩ = some (.int .i64 (rd_T63 xs i).f6) ∧ w.cell? ⟨(ad.add (i.toNat * 9)).block, (ad.add (i.toNat * 9)).off + 7, none⟩ = some (.int .i64 (rd_T63 xs i).f7) ∧ w.cell? ⟨(ad.add (i.toNat * 9)).block, (ad.add (i.toNat * 9)).off + 8, none⟩ = some (.int .i64 (rd_T63 xs i).f8) := by
 obtain ⟨ad, c, e, _, hK, hc0⟩ := Kd.C_get h z63 i h0 h1
 have hc : ∀ j u, c[j]? = some u → w.cell? (ad.add (i.toNat * 9 + j)) = some u := hc0
 obtain rfl := k63_open hK
 exact ⟨ad, e, hc 0 _ rfl, by rw [← add_field _ _ 1 (by omega)]; exact hc 1 _ rfl, by rw [← add_field _ _ 2 (by omega)]; exact hc 2 _ rfl, by rw [← add_field _ _ 3 (by omega)]; exact hc 3 _ rfl, by rw [← add_field _ _ 4 (by omega)]; exact hc 4 _ rfl, by rw [← add_field _ _ 5 (by omega)]; exact hc 5 _ rfl, by rw [← add_field _ _ 6 (by omega)]; exact hc 6 _ rfl, by rw [← add_field _ _ 7 (by omega)]; exact hc 7 _ rfl, by rw [← add_field _ _ 8 (by omega)]; exact hc 8 _ rfl⟩
structure S24 where
  f0 : Int
  f1 : (List S63)
structure S66 where
 f0 : Int
 f1 : Int
 f2 : Int
 f3 : Int
 f4 : Int
 f5 : Int
 f6 : Int
 f7 : Int
 f8 : S24
structure S81 where
 f0 : Int
 f1 : Int
 f2 : Int
 f3 : Int
 f4 : Int
def z81 : S81 := ⟨(0 : Int), (0 : Int), (0 : Int), (0 : Int), (0 : Int)⟩
def k81 : Kd S81 := Kd.iso (Kd.pair (Kd.int .i64) (Kd.pair (Kd.int .i64) (Kd.pair (Kd.int .i64) (Kd.pair (Kd.int .i64) (Kd.int .i64))))) (fun x : S81 => (x.f0, x.f1, x.f2, x.f3, x.f4))
theorem k81_open {w : World} {x : S81} {cs : List Value} (h : k81.K w x cs) : cs = [.int .i64 x.f0, .int .i64 x.f1, .int .i64 x.f2, .int .i64 x.f3, .int .i64 x.f4] := by
  obtain ⟨_, _, rfl, rfl, ⟨_, _, rfl, rfl, ⟨_, _, rfl, rfl, ⟨_, _, rfl, rfl, rfl⟩⟩⟩⟩ := h
  exact rfl
theorem k81_openM {w : World} {base : Nat} {ok : Nat → Prop} {x : S81} {cs : List Value} (h : k81.M w base ok x cs) : cs = [.int .i64 x.f0, .int .i64 x.f1, .int .i64 x.f2, .int .i64 x.f3, .int .i64 x.f4] := by
  obtain ⟨_, _, rfl, rfl, ⟨_, _, rfl, rfl, ⟨_, _, rfl, rfl, ⟨_, _, rfl, rfl, rfl⟩⟩⟩⟩ := h
  exact rfl
theorem k81_mkM (w : World) (base : Nat) (ok : Nat → Prop) (x : S81)  : k81.M w base ok x [.int .i64 x.f0, .int .i64 x.f1, .int .i64 x.f2, .int .i64 x.f3, .int .i64 x.f4] := ⟨[.int .i64 x.f0], [.int .i64 x.f1, .int .i64 x.f2, .int .i64 x.f3, .int .i64 x.f4], rfl, rfl, ⟨[.int .i64 x.f1], [.int .i64 x.f2, .int .i64 x.f3, .int .i64 x.f4], rfl, rfl, ⟨[.int .i64 x.f2], [.int .i64 x.f3, .int .i64 x.f4], rfl, rfl, ⟨[.int .i64 x.f3], [.int .i64 x.f4], rfl, rfl, rfl⟩⟩⟩⟩
def rd_T81 (xs : List S81) (i : Int) : S81 := xs.getD i.toNat z81
theorem at_T81 {w : World} {A : Option Addr} {n : Nat} {xs : List S81} (h : Kd.C k81 w A n xs) (i : Int) (h0 : 0 ≤ i) (h1 : i < n) : ∃ ad , A = some ad ∧ w.cell? (ad.add (i.toNat * 5)) = some (.int .i64 (rd_T81 xs i).f0) ∧ w.cell? ⟨(ad.add (i.toNat * 5)).block, (ad.add (i.toNat * 5)).off + 1, none⟩ = some (.int .i64 (rd_T81 xs i).f1) ∧ w.cell? ⟨(ad.add (i.toNat * 5)).block, (ad.add (i.toNat * 5)).off + 2, none⟩ = some (.int .i64 (rd_T81 xs i).f2) ∧ w.cell? ⟨(ad.add (i.toNat * 5)).block, (ad.add (i.toNat * 5)).off + 3, none⟩ = some (.int .i64 (rd_T81 xs i).f3) ∧ w.cell? ⟨(ad.add (i.toNat * 5)).block, (ad.add (i.toNat * 5)).off + 4, none⟩ = some (.int .i64 (rd_T81 xs i).f4) := by
 obtain ⟨ad, c, e, _, hK, hc0⟩ := Kd.C_get h z81 i h0 h1
 have hc : ∀ j u, c[j]? = some u → w.cell? (ad.add (i.toNat * 5 + j)) = some u := hc0
 obtain rfl := k81_open hK
 exact ⟨ad, e, hc 0 _ rfl, by rw [← add_field _ _ 1 (by omega)]; exact hc 1 _ rfl, by rw [← add_field _ _ 2 (by omega)]; exact hc 2 _ rfl, by rw [← add_field _ _ 3 (by omega)]; exact hc 3 _ rfl, by rw [← add_field _ _ 4 (by omega)]; exact hc 4 _ rfl⟩
end Go.Proofs.Ytoncignjcgjhhaa.Q
namespace Go.Proofs.Ytoncignjcgjhhaa.M
def leap (y : Int) : Bool := decide (y % 4 = 0 ∧ (y % 100 ≠ 0 ∨ y % 400 = 0))
def lp (y : Int) : Int := if leap y = true then 1 else 0
def mlen (y m : Int) : Int := if m = 2 then (if leap y = true then 29 else 28) else if m = 4 then 30 else if m = 6 then 30 else if m = 9 then 30 else if m = 11 then 30 else 31
def before (y : Int) : Int := 365 * (y - 1900) + ((y - 1) / 4 - (y - 1) / 100 + (y - 1) / 400) - 460
def cum (y m : Int) : Int :=
  if m ≤ 1 then 0 else if m = 2 then 31 else
  (if m = 3 then 59 else if m = 4 then 90 else if m = 5 then 120 else if m = 6 then 151 else if m = 7 then 181 else if m = 8 then 212 else if m = 9 then 243 else if m = 10 then 273 else if m = 11 then 304 else if m = 12 then 334 else 365) + lp y
def dayOf (y m d : Int) : Int := before y + cum y m + d - 1
theorem lp_01 (y : Int) : 0 ≤ lp y ∧ lp y ≤ 1 := by unfold lp; split <;> omega
theorem mlen_rng (y m : Int) : 28 ≤ mlen y m ∧ mlen y m ≤ 31 := by unfold mlen; repeat' split <;> omega
theorem mlen_lp (y : Int) : mlen y 2 = 28 + lp y := by unfold mlen lp; simp; split <;> omega
theorem cum_succ (y m : Int) (h1 : 1 ≤ m) (h2 : m ≤ 12) : cum y (m + 1) = cum y m + mlen y m := by
 have hl := mlen_lp y
 have : m = 1 ∨ m = 2 ∨ m = 3 ∨ m = 4 ∨ m = 5 ∨ m = 6 ∨ m = 7 ∨ m = 8 ∨ m = 9 ∨ m = 10 ∨ m = 11 ∨ m = 12 := by omega
 rcases this with rfl | rfl | rfl | rfl | rfl | rfl | rfl | rfl | rfl | rfl | rfl | rfl
 all_goals first | (rw [hl]; simp [cum]; done) | (simp [cum, mlen]; done) | (rw [hl]; simp [cum]; omega) | (simp [cum, mlen]; omega)
theorem before_succ (y : Int) : before (y + 1) = before y + 365 + lp y := by
 unfold before lp leap
 by_cases h : y % 4 = 0 ∧ (y % 100 ≠ 0 ∨ y % 400 = 0)
 ·
  rw [if_pos (by simpa using h)]; omega
 ·
  rw [if_neg (by simpa using h)]; omega
theorem before_1900 : before 1900 = 0 := by decide
theorem before_2200 : before 2200 = 109573 := by decide
theorem before_le {a b : Int} (h : a ≤ b) : before a + 365 * (b - a) ≤ before b := by
  unfold before; omega
theorem cum_le (y : Int) {a b : Int} (h0 : 1 ≤ a) (h : a ≤ b) (hb : b ≤ 13) : cum y a + 28 * (b - a) ≤ cum y b := by
 have := lp_01 y
 have ha : a = 1 ∨ a = 2 ∨ a = 3 ∨ a = 4 ∨ a = 5 ∨ a = 6 ∨ a = 7 ∨ a = 8 ∨ a = 9 ∨ a = 10 ∨ a = 11 ∨ a = 12 ∨ a = 13 := by omega
 have hb' : b = 1 ∨ b = 2 ∨ b = 3 ∨ b = 4 ∨ b = 5 ∨ b = 6 ∨ b = 7 ∨ b = 8 ∨ b = 9 ∨ b = 10 ∨ b = 11 ∨ b = 12 ∨ b = 13 := by omega
 unfold cum
 rcases ha with rfl | rfl | rfl | rfl | rfl | rfl | rfl | rfl | rfl | rfl | rfl | rfl | rfl <;>
  rcases hb' with rfl | rfl | rfl | rfl | rfl | rfl | rfl | rfl | rfl | rfl | rfl | rfl | rfl <;> simp <;> omega
theorem cum_1 (y : Int) : cum y 1 = 0 := by simp [cum]
theorem cum_13 (y : Int) : cum y 13 = 365 + lp y := by simp [cum]
theorem cum_rng (y m : Int) : 0 ≤ cum y m ∧ cum y m ≤ 366 := by
 have := lp_01 y
 unfold cum; repeat' split
 all_goals omega
def yearOf (n : Int) : Int := if before (1901 + n / 366) ≤ n then 1901 + n / 366 else 1900 + n / 366
def monOf (y d : Int) : Int :=
 if d < cum y 2 then 1 else if d < cum y 3 then 2 else if d < cum y 4 then 3 else if d < cum y 5 then 4 else if d < cum y 6 then 5 else if d < cum y 7 then 6 else
 if d < cum y 8 then 7 else if d < cum y 9 then 8 else if d < cum y 10 then 9 else if d < cum y 11 then 10 else if d < cum y 12 then 11 else 12
theorem yearOf_spec (n : Int) (h0 : 0 ≤ n) (h1 : n ≤ 109572) : 1900 ≤ yearOf n ∧ yearOf n ≤ 2199 ∧ before (yearOf n) ≤ n ∧ n < before (yearOf n + 1) := by
 unfold yearOf
 split
 ·
  rename_i h
  refine ⟨by omega, ?_, h, ?_⟩
  ·
   have := before_2200
   by_cases h2 : 1901 + n / 366 ≤ 2199
   ·
    exact h2
   ·
    have := before_le (a := 2200) (b := 1901 + n / 366) (by omega); omega
  ·
   unfold before; omega
 ·
  rename_i h
  refine ⟨by omega, by omega, ?_, ?_⟩
  ·
   unfold before; omega
  ·
   have e : 1900 + n / 366 + 1 = 1901 + n / 366 := by omega
   rw [e]; omega
theorem monOf_spec (y d : Int) (h0 : 0 ≤ d) (h1 : d < 365 + lp y) : 1 ≤ monOf y d ∧ monOf y d ≤ 12 ∧ cum y (monOf y d) ≤ d ∧ d < cum y (monOf y d + 1) := by
 have c1 := cum_1 y; have c13 := cum_13 y
 unfold monOf
 repeat' split
 all_goals (refine ⟨by omega, by omega, ?_, ?_⟩)
 all_goals first | omega | (rw [c1]; omega) | (show d < cum y 13; omega) | assumption
def civY (n : Int) : Int := yearOf n
def civM (n : Int) : Int := monOf (civY n) (n - before (civY n))
def civD (n : Int) : Int := n - before (civY n) - cum (civY n) (civM n) + 1
def isDate (y m d : Int) : Prop := 1900 ≤ y ∧ y ≤ 2199 ∧ 1 ≤ m ∧ m ≤ 12 ∧ 1 ≤ d ∧ d ≤ mlen y m
theorem civ_spec (n : Int) (h0 : 0 ≤ n) (h1 : n ≤ 109572) : isDate (civY n) (civM n) (civD n) ∧ dayOf (civY n) (civM n) (civD n) = n := by
 obtain ⟨a, b, c, d⟩ := yearOf_spec n h0 h1
 have hs := before_succ (yearOf n)
 obtain ⟨e, f, g, i⟩ := monOf_spec (yearOf n) (n - before (yearOf n)) (by omega) (by omega)
 have hc := cum_succ (yearOf n) _ e f
 refine ⟨⟨a, b, e, f, ?_, ?_⟩, ?_⟩
 ·
  unfold civD civM civY; omega
 ·
  unfold civD civM civY; omega
 ·
  unfold dayOf civD civM civY; omega
theorem day_rng {y m d : Int} (h : isDate y m d) : 0 ≤ dayOf y m d ∧ dayOf y m d ≤ 109572 ∧ before y ≤ dayOf y m d ∧ dayOf y m d < before (y + 1) := by
 obtain ⟨a, b, c, e, f, g⟩ := h
 have h1 := before_1900; have h2 := before_2200
 have h3 := before_le a; have h4 := before_le (show y + 1 ≤ 2200 by omega)
 have h5 := before_succ y
 have h6 := cum_le y (show (1 : Int) ≤ 1 by omega) c (by omega)
 have h7 := cum_le y (show 1 ≤ m + 1 by omega) (show m + 1 ≤ 13 by omega) (by omega)
 have h8 := cum_1 y; have h9 := cum_13 y; have h10 := cum_succ y m c e
 unfold dayOf; omega
theorem year_unique {n y z : Int} (h1 : before y ≤ n) (h2 : n < before (y + 1)) (h3 : before z ≤ n) (h4 : n < before (z + 1)) : y = z := by
 by_cases h : y < z
 ·
  have := before_le (show y + 1 ≤ z by omega); omega
 ·
  by_cases h' : z < y
  ·
   have := before_le (show z + 1 ≤ y by omega); omega
  ·
   omega
theorem mon_unique {y d a b : Int} (a1 : 1 ≤ a) (a2 : a ≤ 12) (b1 : 1 ≤ b) (b2 : b ≤ 12) (h1 : cum y a ≤ d) (h2 : d < cum y (a + 1)) (h3 : cum y b ≤ d) (h4 : d < cum y (b + 1)) : a = b := by
 by_cases h : a < b
 ·
  have := cum_le y (show 1 ≤ a + 1 by omega) (show a + 1 ≤ b by omega) (by omega); omega
 ·
  by_cases h' : b < a
  ·
   have := cum_le y (show 1 ≤ b + 1 by omega) (show b + 1 ≤ a by omega) (by omega); omega
  ·
   omega
theorem civ_unique {y m d n : Int} (h : isDate y m d) (e : dayOf y m d = n) : civY n = y ∧ civM n = m ∧ civD n = d := by
 have hr := day_rng h
 obtain ⟨hd, hn⟩ := civ_spec n (by omega) (by omega)
 have hr2 := day_rng hd
 obtain ⟨a, b, c, f, g, i⟩ := h
 obtain ⟨a', b', c', f', g', i'⟩ := hd
 rw [hn] at hr2; rw [e] at hr
 have ey : civY n = y := year_unique hr2.2.2.1 hr2.2.2.2 hr.2.2.1 hr.2.2.2
 rw [ey] at hn i'
 have s1 := cum_succ y m c f
 have s2 := cum_succ y (civM n) (by omega) (by omega)
 have em : civM n = m := by
  unfold dayOf at hn e
  exact mon_unique (y := y) (d := n - before y) c' f' c f (by omega) (by omega) (by omega) (by omega)
 refine ⟨ey, em, ?_⟩
 rw [em] at hn
 unfold dayOf at hn e; omega
def eT (y : Int) : Int :=
 let a := y % 19; let b := y / 100; let c := y % 100; let d := b / 4; let e := b % 4; let f := (b + 8) / 25; let g := (b - f + 1) / 3
 let h := (19 * a + b - d - g + 15) % 30; let i := c / 4; let k := c % 4; let l := (32 + 2 * e + 2 * i - h - k) % 7; let m := (a + 11 * h + 22 * l) / 451
 h + l - 7 * m + 114
def easterDay (y : Int) : Int := dayOf y (eT y / 31) (eT y % 31 + 1)
instance isDateDec (y m d : Int) : Decidable (isDate y m d) := inferInstanceAs (Decidable (1900 ≤ y ∧ y ≤ 2199 ∧ 1 ≤ m ∧ m ≤ 12 ∧ 1 ≤ d ∧ d ≤ mlen y m))
def easterOk (y : Int) : Bool := decide (isDate y (eT y / 31) (eT y % 31 + 1) ∧ dayOf y 3 22 ≤ easterDay y ∧ easterDay y ≤ dayOf y 4 25 ∧ easterDay y % 7 = 6)
theorem easter_all : ∀ k : Fin 300, easterOk (1900 + (k.val : Int)) = true := by decide +kernel
theorem easter_spec (y : Int) (h0 : 1900 ≤ y) (h1 : y ≤ 2199) : isDate y (eT y / 31) (eT y % 31 + 1) ∧ dayOf y 3 22 ≤ easterDay y ∧ easterDay y ≤ dayOf y 4 25 ∧ easterDay y % 7 = 6 := by
 have h := easter_all ⟨(y - 1900).toNat, by omega⟩
 have e : (1900 : Int) + (((⟨(y - 1900).toNat, by omega⟩ : Fin 300).val : Nat) : Int) = y := by simp; omega
 rw [e] at h
 exact of_decide_eq_true h
structure Rul where
 kind : Int
 month : Int
 day : Int
 n : Int
 wd : Int
 off : Int
 from_ : Int
 to_ : Int
 mv : Int
def yearsOk (r : Rul) : Bool := decide (1900 ≤ r.from_ ∧ r.from_ ≤ 2199 ∧ r.from_ ≤ r.to_ ∧ r.to_ ≤ 2199 ∧ 0 ≤ r.mv ∧ r.mv ≤ 2)
def may (r : Rul) : Bool :=
 if r.kind = 1 then decide (1 ≤ r.month ∧ r.month ≤ 12 ∧ r.n = 0 ∧ r.wd = 0 ∧ r.off = 0 ∧ 1 ≤ r.day ∧ r.day ≤ mlen 2000 r.month) && yearsOk r
 else if r.kind = 2 then decide (r.day = 0 ∧ r.off = 0 ∧ 1 ≤ r.month ∧ r.month ≤ 12 ∧ 0 ≤ r.wd ∧ r.wd ≤ 6 ∧ 1 ≤ r.n ∧ r.n ≤ 5) && yearsOk r
 else if r.kind = 3 then decide (r.month = 0 ∧ r.day = 0 ∧ r.n = 0 ∧ r.wd = 0 ∧ -100 ≤ r.off ∧ r.off ≤ 100) && yearsOk r
 else if r.kind = 4 then decide (r.month = 0 ∧ r.n = 0 ∧ r.wd = 0 ∧ r.off = 0 ∧ r.from_ = 0 ∧ r.to_ = 0 ∧ r.mv = 0 ∧ 0 ≤ r.day ∧ r.day ≤ 109572)
 else false
def chkAt : List Rul → Int → Int × Int
  | [], _ => (0, 0)
  | r :: t, i => if may r = true then chkAt t (i + 1) else (60, i)
def chk (we : Int) (l : List Rul) : Int × Int :=
  if 64 < l.length then (2, 0) else if 0 ≤ we ∧ we ≤ 126 then chkAt l 0 else (60, -1)
theorem chkAt_ok : ∀ (l : List Rul) (i : Int), (chkAt l i).1 = 0 → chkAt l i = (0, 0) ∧ ∀ r ∈ l, may r = true
 | [], _, _ => ⟨rfl, by simp⟩
 | r :: t, i, h => by
  unfold chkAt at h ⊢
  by_cases hm : may r = true
  ·
   rw [if_pos hm] at h ⊢
   obtain ⟨a, b⟩ := chkAt_ok t (i + 1) h
   exact ⟨a, by intro x hx; rcases List.mem_cons.1 hx with rfl | hx; exact hm; exact b x hx⟩
  ·
   rw [if_neg hm] at h; simp at h
theorem chk_ok {we : Int} {l : List Rul} (h : (chk we l).1 = 0) : chk we l = (0, 0) ∧ l.length ≤ 64 ∧ 0 ≤ we ∧ we ≤ 126 ∧ ∀ r ∈ l, may r = true := by
 unfold chk at h ⊢
 by_cases h1 : 64 < l.length
 ·
  rw [if_pos h1] at h; simp at h
 ·
  rw [if_neg h1] at h ⊢
  by_cases h2 : 0 ≤ we ∧ we ≤ 126
  ·
   rw [if_pos h2] at h ⊢
   obtain ⟨a, b⟩ := chkAt_ok l 0 h
   exact ⟨a, by omega, h2.1, h2.2, b⟩
  ·
   rw [if_neg h2] at h; simp at h
def off (we n : Int) : Bool := decide (we / 2 ^ ((n + 7) % 7).toNat % 2 = 1)
def movedF (we n mv : Int) : Nat → Int → Int
  | 0, k => n + k
  | f + 1, k => if off we (n + k) = false then n + k else if mv = 2 ∧ off we (n - k) = false then n - k else movedF we n mv f (k + 1)
def moved (we n mv : Int) : Int := if mv = 0 then n else if off we n = false then n else movedF we n mv 6 1
def nthDay (y m wd k : Int) : Int :=
  let first := dayOf y m 1; let d := (wd - first % 7 + 7) % 7 + 7 * (k - 1)
  if d ≥ mlen y m then first + (d - 7) else first + d
def rday (r : Rul) (y : Int) : Option Int :=
 if r.kind = 1 then (if r.day ≤ mlen y r.month then some (dayOf y r.month r.day) else none)
 else if r.kind = 2 then some (nthDay y r.month r.wd r.n)
 else if r.kind = 3 then some (easterDay y + r.off)
 else if civY r.day = y then some r.day else none
def gives (we : Int) (r : Rul) (y n : Int) : Bool :=
  if r.kind = 4 ∨ (r.from_ ≤ y ∧ y ≤ r.to_) then (match rday r y with | some x => decide (moved we x r.mv = n) | none => false) else false
def hol (we : Int) (l : List Rul) (n : Int) : Bool :=
  l.any fun r => gives we r (civY n - 1) n || gives we r (civY n) n || gives we r (civY n + 1) n
def isOpen (we : Int) (l : List Rul) (n : Int) : Bool := !off we n && !hol we l n
theorem open_near : ∀ we : Fin 127, ∀ s : Fin 7, ∃ k : Fin 7, off (we.val : Int) ((s.val : Int) + (k.val : Int)) = false := by decide +kernel
theorem off_mod (we n m : Int) (h : n % 7 = m % 7) : off we n = off we m := by
  unfold off
  rw [show (n + 7) % 7 = n % 7 from by omega, show (m + 7) % 7 = m % 7 from by omega, h]
theorem off_near (we n : Int) (h0 : 0 ≤ we) (h1 : we ≤ 126) : ∃ k : Int, 0 ≤ k ∧ k ≤ 6 ∧ off we (n + k) = false := by
 obtain ⟨k, hk⟩ := open_near ⟨we.toNat, by omega⟩ ⟨(n % 7).toNat, by omega⟩
 refine ⟨k.val, by omega, by omega, ?_⟩
 rw [← hk]
 rw [show (((⟨we.toNat, by omega⟩ : Fin 127).val : Nat) : Int) = we from by simp; omega]
 apply off_mod
 rw [show (((⟨(n % 7).toNat, by omega⟩ : Fin 7).val : Nat) : Int) = n % 7 from by simp; omega]
 omega
theorem movedF_rng (we n mv : Int) : ∀ (f : Nat) (k : Int), 0 ≤ k → n - (k + f) ≤ movedF we n mv f k ∧ movedF we n mv f k ≤ n + (k + f)
 | 0, k, h => by simp [movedF]; omega
 | f + 1, k, h => by
  have ih := movedF_rng we n mv f (k + 1) (by omega)
  unfold movedF
  split
  ·
   omega
  ·
   split
   ·
    omega
   ·
    push_cast; omega
end Go.Proofs.Ytoncignjcgjhhaa.M
namespace Go.Proofs.Ytoncignjcgjhhaa.H
open Go.RowKit Go.Maps Go.Proofs.YtoncignjcgjhhaaW.PrintWords Go.Proofs.YtoncignjcgjhhaaW.PrintLast Go.Proofs.YtoncignjcgjhhaaW.PrintMore
theorem ret_int {k : IntKind} {a b : Int} (h : a = b) : Ending.returned (.int k a) = .returned (.int k b) := by rw [h]
theorem ret_bool {a b : Bool} (h : a = b) : Ending.returned (.bool a) = .returned (.bool b) := by rw [h]
theorem off_tab : ∀ we : Fin 127, ∀ s : Fin 7, (Go.bits .and .i64 ((we.val : Int) / 2 ^ (s.val : Int).toNat) 1 == 1) = decide ((we.val : Int) / 2 ^ (s.val : Int).toNat % 2 = 1) := by decide +kernel
theorem off_bits (we n : Int) (h0 : 0 ≤ we) (h1 : we ≤ 126) : (Go.bits .and .i64 (we / 2 ^ (n % 7).toNat) 1 == 1) = M.off we n := by
 have h := off_tab ⟨we.toNat, by omega⟩ ⟨(n % 7).toNat, by omega⟩
 rw [show (((⟨we.toNat, by omega⟩ : Fin 127).val : Nat) : Int) = we from by simp; omega, show (((⟨(n % 7).toNat, by omega⟩ : Fin 7).val : Nat) : Int) = n % 7 from by simp; omega] at h
 unfold M.off
 rw [show (n + 7) % 7 = n % 7 from by omega]
 exact h
set_option maxHeartbeats 400000 in
theorem off_calls (bb : Nat) (we n : Int) (w : World) (hc : w.cell? ⟨bb, 0, none⟩ = some (.int .i64 we)) (h0 : 0 ≤ we) (h1 : we ≤ 126) (hn : -6 ≤ n) (hn2 : n ≤ 200000) :
  Calls Try.prog 107 #[.pointer (some ⟨bb, 0, none⟩), .int .i64 n] w fun e w' => e = .returned (.bool (M.off we n)) ∧ w = w' := by
 have hb := Aside0.mk (off_bits we n h0 h1)
 go_enter Try.func107, Try.ntmps107
 go_wp2
 go_ret
 exact ⟨ret_bool hb.out, rfl⟩
theorem movedF_step (we n mv : Int) (f : Nat) (k : Int) : M.movedF we n mv (f + 1) k = if M.off we (n + k) = false then n + k else if mv = 2 ∧ M.off we (n - k) = false then n - k else M.movedF we n mv f (k + 1) := rfl
def Found (we n : Int) (k : Int) : Prop := ∃ j, k ≤ j ∧ j ≤ 6 ∧ M.off we (n + j) = false
theorem found_one (we n : Int) (h0 : 0 ≤ we) (h1 : we ≤ 126) (h : M.off we n = true) : Found we n 1 := by
 obtain ⟨k, a, b, c⟩ := M.off_near we n h0 h1
 refine ⟨k, ?_, b, c⟩
 by_cases hk : k = 0
 ·
  subst hk; simp [h] at c
 ·
  omega
theorem found_next {we n k : Int} (h : Found we n k) (ho : M.off we (n + k) = true) : Found we n (k + 1) := by
 obtain ⟨j, a, b, c⟩ := h
 refine ⟨j, ?_, b, c⟩
 by_cases hk : j = k
 ·
  subst hk; simp [ho] at c
 ·
  omega
theorem found_le {we n k : Int} (h : Found we n k) : k ≤ 6 := by obtain ⟨j, a, b, c⟩ := h; omega
def Rest (we n mv k : Int) : Prop := M.movedF we n mv (7 - k).toNat k = M.movedF we n mv 6 1
theorem rest_up {we n mv k : Int} (h : Rest we n mv k) (hk : k ≤ 6) (hk1 : 1 ≤ k) (ho : M.off we (n + k) = false) : M.movedF we n mv 6 1 = n + k := by
 rw [← h]
 obtain ⟨f, hf⟩ : ∃ f, (7 - k).toNat = f + 1 := ⟨(7 - k).toNat - 1, by omega⟩
 rw [hf, movedF_step, if_pos ho]
theorem rest_down {we n k : Int} (h : Rest we n 2 k) (hk : k ≤ 6) (hk1 : 1 ≤ k) (ho : M.off we (n + k) = true) (hd : M.off we (n - k) = false) : M.movedF we n 2 6 1 = n - k := by
 rw [← h]
 obtain ⟨f, hf⟩ : ∃ f, (7 - k).toNat = f + 1 := ⟨(7 - k).toNat - 1, by omega⟩
 rw [hf, movedF_step, if_neg (by simp [ho]), if_pos ⟨rfl, hd⟩]
theorem rest_next {we n mv k : Int} (h : Rest we n mv k) (hk : k ≤ 6) (hk1 : 1 ≤ k) (ho : M.off we (n + k) = true) (hd : mv = 2 → M.off we (n - k) = true) : Rest we n mv (k + 1) := by
 unfold Rest at h ⊢
 obtain ⟨f, hf⟩ : ∃ f, (7 - k).toNat = f + 1 := ⟨(7 - k).toNat - 1, by omega⟩
 rw [← h, hf, movedF_step, if_neg (by simp [ho]), if_neg (by rintro ⟨a, b⟩; simp [hd a] at b), show (7 - (k + 1)).toNat = f from by omega]
theorem moved_0 (we n : Int) : M.moved we n 0 = n := by simp [M.moved]
theorem moved_open {we n mv : Int} (h : M.off we n = false) : M.moved we n mv = n := by unfold M.moved; split <;> simp_all
theorem moved_off {we n mv : Int} (hm : ¬ mv = 0) (h : M.off we n = true) : M.moved we n mv = M.movedF we n mv 6 1 := by unfold M.moved; rw [if_neg hm, if_neg (by simp [h])]
set_option maxHeartbeats 1000000 in
theorem moved_calls (bb : Nat) (we n mv : Int) (w : World) (hc : w.cell? ⟨bb, 0, none⟩ = some (.int .i64 we)) (h0 : 0 ≤ we) (h1 : we ≤ 126) (hn : 0 ≤ n) (hn2 : n ≤ 110000) :
  Calls Try.prog 132 #[.pointer (some ⟨bb, 0, none⟩), .int .i64 n, .int .i64 mv] w fun e w' => e = .returned (.int .i64 (M.moved we n mv)) ∧ w = w' := by
 by_cases hm : mv = 0
 ·
  subst hm
  have he := Aside0.mk (moved_0 we n)
  go_enter Try.func132, Try.ntmps132
  go_wp2_with fail
  go_ret
  exact ⟨ret_int he.out.symm, rfl⟩
 ·
  have hm0 : (mv == 0) = false := by simpa using hm
  cases ho : M.off we n with
  | false =>
   have he := Aside0.mk (moved_open (mv := mv) ho)
   have hoA := Aside0.mk ho; clear ho
   go_enter Try.func132, Try.ntmps132
   go_wp2_with (go_at_call 107; refine (off_calls _ we _ _ hc h0 h1 (by omega) (by omega)).mono ?_; rintro e w' ⟨rfl, rfl⟩; rw [hoA.out])
   go_ret
   exact ⟨ret_int he.out.symm, rfl⟩
  | true =>
   have hF := Aside0.mk (found_one we n h0 h1 ho)
   have he := Aside0.mk (moved_off hm ho)
   have hoA := Aside0.mk ho; clear ho
   go_enter Try.func132, Try.ntmps132
   go_wp2_with (go_at_call 107; refine (off_calls _ we _ _ hc h0 h1 (by omega) (by omega)).mono ?_; rintro e w' ⟨rfl, rfl⟩; rw [hoA.out])
   go_loop [7] (fun t => ∃ k : Int, 1 ≤ k ∧ k ≤ 6 ∧ t = .int .i64 k ∧ Aside0 (Found we n k) ∧ Aside0 (Rest we n mv k)) (fun t => (7 - intOf t).toNat)
   case atStart => exact ⟨1, by omega, by omega, rfl, hF, ⟨rfl⟩⟩
   case round =>
    obtain ⟨k, hk1, hk6, rfl, hf, hr⟩ := hrel
    cases hu : M.off we (n + k) with
    | false =>
     have hx := Aside0.mk (rest_up hr.out hk6 hk1 hu)
     have huA := Aside0.mk hu; clear hu
     go_wp2_with (go_at_call 107; refine (off_calls _ we _ _ hc h0 h1 (by omega) (by omega)).mono ?_; rintro e w' ⟨rfl, rfl⟩; rw [huA.out])
     go_ret
     exact ⟨ret_int (he.out.trans hx.out).symm, rfl⟩
    | true =>
     have hf1 := Aside0.mk (found_next hf.out hu)
     have hle := found_le hf1.out;have huA := Aside0.mk hu
     by_cases hm2 : mv = 2
     ·
      subst hm2
      cases hd : M.off we (n - k) with
      | false =>
       have hx := Aside0.mk (rest_down hr.out hk6 hk1 hu hd)
       have hdA := Aside0.mk hd; clear hd hu
       go_wp2_with fail
       refine (off_calls _ we _ _ hc h0 h1 (by omega) (by omega)).mono ?_; rintro e w' ⟨rfl, rfl⟩; rw [huA.out]
       go_wp2_with fail
       refine (off_calls _ we _ _ hc h0 h1 (by omega) (by omega)).mono ?_; rintro e w' ⟨rfl, rfl⟩; rw [hdA.out]
       go_wp2_with fail
       go_ret
       exact ⟨ret_int (he.out.trans hx.out).symm, rfl⟩
      | true =>
       have hx := Aside0.mk (rest_next hr.out hk6 hk1 hu (fun _ => hd))
       have hdA := Aside0.mk hd; clear hd hu
       go_wp2_with fail
       refine (off_calls _ we _ _ hc h0 h1 (by omega) (by omega)).mono ?_; rintro e w' ⟨rfl, rfl⟩; rw [huA.out]
       go_wp2_with fail
       refine (off_calls _ we _ _ hc h0 h1 (by omega) (by omega)).mono ?_; rintro e w' ⟨rfl, rfl⟩; rw [hdA.out]
       go_wp2_with fail
       go_round
       case rel => exact ⟨k + 1, by omega, by omega, by go_num, hf1, hx⟩
       case measure => simp [intOf]; omega
     ·
      have hm20 : (mv == 2) = false := by simpa using hm2
      have hx := Aside0.mk (rest_next hr.out hk6 hk1 hu (fun e => absurd e hm2))
      clear hu
      go_wp2_with fail
      refine (off_calls _ we _ _ hc h0 h1 (by omega) (by omega)).mono ?_; rintro e w' ⟨rfl, rfl⟩; rw [huA.out]
      go_wp2_with fail
      go_round
      case rel => exact ⟨k + 1, by omega, by omega, by go_num, hf1, hx⟩
      case measure => simp [intOf]; omega
end Go.Proofs.Ytoncignjcgjhhaa.H
namespace Go.Proofs.Ytoncignjcgjhhaa.Q
open Go.RowKit Go.Proofs.YtoncignjcgjhhaaW.PrintWords Go.Proofs.YtoncignjcgjhhaaW.PrintLast Go.Proofs.YtoncignjcgjhhaaW.PrintMore
attribute [local go_sem] max2_int min2_int max_two min_two max_three min_three max_four min_four   -- for this text's walks alone
def cal_within.f (a0 a1 a2 : Int) : Option (Bool) := if a0 ≥ a1 then (some (decide (a0 ≤ a2))) else (some false)
set_option maxHeartbeats 8000000 in
set_option maxRecDepth 100000 in
theorem cal_within.calls (a0 a1 a2 : Int) (r : Bool) (w : World) (h : cal_within.f a0 a1 a2 = some r) :
  Calls Try.prog 83 #[.int .i64 a0, .int .i64 a1, .int .i64 a2] w fun e w' => e = .returned (.bool r) ∧ Drawn0 w w' := by
 have H : (if a0 ≥ a1 then (some (decide (a0 ≤ a2))) else (some false)) = some r := h
 clear h
 by_cases c4 : a0 ≥ a1
 ·
  rw [if_pos c4] at H
  have c4b0 : decide (a1 ≤ a0) = true := decide_eq_true c4
  clear c4
  obtain rfl := Option.some.inj H
  go_enter Try.func83, Try.ntmps83
  go_wp2
  go_ret
  exact ⟨eS, eD⟩
 ·
  rw [if_neg c4] at H
  have c4b0 : decide (a1 ≤ a0) = false := decide_eq_false c4
  clear c4
  obtain rfl := Option.some.inj H
  go_enter Try.func83, Try.ntmps83
  go_wp2
  go_ret
  exact ⟨eS, eD⟩
def date_month.f (a0 a1 : Int) : Option (Bool) := if a0 ≥ 1900 then (if a0 ≤ 2199 then (if a1 ≥ 1 then (some (decide (a1 ≤ 12))) else (some false)) else (some false)) else (some false)
set_option maxHeartbeats 8000000 in
set_option maxRecDepth 100000 in
theorem date_month.calls (a0 a1 : Int) (r : Bool) (w : World) (h : date_month.f a0 a1 = some r) :
  Calls Try.prog 121 #[.int .i64 a0, .int .i64 a1] w fun e w' => e = .returned (.bool r) ∧ Drawn0 w w' := by
 have H : (if a0 ≥ 1900 then (if a0 ≤ 2199 then (if a1 ≥ 1 then (some (decide (a1 ≤ 12))) else (some false)) else (some false)) else (some false)) = some r := h
 clear h
 by_cases c3 : a0 ≥ 1900
 ·
  rw [if_pos c3] at H
  have c3b0 : decide (1900 ≤ a0) = true := decide_eq_true c3
  clear c3
  by_cases c4 : a0 ≤ 2199
  ·
   rw [if_pos c4] at H
   have c4b0 : decide (a0 ≤ 2199) = true := decide_eq_true c4
   clear c4
   by_cases c5 : a1 ≥ 1
   ·
    rw [if_pos c5] at H
    have c5b0 : decide (1 ≤ a1) = true := decide_eq_true c5
    clear c5
    obtain rfl := Option.some.inj H
    go_enter Try.func121, Try.ntmps121
    go_wp2
    go_ret
    exact ⟨eS, eD⟩
   ·
    rw [if_neg c5] at H
    have c5b0 : decide (1 ≤ a1) = false := decide_eq_false c5
    clear c5
    obtain rfl := Option.some.inj H
    go_enter Try.func121, Try.ntmps121
    go_wp2
    go_ret
    exact ⟨eS, eD⟩
  ·
   rw [if_neg c4] at H
   have c4b0 : decide (a0 ≤ 2199) = false := decide_eq_false c4
   clear c4
   obtain rfl := Option.some.inj H
   go_enter Try.func121, Try.ntmps121
   go_wp2
   go_ret
   exact ⟨eS, eD⟩
 ·
  rw [if_neg c3] at H
  have c3b0 : decide (1900 ≤ a0) = false := decide_eq_false c3
  clear c3
  obtain rfl := Option.some.inj H
  go_enter Try.func121, Try.ntmps121
  go_wp2
  go_ret
  exact ⟨eS, eD⟩
def date_Leap.f (a0 : Int) : Option (Bool) := if (Int.tmod a0 4) = 0 then (if (Int.tmod a0 100) = 0 then (some ((Int.tmod a0 400) == 0)) else (some true)) else (some false)
set_option maxHeartbeats 8000000 in
set_option maxRecDepth 100000 in
theorem date_Leap.calls (a0 : Int) (r : Bool) (w : World) (h : date_Leap.f a0 = some r) :
  Calls Try.prog 94 #[.int .i64 a0] w fun e w' => e = .returned (.bool r) ∧ Drawn0 w w' := by
 have H : (if (Int.tmod a0 4) = 0 then (if (Int.tmod a0 100) = 0 then (some ((Int.tmod a0 400) == 0)) else (some true)) else (some false)) = some r := h
 clear h
 by_cases c2 : (Int.tmod a0 4) = 0
 ·
  rw [if_pos c2] at H
  have c2b0 : ((Int.tmod a0 4) == 0) = true := beq_iff_eq.mpr c2
  have c2b1 : ((Int.tmod a0 4) != 0) = false := bne_eq_false_iff_eq.mpr c2
  clear c2
  by_cases c3 : (Int.tmod a0 100) = 0
  ·
   rw [if_pos c3] at H
   have c3b0 : ((Int.tmod a0 100) == 0) = true := beq_iff_eq.mpr c3
   have c3b1 : ((Int.tmod a0 100) != 0) = false := bne_eq_false_iff_eq.mpr c3
   clear c3
   obtain rfl := Option.some.inj H
   go_enter Try.func94, Try.ntmps94
   go_wp2
   go_ret
   exact ⟨eS, eD⟩
  ·
   rw [if_neg c3] at H
   have c3b0 : ((Int.tmod a0 100) == 0) = false := beq_eq_false_iff_ne.mpr c3
   have c3b1 : ((Int.tmod a0 100) != 0) = true := bne_iff_ne.mpr c3
   obtain rfl := Option.some.inj H
   go_enter Try.func94, Try.ntmps94
   go_wp2
   go_ret
   exact ⟨eS, eD⟩
 ·
  rw [if_neg c2] at H
  have c2b0 : ((Int.tmod a0 4) == 0) = false := beq_eq_false_iff_ne.mpr c2
  have c2b1 : ((Int.tmod a0 4) != 0) = true := bne_iff_ne.mpr c2
  obtain rfl := Option.some.inj H
  go_enter Try.func94, Try.ntmps94
  go_wp2
  go_ret
  exact ⟨eS, eD⟩
def date_length.f (a0 a1 : Int) : Option (Int) := if a1 = 2 then ((date_Leap.f a0).bind fun t101 => (if t101 = true then (some 29) else (some 28))) else (if a1 = 4 then (some 30) else (if a1 = 6 then (some 30) else (if a1 = 9 then (some 30) else (if a1 = 11 then (some 30) else (some 31)))))
set_option maxHeartbeats 8000000 in
set_option maxRecDepth 100000 in
theorem date_length.calls (a0 a1 r : Int) (w : World) (h : date_length.f a0 a1 = some r) :
  Calls Try.prog 122 #[.int .i64 a0, .int .i64 a1] w fun e w' => e = .returned (.int .i64 r) ∧ Drawn0 w w' := by
 have H : (if a1 = 2 then ((date_Leap.f a0).bind fun t101 => (if t101 = true then (some 29) else (some 28))) else (if a1 = 4 then (some 30) else (if a1 = 6 then (some 30) else (if a1 = 9 then (some 30) else (if a1 = 11 then (some 30) else (some 31)))))) = some r := h
 clear h
 by_cases c3 : a1 = 2
 ·
  rw [if_pos c3] at H
  have c3b0 : (a1 == 2) = true := beq_iff_eq.mpr c3
  have c3b1 : (a1 != 2) = false := bne_eq_false_iff_eq.mpr c3
  clear c3;replace H := Option.bind_eq_some_iff.mp H
  obtain ⟨t101, A40, H⟩ := H
  replace H : (if t101 = true then (some 29) else (some 28)) = some r := H
  have A4 := Aside0.mk A40;clear A40
  by_cases c5 : t101 = true
  ·
   subst c5
   have H1 : (some 29) = some r := by rw [if_pos rfl] at H; exact H
   clear H;have H := H1;clear H1
   obtain rfl := Option.some.inj H
   go_enter Try.func122, Try.ntmps122
   go_wp2_with (first | ((with_reducible refine gG 94 ?_); refine goA (some 9) Try.func94 #[.int .i64 a0] ?_; (with_reducible refine (date_Leap.calls a0 true _ A4.out).mono ?_); rintro e w' ⟨rfl, ⟨nd, rfl⟩⟩; refine ⟨_, rfl, ?_⟩))
   go_ret
   exact ⟨eS, eD⟩
  ·
   replace c5 := Bool.eq_false_iff.mpr c5;subst c5
   have H1 : (some 28) = some r := by rw [if_neg (show ¬ (false = true) by decide)] at H; exact H
   clear H;have H := H1;clear H1
   obtain rfl := Option.some.inj H
   go_enter Try.func122, Try.ntmps122
   go_wp2_with (first | ((with_reducible refine gG 94 ?_); refine goA (some 9) Try.func94 #[.int .i64 a0] ?_; (with_reducible refine (date_Leap.calls a0 false _ A4.out).mono ?_); rintro e w' ⟨rfl, ⟨nd, rfl⟩⟩; refine ⟨_, rfl, ?_⟩))
   go_ret
   exact ⟨eS, eD⟩
 ·
  rw [if_neg c3] at H
  have c3b0 : (a1 == 2) = false := beq_eq_false_iff_ne.mpr c3
  have c3b1 : (a1 != 2) = true := bne_iff_ne.mpr c3
  by_cases c6 : a1 = 4
  ·
   rw [if_pos c6] at H
   have c6b0 : (a1 == 4) = true := beq_iff_eq.mpr c6
   have c6b1 : (a1 != 4) = false := bne_eq_false_iff_eq.mpr c6
   clear c6
   obtain rfl := Option.some.inj H
   go_enter Try.func122, Try.ntmps122
   go_wp2
   go_ret
   exact ⟨eS, eD⟩
  ·
   rw [if_neg c6] at H
   have c6b0 : (a1 == 4) = false := beq_eq_false_iff_ne.mpr c6
   have c6b1 : (a1 != 4) = true := bne_iff_ne.mpr c6
   by_cases c7 : a1 = 6
   ·
    rw [if_pos c7] at H
    have c7b0 : (a1 == 6) = true := beq_iff_eq.mpr c7
    have c7b1 : (a1 != 6) = false := bne_eq_false_iff_eq.mpr c7
    clear c7
    obtain rfl := Option.some.inj H
    go_enter Try.func122, Try.ntmps122
    go_wp2
    go_ret
    exact ⟨eS, eD⟩
   ·
    rw [if_neg c7] at H
    have c7b0 : (a1 == 6) = false := beq_eq_false_iff_ne.mpr c7
    have c7b1 : (a1 != 6) = true := bne_iff_ne.mpr c7
    by_cases c8 : a1 = 9
    ·
     rw [if_pos c8] at H
     have c8b0 : (a1 == 9) = true := beq_iff_eq.mpr c8
     have c8b1 : (a1 != 9) = false := bne_eq_false_iff_eq.mpr c8
     clear c8
     obtain rfl := Option.some.inj H
     go_enter Try.func122, Try.ntmps122
     go_wp2
     go_ret
     exact ⟨eS, eD⟩
    ·
     rw [if_neg c8] at H
     have c8b0 : (a1 == 9) = false := beq_eq_false_iff_ne.mpr c8
     have c8b1 : (a1 != 9) = true := bne_iff_ne.mpr c8
     by_cases c9 : a1 = 11
     ·
      rw [if_pos c9] at H
      have c9b0 : (a1 == 11) = true := beq_iff_eq.mpr c9
      have c9b1 : (a1 != 11) = false := bne_eq_false_iff_eq.mpr c9
      clear c9
      obtain rfl := Option.some.inj H
      go_enter Try.func122, Try.ntmps122
      go_wp2
      go_ret
      exact ⟨eS, eD⟩
     ·
      rw [if_neg c9] at H
      have c9b0 : (a1 == 11) = false := beq_eq_false_iff_ne.mpr c9
      have c9b1 : (a1 != 11) = true := bne_iff_ne.mpr c9
      obtain rfl := Option.some.inj H
      go_enter Try.func122, Try.ntmps122
      go_wp2
      go_ret
      exact ⟨eS, eD⟩
def date_Length.f (a0 a1 : Int) : Option (Int × Int) := (date_month.f a0 a1).bind fun t102 => (if t102 = true then ((date_length.f a0 a1).bind fun t103 => (some (t103, 0))) else (some (0, 50)))
set_option maxHeartbeats 8000000 in
set_option maxRecDepth 100000 in
theorem date_Length.calls (a0 a1 r1 r2 : Int) (w : World) (h : date_Length.f a0 a1 = some (r1, r2)) :
  Calls Try.prog 113 #[.int .i64 a0, .int .i64 a1] w fun e w' => e = .returned (.tuple #[.int .i64 r1, .int .i64 r2]) ∧ Drawn0 w w' := by
 have H : ((date_month.f a0 a1).bind fun t102 => (if t102 = true then ((date_length.f a0 a1).bind fun t103 => (some (t103, 0))) else (some (0, 50)))) = some (r1, r2) := h
 clear h;replace H := Option.bind_eq_some_iff.mp H
 obtain ⟨t102, A30, H⟩ := H
 replace H : (if t102 = true then ((date_length.f a0 a1).bind fun t103 => (some (t103, 0))) else (some (0, 50))) = some (r1, r2) := H
 have A3 := Aside0.mk A30;clear A30
 by_cases c4 : t102 = true
 ·
  subst c4
  have H1 : ((date_length.f a0 a1).bind fun t103 => (some (t103, 0))) = some (r1, r2) := by rw [if_pos rfl] at H; exact H
  clear H;have H := H1;clear H1;replace H := Option.bind_eq_some_iff.mp H
  obtain ⟨t103, A50, H⟩ := H
  replace H : (some (t103, 0)) = some (r1, r2) := H
  have A5 := Aside0.mk A50;clear A50
  simp only [Option.some.injEq, Prod.mk.injEq] at H
  obtain ⟨rfl, rfl⟩ := H
  go_enter Try.func113, Try.ntmps113
  go_wp2_with (first | ((with_reducible refine gG 121 ?_); refine goA (some 8) Try.func121 #[.int .i64 a0, .int .i64 a1] ?_; (with_reducible refine (date_month.calls a0 a1 true _ A3.out).mono ?_); rintro e w' ⟨rfl, ⟨nd, rfl⟩⟩; refine ⟨_, rfl, ?_⟩) | ((with_reducible refine gG 122 ?_); refine goA (some 12) Try.func122 #[.int .i64 a0, .int .i64 a1] ?_; (with_reducible refine (date_length.calls a0 a1 t103 _ A5.out).mono ?_); rintro e w' ⟨rfl, ⟨nd, rfl⟩⟩; refine ⟨_, rfl, ?_⟩))
  go_ret2
  exact ⟨eS, eD⟩
 ·
  replace c4 := Bool.eq_false_iff.mpr c4;subst c4
  have H1 : (some (0, 50)) = some (r1, r2) := by rw [if_neg (show ¬ (false = true) by decide)] at H; exact H
  clear H;have H := H1;clear H1
  simp only [Option.some.injEq, Prod.mk.injEq] at H
  obtain ⟨rfl, rfl⟩ := H
  go_enter Try.func113, Try.ntmps113
  go_wp2_with (first | ((with_reducible refine gG 121 ?_); refine goA (some 8) Try.func121 #[.int .i64 a0, .int .i64 a1] ?_; (with_reducible refine (date_month.calls a0 a1 false _ A3.out).mono ?_); rintro e w' ⟨rfl, ⟨nd, rfl⟩⟩; refine ⟨_, rfl, ?_⟩))
  go_ret2
  exact ⟨eS, eD⟩
def cal_years.f (a0_0 a0_1 a0_2 a0_3 a0_4 a0_5 a0_6 a0_7 a0_8 : Int) : Option (Bool) := (cal_within.f a0_6 1900 2199).bind fun t105 => (if t105 = true then ((cal_within.f a0_7 a0_6 2199).bind fun t106 => (if t106 = true then ((cal_within.f a0_8 0 2).bind fun t107 => (some t107)) else (some false))) else (some false))
set_option maxHeartbeats 8000000 in
set_option maxRecDepth 100000 in
theorem cal_years.calls (a0_0 a0_1 a0_2 a0_3 a0_4 a0_5 a0_6 a0_7 a0_8 : Int) (r : Bool) (w : World) (h : cal_years.f a0_0 a0_1 a0_2 a0_3 a0_4 a0_5 a0_6 a0_7 a0_8 = some r) :
  Calls Try.prog 157 #[.agg #[.int .i64 a0_0, .int .i64 a0_1, .int .i64 a0_2, .int .i64 a0_3, .int .i64 a0_4, .int .i64 a0_5, .int .i64 a0_6, .int .i64 a0_7, .int .i64 a0_8]] w fun e w' => e = .returned (.bool r) ∧ Below w.heap.size w w' := by
 have hu63 := Try.underlying63
 have HB := Aside0.mk (Below.refl w.heap.size w)
 have H : ((cal_within.f a0_6 1900 2199).bind fun t105 => (if t105 = true then ((cal_within.f a0_7 a0_6 2199).bind fun t106 => (if t106 = true then ((cal_within.f a0_8 0 2).bind fun t107 => (some t107)) else (some false))) else (some false))) = some r := h
 clear h;replace H := Option.bind_eq_some_iff.mp H
 obtain ⟨t105, A20, H⟩ := H
 replace H : (if t105 = true then ((cal_within.f a0_7 a0_6 2199).bind fun t106 => (if t106 = true then ((cal_within.f a0_8 0 2).bind fun t107 => (some t107)) else (some false))) else (some false)) = some r := H
 have A2 := Aside0.mk A20;clear A20
 by_cases c3 : t105 = true
 ·
  subst c3
  have H1 : ((cal_within.f a0_7 a0_6 2199).bind fun t106 => (if t106 = true then ((cal_within.f a0_8 0 2).bind fun t107 => (some t107)) else (some false))) = some r := by rw [if_pos rfl] at H; exact H
  clear H;have H := H1;clear H1;replace H := Option.bind_eq_some_iff.mp H
  obtain ⟨t106, A40, H⟩ := H
  replace H : (if t106 = true then ((cal_within.f a0_8 0 2).bind fun t107 => (some t107)) else (some false)) = some r := H
  have A4 := Aside0.mk A40;clear A40
  by_cases c5 : t106 = true
  ·
   subst c5
   have H1 : ((cal_within.f a0_8 0 2).bind fun t107 => (some t107)) = some r := by rw [if_pos rfl] at H; exact H
   clear H;have H := H1;clear H1;replace H := Option.bind_eq_some_iff.mp H
   obtain ⟨t107, A60, H⟩ := H
   replace H : (some t107) = some r := H
   have A6 := Aside0.mk A60;clear A60
   obtain rfl := Option.some.inj H
   go_enter Try.func157, Try.ntmps157
   go_wp2_with (first | ((with_reducible refine gate_dst (N := 1) rfl ?_); refine box_event ?hg (N := 1) ?hd (cs := #[.int .i64 a0_0, .int .i64 a0_1, .int .i64 a0_2, .int .i64 a0_3, .int .i64 a0_4, .int .i64 a0_5, .int .i64 a0_6, .int .i64 a0_7, .int .i64 a0_8]) (t := 63) ?hr ?_; (case hd => rfl); (case hg => rfl); (case hr => first | (go_simp; done) | (go_simp; rfl)); intro gb104 hg w7 hbox hb; have BK104 := Aside0.mk (hbox); have GW104 := bG hg; have GE104 := bG hg; replace HB := bS hb; clear hb hbox hg; obtain ⟨_,_,_,_,_,_,_,_,_,_,_,_,_,_,_,_,_,_⟩ := blk9 BK104) | ((with_reducible refine gG 83 ?_); refine goA (some 5) Try.func83 #[.int .i64 a0_6, .int .i64 1900, .int .i64 2199] ?_; (with_reducible refine (cal_within.calls a0_6 1900 2199 true _ A2.out).mono ?_); rintro e w' ⟨rfl, ⟨nd, rfl⟩⟩; refine ⟨_, rfl, ?_⟩) | (go_at_call 83; (with_reducible refine (cal_within.calls a0_7 a0_6 2199 true _ A4.out).mono ?_); rintro e w' ⟨rfl, ⟨nd, rfl⟩⟩) | (go_at_call 83; (with_reducible refine (cal_within.calls a0_8 0 2 t107 _ A6.out).mono ?_); rintro e w' ⟨rfl, ⟨nd, rfl⟩⟩))
   go_ret
   exact ⟨eW, bB⟩
  ·
   replace c5 := Bool.eq_false_iff.mpr c5;subst c5
   have H1 : (some false) = some r := by rw [if_neg (show ¬ (false = true) by decide)] at H; exact H
   clear H;have H := H1;clear H1
   obtain rfl := Option.some.inj H
   go_enter Try.func157, Try.ntmps157
   go_wp2_with (first | ((with_reducible refine gate_dst (N := 1) rfl ?_); refine box_event ?hg (N := 1) ?hd (cs := #[.int .i64 a0_0, .int .i64 a0_1, .int .i64 a0_2, .int .i64 a0_3, .int .i64 a0_4, .int .i64 a0_5, .int .i64 a0_6, .int .i64 a0_7, .int .i64 a0_8]) (t := 63) ?hr ?_; (case hd => rfl); (case hg => rfl); (case hr => first | (go_simp; done) | (go_simp; rfl)); intro gb104 hg w9 hbox hb; have BK104 := Aside0.mk (hbox); have GW104 := bG hg; have GE104 := bG hg; replace HB := bS hb; clear hb hbox hg; obtain ⟨_,_,_,_,_,_,_,_,_,_,_,_,_,_,_,_,_,_⟩ := blk9 BK104) | ((with_reducible refine gG 83 ?_); refine goA (some 5) Try.func83 #[.int .i64 a0_6, .int .i64 1900, .int .i64 2199] ?_; (with_reducible refine (cal_within.calls a0_6 1900 2199 true _ A2.out).mono ?_); rintro e w' ⟨rfl, ⟨nd, rfl⟩⟩; refine ⟨_, rfl, ?_⟩) | (go_at_call 83; (with_reducible refine (cal_within.calls a0_7 a0_6 2199 false _ A4.out).mono ?_); rintro e w' ⟨rfl, ⟨nd, rfl⟩⟩))
   go_ret
   exact ⟨eW, bB⟩
 ·
  replace c3 := Bool.eq_false_iff.mpr c3;subst c3
  have H1 : (some false) = some r := by rw [if_neg (show ¬ (false = true) by decide)] at H; exact H
  clear H;have H := H1;clear H1
  obtain rfl := Option.some.inj H
  go_enter Try.func157, Try.ntmps157
  go_wp2_with (first | ((with_reducible refine gate_dst (N := 1) rfl ?_); refine box_event ?hg (N := 1) ?hd (cs := #[.int .i64 a0_0, .int .i64 a0_1, .int .i64 a0_2, .int .i64 a0_3, .int .i64 a0_4, .int .i64 a0_5, .int .i64 a0_6, .int .i64 a0_7, .int .i64 a0_8]) (t := 63) ?hr ?_; (case hd => rfl); (case hg => rfl); (case hr => first | (go_simp; done) | (go_simp; rfl)); intro gb104 hg w11 hbox hb; have BK104 := Aside0.mk (hbox); have GW104 := bG hg; have GE104 := bG hg; replace HB := bS hb; clear hb hbox hg; obtain ⟨_,_,_,_,_,_,_,_,_,_,_,_,_,_,_,_,_,_⟩ := blk9 BK104) | ((with_reducible refine gG 83 ?_); refine goA (some 5) Try.func83 #[.int .i64 a0_6, .int .i64 1900, .int .i64 2199] ?_; (with_reducible refine (cal_within.calls a0_6 1900 2199 false _ A2.out).mono ?_); rintro e w' ⟨rfl, ⟨nd, rfl⟩⟩; refine ⟨_, rfl, ?_⟩))
  go_ret
  exact ⟨eW, bB⟩
end Go.Proofs.Ytoncignjcgjhhaa.Q
namespace Go.Proofs.Ytoncignjcgjhhaa.Q
open Go.RowKit Go.Proofs.YtoncignjcgjhhaaW.PrintWords Go.Proofs.YtoncignjcgjhhaaW.PrintLast Go.Proofs.YtoncignjcgjhhaaW.PrintMore
attribute [local go_sem] max2_int min2_int max_two min_two max_three min_three max_four min_four   -- for this text's walks alone
def cal_fixed_may.j0 : Nat → Bool → Int → Int → Int → Int → Int → Int → Int → Int → Int → Option (Bool)
  | 0, _, _, _, _, _, _, _, _, _, _ => none
  | k + 1, x19, x109000, x109001, x109002, x109003, x109004, x109005, x109006, x109007, x109008 => if x19 = true then (some false) else ((date_Length.f 2000 x109001).bind fun bt110 => ((cal_within.f x109002 1 bt110.1).bind fun t112 => (if t112 = true then ((cal_years.f x109000 x109001 x109002 x109003 x109004 x109005 x109006 x109007 x109008).bind fun t113 => (some t113)) else (some false))))
def cal_fixed_may.f (k : Nat) (a0_0 a0_1 a0_2 a0_3 a0_4 a0_5 a0_6 a0_7 a0_8 : Int) : Option (Bool) := (cal_within.f a0_1 1 12).bind fun t109 => (if t109 = true then (cal_fixed_may.j0 k ((Go.bits .or .i64 (Go.bits .or .i64 a0_3 a0_4) a0_5) != 0) a0_0 a0_1 a0_2 a0_3 a0_4 a0_5 a0_6 a0_7 a0_8) else (cal_fixed_may.j0 k true a0_0 a0_1 a0_2 a0_3 a0_4 a0_5 a0_6 a0_7 a0_8))
set_option maxHeartbeats 8000000 in
set_option maxRecDepth 100000 in
theorem cal_fixed_may.calls (k : Nat) (a0_0 a0_1 a0_2 a0_3 a0_4 a0_5 a0_6 a0_7 a0_8 : Int) (r : Bool) (w : World) (h : cal_fixed_may.f k a0_0 a0_1 a0_2 a0_3 a0_4 a0_5 a0_6 a0_7 a0_8 = some r) :
  Calls Try.prog 156 #[.agg #[.int .i64 a0_0, .int .i64 a0_1, .int .i64 a0_2, .int .i64 a0_3, .int .i64 a0_4, .int .i64 a0_5, .int .i64 a0_6, .int .i64 a0_7, .int .i64 a0_8]] w fun e w' => e = .returned (.bool r) ∧ Below w.heap.size w w' := by
 have hu132 := Try.underlying132
 have HB := Aside0.mk (Below.refl w.heap.size w)
 have H : ((cal_within.f a0_1 1 12).bind fun t109 => (if t109 = true then (cal_fixed_may.j0 k ((Go.bits .or .i64 (Go.bits .or .i64 a0_3 a0_4) a0_5) != 0) a0_0 a0_1 a0_2 a0_3 a0_4 a0_5 a0_6 a0_7 a0_8) else (cal_fixed_may.j0 k true a0_0 a0_1 a0_2 a0_3 a0_4 a0_5 a0_6 a0_7 a0_8))) = some r := h
 clear h;have HC2 := Aside0.mk H;clear H
 go_enter Try.func156, Try.ntmps156
 go_upto_region 1 with (first | ((with_reducible refine gate_dst (N := 1) rfl ?_); refine box_event ?hg (N := 1) ?hd (cs := #[.int .i64 a0_0, .int .i64 a0_1, .int .i64 a0_2, .int .i64 a0_3, .int .i64 a0_4, .int .i64 a0_5, .int .i64 a0_6, .int .i64 a0_7, .int .i64 a0_8]) (t := 132) ?hr ?_; (case hd => rfl); (case hg => rfl); (case hr => first | (go_simp; done) | (go_simp; rfl)); intro gb108 hg w3 hbox hb; have BK108 := Aside0.mk (hbox); have GW108 := bG hg; have GE108 := bG hg; replace HB := bS hb; clear hb hbox hg))
 (try simp only [Act.put, List.setIfInBounds_toArray, List.set_cons_zero, List.set_cons_succ])
 go_cut [19] (fun v19 wc => ∃ (kq : Nat) (x19_1 : Bool), v19 = .bool x19_1 ∧ Aside0 (cal_fixed_may.j0 kq x19_1 a0_0 a0_1 a0_2 a0_3 a0_4 a0_5 a0_6 a0_7 a0_8 = some r) ∧ Aside0 (kq ≤ k) ∧ Aside0 (wc.heap[gb108]? = some (.cells #[.int .i64 a0_0, .int .i64 a0_1, .int .i64 a0_2, .int .i64 a0_3, .int .i64 a0_4, .int .i64 a0_5, .int .i64 a0_6, .int .i64 a0_7, .int .i64 a0_8] 132 (0, 0))) ∧ Aside0 (Below w.heap.size w wc))
 case first =>
  have H := HC2.out;clear HC2;replace H := Option.bind_eq_some_iff.mp H
  obtain ⟨t109, A40, H⟩ := H
  replace H : (if t109 = true then (cal_fixed_may.j0 k ((Go.bits .or .i64 (Go.bits .or .i64 a0_3 a0_4) a0_5) != 0) a0_0 a0_1 a0_2 a0_3 a0_4 a0_5 a0_6 a0_7 a0_8) else (cal_fixed_may.j0 k true a0_0 a0_1 a0_2 a0_3 a0_4 a0_5 a0_6 a0_7 a0_8)) = some r := H
  have A4 := Aside0.mk A40;clear A40
  by_cases c5 : t109 = true
  ·
   subst c5
   have H1 : (cal_fixed_may.j0 k ((Go.bits .or .i64 (Go.bits .or .i64 a0_3 a0_4) a0_5) != 0) a0_0 a0_1 a0_2 a0_3 a0_4 a0_5 a0_6 a0_7 a0_8) = some r := by rw [if_pos rfl] at H; exact H
   clear H;have H := H1;clear H1;have H' := Aside0.mk H;clear H
   obtain ⟨_,_,_,_,_,_,_,_,_,_,_,_,_,_,_,_,_,_⟩ := blk9 BK108
   go_wp2_with (first | ((with_reducible refine gG 83 ?_); refine goA (some 7) Try.func83 #[.int .i64 a0_1, .int .i64 1, .int .i64 12] ?_; (with_reducible refine (cal_within.calls a0_1 1 12 true _ A4.out).mono ?_); rintro e w' ⟨rfl, ⟨nd, rfl⟩⟩; refine ⟨_, rfl, ?_⟩))
   go_meet
   case rel => exact ⟨_, (((Go.bits .or .i64 (Go.bits .or .i64 a0_3 a0_4) a0_5) != 0)), eS, H', ⟨eN⟩, ⟨(bk BK108)⟩, ⟨bB⟩⟩
  ·
   replace c5 := Bool.eq_false_iff.mpr c5;subst c5
   have H1 : (cal_fixed_may.j0 k true a0_0 a0_1 a0_2 a0_3 a0_4 a0_5 a0_6 a0_7 a0_8) = some r := by rw [if_neg (show ¬ (false = true) by decide)] at H; exact H
   clear H;have H := H1;clear H1;have H' := Aside0.mk H;clear H
   obtain ⟨_,_,_,_,_,_,_,_,_,_,_,_,_,_,_,_,_,_⟩ := blk9 BK108
   go_wp2_with (first | ((with_reducible refine gG 83 ?_); refine goA (some 7) Try.func83 #[.int .i64 a0_1, .int .i64 1, .int .i64 12] ?_; (with_reducible refine (cal_within.calls a0_1 1 12 false _ A4.out).mono ?_); rintro e w' ⟨rfl, ⟨nd, rfl⟩⟩; refine ⟨_, rfl, ?_⟩))
   go_meet
   case rel => exact ⟨_, (true), eS, H', ⟨eN⟩, ⟨(bk BK108)⟩, ⟨bB⟩⟩
 case rest =>
  clear HC2
  obtain ⟨kq, x19_1, rfl, HA, HJ1, BK108, HB⟩ := hcut
  cases kq with
  | zero => exact absurd HA.out (by simp [cal_fixed_may.j0])
  | succ kj1 =>
   have H := HA.out;clear HA
   simp only [cal_fixed_may.j0] at H
   by_cases c8 : x19_1 = true
   ·
    subst c8
    have H1 : (some false) = some r := by rw [if_pos rfl] at H; exact H
    clear H;have H := H1;clear H1
    obtain rfl := Option.some.inj H
    go_wp2
    go_ret
    exact ⟨eW, bB⟩
   ·
    replace c8 := Bool.eq_false_iff.mpr c8;subst c8
    have H1 : ((date_Length.f 2000 a0_1).bind fun bt110 => ((cal_within.f a0_2 1 bt110.1).bind fun t112 => (if t112 = true then ((cal_years.f a0_0 a0_1 a0_2 a0_3 a0_4 a0_5 a0_6 a0_7 a0_8).bind fun t113 => (some t113)) else (some false)))) = some r := by rw [if_neg (show ¬ (false = true) by decide)] at H; exact H
    clear H;have H := H1;clear H1;replace H := Option.bind_eq_some_iff.mp H
    obtain ⟨⟨t110, t111⟩, A90, H⟩ := H
    replace H : ((cal_within.f a0_2 1 t110).bind fun t112 => (if t112 = true then ((cal_years.f a0_0 a0_1 a0_2 a0_3 a0_4 a0_5 a0_6 a0_7 a0_8).bind fun t113 => (some t113)) else (some false))) = some r := H
    have A9 := Aside0.mk A90;clear A90;replace H := Option.bind_eq_some_iff.mp H
    obtain ⟨t112, A100, H⟩ := H
    replace H : (if t112 = true then ((cal_years.f a0_0 a0_1 a0_2 a0_3 a0_4 a0_5 a0_6 a0_7 a0_8).bind fun t113 => (some t113)) else (some false)) = some r := H
    have A10 := Aside0.mk A100;clear A100
    by_cases c11 : t112 = true
    ·
     subst c11
     have H1 : ((cal_years.f a0_0 a0_1 a0_2 a0_3 a0_4 a0_5 a0_6 a0_7 a0_8).bind fun t113 => (some t113)) = some r := by rw [if_pos rfl] at H; exact H
     clear H;have H := H1;clear H1;replace H := Option.bind_eq_some_iff.mp H
     obtain ⟨t113, A120, H⟩ := H
     replace H : (some t113) = some r := H
     have A12 := Aside0.mk A120;clear A120
     obtain rfl := Option.some.inj H
     obtain ⟨_,_,_,_,_,_,_,_,_,_,_,_,_,_,_,_,_,_⟩ := blk9 BK108
     go_wp2_with (first | ((with_reducible refine gG 113 ?_); refine goA (some 23) Try.func113 #[.int .i64 2000, .int .i64 a0_1] ?_; (with_reducible refine (date_Length.calls 2000 a0_1 t110 t111 _ A9.out).mono ?_); rintro e w' ⟨rfl, ⟨nd, rfl⟩⟩; refine ⟨_, rfl, ?_⟩) | ((with_reducible refine gG 83 ?_); refine goA (some 29) Try.func83 #[.int .i64 a0_2, .int .i64 1, .int .i64 t110] ?_; (with_reducible refine (cal_within.calls a0_2 1 t110 true _ A10.out).mono ?_); rintro e w' ⟨rfl, ⟨nd, rfl⟩⟩; refine ⟨_, rfl, ?_⟩) | (go_at_call 157; (with_reducible refine (cal_years.calls a0_0 a0_1 a0_2 a0_3 a0_4 a0_5 a0_6 a0_7 a0_8 t113 _ A12.out).mono ?_); rintro e w14 ⟨rfl, hb⟩; replace BK108 := bK BK108 hb; replace HB := bS hb; (try clear hb); (try clear hb2); (try clear hk); (try clear hi)))
     go_ret
     exact ⟨eW, bB⟩
    ·
     replace c11 := Bool.eq_false_iff.mpr c11;subst c11
     have H1 : (some false) = some r := by rw [if_neg (show ¬ (false = true) by decide)] at H; exact H
     clear H;have H := H1;clear H1
     obtain rfl := Option.some.inj H
     obtain ⟨_,_,_,_,_,_,_,_,_,_,_,_,_,_,_,_,_,_⟩ := blk9 BK108
     go_wp2_with (first | ((with_reducible refine gG 113 ?_); refine goA (some 23) Try.func113 #[.int .i64 2000, .int .i64 a0_1] ?_; (with_reducible refine (date_Length.calls 2000 a0_1 t110 t111 _ A9.out).mono ?_); rintro e w' ⟨rfl, ⟨nd, rfl⟩⟩; refine ⟨_, rfl, ?_⟩) | ((with_reducible refine gG 83 ?_); refine goA (some 29) Try.func83 #[.int .i64 a0_2, .int .i64 1, .int .i64 t110] ?_; (with_reducible refine (cal_within.calls a0_2 1 t110 false _ A10.out).mono ?_); rintro e w' ⟨rfl, ⟨nd, rfl⟩⟩; refine ⟨_, rfl, ?_⟩))
     go_ret
     exact ⟨eW, bB⟩
def date_before.f (a0 : Int) : Option (Int) := some (wrap64 ((wrap64 ((wrap64 (365 * (wrap64 (a0 - 1900)))) + (wrap64 ((wrap64 ((wrap64 (Int.tdiv (wrap64 (a0 - 1)) 4)) - (wrap64 (Int.tdiv (wrap64 (a0 - 1)) 100)))) + (wrap64 (Int.tdiv (wrap64 (a0 - 1)) 400)))))) - 460))
set_option maxHeartbeats 8000000 in
set_option maxRecDepth 100000 in
theorem date_before.calls (a0 r : Int) (w : World) (h : date_before.f a0 = some r) :
  Calls Try.prog 136 #[.int .i64 a0] w fun e w' => e = .returned (.int .i64 r) ∧ Drawn0 w w' := by
 have H : (some (wrap64 ((wrap64 ((wrap64 (365 * (wrap64 (a0 - 1900)))) + (wrap64 ((wrap64 ((wrap64 (Int.tdiv (wrap64 (a0 - 1)) 4)) - (wrap64 (Int.tdiv (wrap64 (a0 - 1)) 100)))) + (wrap64 (Int.tdiv (wrap64 (a0 - 1)) 400)))))) - 460))) = some r := h
 clear h
 obtain rfl := Option.some.inj H
 go_enter Try.func136, Try.ntmps136
 go_wp2
 go_ret
 exact ⟨eS, eD⟩
def date_day.l0 : Nat → Int → Int → Int → Int → Option (Int)
  | 0, _, _, _, _ => none
  | k + 1, x0, x7, x15, x16 => if x16 < x15 then ((date_length.f x0 (wrap64 (x16 + 1))).bind fun t115 => (date_day.l0 k x0 (wrap64 (x7 + t115)) x15 (wrap64 (x16 + 1)))) else (some x7)
def date_day.f (k : Nat) (a0 a1 a2 : Int) : Option (Int) := (date_before.f a0).bind fun t114 => (date_day.l0 k a0 (wrap64 ((wrap64 (t114 + a2)) - 1)) (wrap64 (a1 - 1)) 0)
theorem date_day.mono_l : ∀ k, (∀ y0 y1 y2 y3, LeO (date_day.l0 k y0 y1 y2 y3) (date_day.l0 (k + 1) y0 y1 y2 y3))
 | 0 => fun _ _ _ _ r h => by simp [date_day.l0] at h
 | k + 1 => by
  have ih0 := date_day.mono_l k
  ·
   intro y0 y1 y2 y3
   unfold date_day.l0
   exact mL
theorem date_day.mono : ∀ a0 a1 a2 k, LeO (date_day.f k a0 a1 a2) (date_day.f (k + 1) a0 a1 a2) := by
 intro a0 a1 a2 k
 have ih0 := date_day.mono_l k
 unfold date_day.f
 exact mL
set_option maxHeartbeats 8000000 in
set_option maxRecDepth 100000 in
theorem date_day.calls (k : Nat) (a0 a1 a2 r : Int) (w : World) (h : date_day.f k a0 a1 a2 = some r) :
  Calls Try.prog 123 #[.int .i64 a0, .int .i64 a1, .int .i64 a2] w fun e w' => e = .returned (.int .i64 r) ∧ Drawn0 w w' := by
 have H : ((date_before.f a0).bind fun t114 => (date_day.l0 k a0 (wrap64 ((wrap64 (t114 + a2)) - 1)) (wrap64 (a1 - 1)) 0)) = some r := h
 clear h;replace H := Option.bind_eq_some_iff.mp H
 obtain ⟨t114, A40, H⟩ := H
 replace H : (date_day.l0 k a0 (wrap64 ((wrap64 (t114 + a2)) - 1)) (wrap64 (a1 - 1)) 0) = some r := H
 have A4 := Aside0.mk A40;clear A40;have H' := Aside0.mk H;clear H
 go_enter Try.func123, Try.ntmps123
 go_wp2_with (first | ((with_reducible refine gG 136 ?_); refine goA (some 10) Try.func136 #[.int .i64 a0] ?_; (with_reducible refine (date_before.calls a0 t114 _ A4.out).mono ?_); rintro e w' ⟨rfl, ⟨nd, rfl⟩⟩; refine ⟨_, rfl, ?_⟩))
 go_loopg [7, 16] k (fun kq v7 v16 w' => ∃ (x7_1 : Int) (x16_1 : Int), v7 = .int .i64 x7_1 ∧ v16 = .int .i64 x16_1 ∧ Aside0 (date_day.l0 kq a0 x7_1 (wrap64 (a1 - 1)) x16_1 = some r) ∧ Aside0 (kq ≤ k) ∧ Drawn0 w w')
 case atStart => exact ⟨(wrap64 ((wrap64 (t114 + a2)) - 1)), (0), eS, eS, H', ⟨Nat.le_refl _⟩, eD⟩
 case round =>
  clear H'
  obtain ⟨x7_1, x16_1, rfl, rfl, HA, HK1, ⟨m1, rfl⟩⟩ := hrel
  cases gk with
  | zero => exact absurd HA.out (by simp [date_day.l0])
  | succ k1 =>
   have H := HA.out;clear HA
   simp only [date_day.l0] at H
   by_cases c5 : x16_1 < (wrap64 (a1 - 1))
   ·
    rw [if_pos c5] at H
    have c5b0 : decide (x16_1 < (wrap64 (a1 - 1))) = true := decide_eq_true c5
    clear c5;replace H := Option.bind_eq_some_iff.mp H
    obtain ⟨t115, A60, H⟩ := H
    replace H : (date_day.l0 k1 a0 (wrap64 (x7_1 + t115)) (wrap64 (a1 - 1)) (wrap64 (x16_1 + 1))) = some r := H
    have A6 := Aside0.mk A60;clear A60;have H' := Aside0.mk H;clear H
    go_wp2_with (first | ((with_reducible refine gG 122 ?_); refine goA (some 23) Try.func122 #[.int .i64 a0, .int .i64 (wrap64 (x16_1 + 1))] ?_; (with_reducible refine (date_length.calls a0 (wrap64 (x16_1 + 1)) t115 _ A6.out).mono ?_); rintro e w' ⟨rfl, ⟨nd, rfl⟩⟩; refine ⟨_, rfl, ?_⟩))
    go_roundg k1
    case measure => have := HK1.out; omega
    case rel => exact ⟨(wrap64 (x7_1 + t115)), (wrap64 (x16_1 + 1)), eS, eS, H', ⟨by have := HK1.out; omega⟩, eD⟩
   ·
    rw [if_neg c5] at H
    have c5b0 : decide (x16_1 < (wrap64 (a1 - 1))) = false := decide_eq_false c5
    clear c5
    obtain rfl := Option.some.inj H
    go_wp2
    go_ret
    exact ⟨eS, eD⟩
end Go.Proofs.Ytoncignjcgjhhaa.Q
