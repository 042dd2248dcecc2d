/- The contract of the document's Same of code; stores into a list's elements. No condition. -/
import Derived.Test.YtkabcgmegljebaaGreatDoorRGU
import Derived.Test.YtkabcgmegljebaaGreatDoorRGR
set_option maxHeartbeats 8000000
set_option maxRecDepth 100000
set_option linter.unusedVariables false
set_option linter.unusedSimpArgs false
namespace Go.Proofs.YtkabcgmegljebaaGreatDoor.D
open Go.RowKit Go.Proofs.YtkabcgmegljebaaGreatDoorW.PrintWords Go.Proofs.YtkabcgmegljebaaGreatDoorW.PrintLast Go.Proofs.YtkabcgmegljebaaGreatDoorW.PrintMore
open Go.Proofs.YtkabcgmegljebaaGreatDoor.Q Go.Proofs.YtkabcgmegljebaaGreatDoor.H
theorem sameD_c (l : List S37) (A B : Option Addr) (c d : Nat) (w : World) (hr : Kd.C k37 w A l.length l) (hr2 : Kd.C k77 w B l.length (l.map ofO)) (hl : l.length ≤ 4096) :
  Calls Tryz.prog 15 #[.slice A l.length c, .slice B l.length d] w fun e w' => e = .returned (.bool true) ∧ Below w.heap.size w w' := by
 have HOF := am (ofD_c l A c w hr hl)
 have HR2 := am hr2;have HL := am hl
 have t0 : ((l.length : Int) != (l.length : Int)) = false := bne_self_eq_false _
 clear hr hr2 hl
 go_enter Tryz.func15, Tryz.ntmps15
 go_wp2_with (go_at_call 12; go_loud ((with_reducible refine (HOF.out).mono ?_); rintro z w1 ⟨A2, c2, rfl, hs, hb⟩; have HO := am hs; have HB := am hb; clear hs hb))
 skip
 go_loopg [6] l.length (fun kq v6 w' => ∃ i : Nat, i ≤ l.length ∧ kq + i = l.length ∧ v6 = .int .i64 (i : Int) ∧ xaA (Below w1.heap.size w1 w'))
 case atStart => exact ⟨0, Nat.zero_le _, Nat.add_zero _, rfl, ⟨Below.refl _ _⟩⟩
 case round =>
  obtain ⟨i, hi, hk, rfl, HW⟩ := hrel
  by_cases hlt : i < l.length
  ·
   have t1 : decide (i < l.length) = true := decide_eq_true hlt
   have b3 := n1t (i := i) (by have := HL.out; omega)
   obtain ⟨ad, e, q0, q1, q2, q3, q4, q5, q6, q7, q8⟩ := at_op (HO.out.below HW.out).C i hlt (by rw [List.length_map])
   subst e
   obtain ⟨ad2, e, g0, g1, g2, g3, g4, g5, g6, g7, g8⟩ := at_op (Kd.xaQ (Kd.xaQ HR2.out HB.out) HW.out) i hlt rfl
   subst e
   generalize l[i] = p at q0 q1 q2 q3 q4 q5 q6 q7 q8 g0 g1 g2 g3 g4 g5 g6 g7 g8
   have HM2 : xaA (l.length - (i + 1) < gk ∧ i + 1 ≤ l.length ∧ l.length - (i + 1) + (i + 1) = l.length) := ⟨by omega⟩
   clear hk hi
   go_wp2_with fail
   skip
   go_quiet (fail)
   clear q0 q1 q2 q3 q4 q5 q6 q7 q8 g0 g1 g2 g3 g4 g5 g6 g7 g8
   go_wp2
   skip
   go_roundg (l.length - (i + 1))
   case measure => exact HM2.out.1
   case rel => exact ⟨i + 1, HM2.out.2.1, HM2.out.2.2, by first | rfl | rw [b3], ⟨xaG HW.out _⟩⟩
  ·
   have t1 : decide (i < l.length) = false := decide_eq_false hlt
   go_wp2_with fail
   go_ret
   exact ⟨rfl, HB.out.trans (HW.out.mono HB.out.size)⟩
def Room (w : World) (A : Option Addr) (e n sz : Nat) : Prop := 0 < n → ∃ b off cur, A = some ⟨b, off, none⟩ ∧ w.heap[b]? = some (.cells cur e (0, 0)) ∧ off + n * sz ≤ cur.size
theorem room_of {α : Type} {d : Kd α} {e : TypeId} {w : World} {base n : Nat} {F : Nat → Prop} {A : Option Addr} {c : Nat} {xs : List α} (h : Sl d e w base F A c xs) (hn : n ≤ xs.length) : Room w A e n d.sz := fun h0 => by
 rcases h.row with ⟨h1, h2⟩ | ⟨b, off, cur, inner, h1, _, _, h4, h5, _⟩
 ·
  have := h.le; omega
 ·
  refine ⟨b, off, cur, h1, h4, Nat.le_trans (Nat.add_le_add_left (Nat.mul_le_mul_right _ (Nat.le_trans hn h.le)) _) h5⟩
theorem xkV {b : Nat} {t : TypeId} {w0 : World} : ∀ (vs : List Value) (k : Nat) (w : World) (cur : Array Value), w.heap[b]? = some (.cells cur t (0, 0)) → ∃ cur', (setL w b k vs).heap[b]? = some (.cells cur' t (0, 0)) ∧ cur'.size = cur.size
 | [], _, _, cur, h => ⟨cur, h, rfl⟩
 | v :: r, k, w, cur, h => by
  obtain ⟨c2, h2, h3⟩ := xkV (w0 := w0) r (k + 1) _ _ (xaN h k v rfl)
  exact ⟨c2, h2, by rw [h3]; simp⟩
theorem Room.put {w : World} {b off e n sz : Nat} (h : Room w (some ⟨b, off, none⟩) e n sz) (k : Nat) (vs : List Value) : Room (setL w b k vs) (some ⟨b, off, none⟩) e n sz := fun h0 => by
 obtain ⟨b', off', cur, h1, h2, h3⟩ := h h0
 injection h1 with h1; injection h1 with h1 h4
 subst h1 h4
 obtain ⟨c2, h5, h6⟩ := xkV (w0 := w) vs k w cur h2
 exact ⟨_, _, c2, rfl, h5, by omega⟩
theorem xdZ {w : World} {b : Nat} {t : TypeId} {cur : Array Value} (h : w.heap[b]? = some (.cells cur t (0, 0))) (k : Nat) (hk : k < cur.size) : ∃ v, w.cell? ⟨b, k, none⟩ = some v := ⟨cur[k], (xaB h k).trans (Array.getElem?_eq_getElem hk)⟩
theorem xjY {b o k : Nat} (h : own (some ⟨b, o, none⟩) k) : b = k := by
  obtain ⟨a, h1, h2⟩ := h; injection h1 with h1; subst h1; exact h2
theorem own_zero {α : Type} (d : Kd α) (e : TypeId) (w : World) : Own d e w (w.alloc (.cells #[] e)) (some ⟨w.heap.size, 0, none⟩) 0 ([] : List α) :=
  ⟨Nat.le_refl _, by simp, Or.inr ⟨w.heap.size, 0, #[], [], rfl, trivial, Nat.le_refl _, xbF w _, by simp, Reps.none _ _, by simp⟩⟩
end Go.Proofs.YtkabcgmegljebaaGreatDoor.D
