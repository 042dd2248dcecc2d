/- Numbers that are handed in: a list of them, with their range; one. No condition. -/
import Derived.Test.YtkabcgmegljebaaGreatDoorRGV
set_option maxHeartbeats 8000000
set_option maxRecDepth 100000
set_option linter.unusedVariables false
set_option linter.unusedSimpArgs false
namespace Go.Proofs.YtkabcgmegljebaaGreatDoor.O
open Go.ChangeShapes Go.WideShapes Go.ChangeAt Go.RowKit Go.Deep Go.Joins
open Go.Proofs.YtkabcgmegljebaaGreatDoorW.PrintWords
open Go.Proofs.YtkabcgmegljebaaGreatDoor.Q
variable {K : Type} {enc : TypeId × Value → K} {W : World}
theorem ints_openR {n : Nat} {v : Value} {x : DataW K × List MemPlace} (h : DataW.trod enc Tryz.prog W 0 (fun _ => true) true n 49 [v] = some x) :
  ∃ (A : Option Addr) (c : Nat) (l : List Int), v = .slice A l.length c ∧ l.length ≤ 9223372036854775807 ∧ Kd.C (Kd.int .i64) W A l.length l ∧ ∀ x ∈ l, x ≤ 9223372036854775807 := by
 rcases open_slice Tryz.underlying49 h with ⟨hcs, _⟩ | ⟨a, len, cap, m, n', D, Pl, hcs, _, hl, hm, hmm, _, hel⟩
 ·
  injection hcs with hcs
  exact ⟨none, 0, [], hcs, Nat.zero_le _, ⟨rfl, by simp, fun h => absurd h (by simp)⟩, fun x hx => (by cases hx)⟩
 ·
  injection hcs with hcs
  rw [if_pos rfl] at hmm
  subst hmm
  have key : ∀ i, i < len → ∃ e : Int, W.cell? (a.add i) = some (.int .i64 e) ∧ e ≤ 9223372036854775807 := by
   intro i hi
   obtain ⟨cs', hc, ht⟩ := hel i (by omega)
   rw [cells3, Nat.mul_one] at hc
   obtain ⟨e, rfl, _, hwf⟩ := DataW.trod_int Tryz.underlying3 ht
   obtain ⟨_, _, hat⟩ := World.cells?_some hc
   have h3 := hat 0 (by decide)
   rw [Go.Deep.add_add, Nat.add_zero] at h3
   refine ⟨e, h3, ?_⟩
   have h4 : (decide (IntKind.i64.min ≤ e) && decide (e ≤ IntKind.i64.max)) = true := hwf
   rw [Bool.and_eq_true, decide_eq_true_eq, decide_eq_true_eq] at h4
   exact h4.2
  let g : Nat → Int := fun i => if hi : i < len then Classical.choose (key i hi) else 0
  have hg : ∀ i (hi : i < len), g i = Classical.choose (key i hi) := fun i hi => dif_pos hi
  have hlen : ((List.range len).map g).length = len := by simp
  have hmax : maxLen = 9223372036854775807 := rfl
  refine ⟨some a, m, (List.range len).map g, by rw [hlen]; exact hcs, by rw [hlen]; omega, ⟨rfl, by rw [hlen]; omega, fun _ => ⟨a, rfl, fun j p hp => ?_⟩⟩, fun x hx => ?_⟩
  rotate_left
  ·
   obtain ⟨j, hj, rfl⟩ := List.mem_map.1 hx
   have hj' : j < len := by simpa using hj
   have hs := Classical.choose_spec (key j hj')
   rw [← hg j hj'] at hs
   exact hs.2
  have hj : j < len := by have := (List.getElem?_eq_some_iff.1 hp).1; rw [hlen] at this; exact this
  have hp' : g j = p := by
   have := hp
   rw [List.getElem?_map, List.getElem?_range hj] at this
   exact Option.some.inj this
  have hs := Classical.choose_spec (key j hj)
  rw [← hg j hj, hp'] at hs
  refine ⟨_, rfl, rfl, fun i u hu => ?_⟩
  cases i with
  | zero =>
   show W.cell? (a.add (j * 1 + 0)) = some u
   rw [show j * 1 + 0 = j by omega]; exact hs.1.trans hu
  | succ i => simp at hu
theorem ints_argR {r : Reach} {b0 : Nat} {v : Value} {d : DataW K} {p : List MemPlace} (hv : Value.okWide Tryz.prog W r b0 49 v) (h : DataW.Trod enc Tryz.prog W 0 (fun _ => true) true 49 v d p) :
  ∃ (A : Option Addr) (c : Nat) (l : List Int), v = .slice A l.length c ∧ l.length ≤ 9223372036854775807 ∧ Kd.C (Kd.int .i64) W A l.length l ∧ ∀ x ∈ l, x ≤ 9223372036854775807 := by
 obtain ⟨m, hm⟩ := h
 rw [xlX Tryz.underlying49 hv] at hm
 exact ints_openR hm
theorem int_arg {r : Reach} {b0 : Nat} {v : Value} {d : DataW K} {p : List MemPlace} (hv : Value.okWide Tryz.prog W r b0 3 v) (h : DataW.Trod enc Tryz.prog W 0 (fun _ => true) true 3 v d p) :
  ∃ n : Int, v = .int .i64 n := by
 obtain ⟨m, hm⟩ := h
 have hc : v.cells.toList = [v] := by
  simp only [Value.okWide, Tryz.underlying3, Cell.okWide] at hv
  cases v <;> simp_all [Cell.ok, Value.cells]
 rw [hc] at hm
 obtain ⟨n, e, _, _⟩ := DataW.trod_int Tryz.underlying3 hm
 injection e with e
 exact ⟨n, e⟩
end Go.Proofs.YtkabcgmegljebaaGreatDoor.O
