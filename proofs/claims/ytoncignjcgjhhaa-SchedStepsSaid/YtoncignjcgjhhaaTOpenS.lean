/- How a schedule that is handed in reads: its numbers, its Weekend, and its rules as a list. No condition. -/
import Derived.Test.YtoncignjcgjhhaaTGD
set_option linter.unusedVariables false
set_option linter.unusedSimpArgs false
namespace Go.Proofs.Ytoncignjcgjhhaa.O
open Go.ChangeShapes Go.WideShapes Go.ChangeAt Go.RowKit Go.Deep Go.Joins
open Go.Proofs.YtoncignjcgjhhaaW.PrintWords
open Go.Proofs.Ytoncignjcgjhhaa.Q (S63 k63 k63_mk wfL wfL_of)
variable {K : Type} {enc : TypeId × Value → K} {W : World}
theorem cells66 : Try.prog.cellsOf 66 = 10 := by kernel_rfl
theorem cells3 : Try.prog.cellsOf 3 = 1 := by kernel_rfl
theorem cells22 : Try.prog.cellsOf 22 = 1 := by kernel_rfl
set_option maxRecDepth 100000 in
theorem spec_open {r : Reach} {b0 : Nat} {v : Value} {d : DataW K} {p : List MemPlace} (hv : Value.okWide Try.prog W r b0 66 v) (h : DataW.Trod enc Try.prog W 0 (fun _ => true) true 66 v d p) :
  ∃ (s0 s1 s2 s3 s4 s5 s6 s7 we : Int) (A : Option Addr) (c : Nat) (l : List S63), v = .agg #[.int .i64 s0, .int .i64 s1, .int .i64 s2, .int .i64 s3, .int .i64 s4, .int .i64 s5, .int .i64 s6, .int .i64 s7, .int .i64 we, .slice A l.length c] ∧ l.length ≤ c ∧ Kd.C k63 W A l.length l ∧ wfL l := by
 obtain ⟨cs, rfl, hsz⟩ := okWide_struct Try.underlying66 hv
 rw [cells66] at hsz
 obtain ⟨fuel, hf⟩ := h
 obtain ⟨ls⟩ := cs
 match ls, hsz with
 | [c0, c1, c2, c3, c4, c5, c6, c7, c8, c9], _ =>
  have hf' : DataW.trod enc Try.prog W 0 (fun _ => true) true fuel 66 [c0, c1, c2, c3, c4, c5, c6, c7, c8, c9] = some (d, p) := hf
  obtain ⟨ys, n', _, _, _, hyl, hfl⟩ := DataW.trod_struct Try.underlying66 hf'
  have hy : ∀ j, j < 9 → ∃ y, ys[j]? = some y := fun j hj => ⟨_, List.getElem?_eq_getElem (by rw [hyl]; exact hj)⟩
  have key : ∀ (j : Nat) (c : Value), j < 9 → DataW.trod enc Try.prog W 0 (fun _ => true) true n' 3 [c] = ys[j]? → ∃ a, c = .int .i64 a := by
   intro j c hj h1
   obtain ⟨y, e⟩ := hy j hj
   obtain ⟨a, e0, _, _⟩ := DataW.trod_int Try.underlying3 (h1.trans e)
   exact ⟨a, (List.cons.inj e0).1⟩
  have h0 : DataW.trod enc Try.prog W 0 (fun _ => true) true n' 3 (([c0, c1, c2, c3, c4, c5, c6, c7, c8, c9].drop 0).take (Try.prog.cellsOf 3)) = ys[0]? := hfl 0 _ rfl
  rw [cells3] at h0
  have h1 : DataW.trod enc Try.prog W 0 (fun _ => true) true n' 3 (([c0, c1, c2, c3, c4, c5, c6, c7, c8, c9].drop 1).take (Try.prog.cellsOf 3)) = ys[1]? := hfl 1 _ rfl
  rw [cells3] at h1
  have h2 : DataW.trod enc Try.prog W 0 (fun _ => true) true n' 3 (([c0, c1, c2, c3, c4, c5, c6, c7, c8, c9].drop 2).take (Try.prog.cellsOf 3)) = ys[2]? := hfl 2 _ rfl
  rw [cells3] at h2
  have h3 : DataW.trod enc Try.prog W 0 (fun _ => true) true n' 3 (([c0, c1, c2, c3, c4, c5, c6, c7, c8, c9].drop 3).take (Try.prog.cellsOf 3)) = ys[3]? := hfl 3 _ rfl
  rw [cells3] at h3
  have h4 : DataW.trod enc Try.prog W 0 (fun _ => true) true n' 3 (([c0, c1, c2, c3, c4, c5, c6, c7, c8, c9].drop 4).take (Try.prog.cellsOf 3)) = ys[4]? := hfl 4 _ rfl
  rw [cells3] at h4
  have h5 : DataW.trod enc Try.prog W 0 (fun _ => true) true n' 3 (([c0, c1, c2, c3, c4, c5, c6, c7, c8, c9].drop 5).take (Try.prog.cellsOf 3)) = ys[5]? := hfl 5 _ rfl
  rw [cells3] at h5
  have h6 : DataW.trod enc Try.prog W 0 (fun _ => true) true n' 3 (([c0, c1, c2, c3, c4, c5, c6, c7, c8, c9].drop 6).take (Try.prog.cellsOf 3)) = ys[6]? := hfl 6 _ rfl
  rw [cells3] at h6
  have h7 : DataW.trod enc Try.prog W 0 (fun _ => true) true n' 3 (([c0, c1, c2, c3, c4, c5, c6, c7, c8, c9].drop 7).take (Try.prog.cellsOf 3)) = ys[7]? := hfl 7 _ rfl
  rw [cells3] at h7
  have h8 : DataW.trod enc Try.prog W 0 (fun _ => true) true n' 24 (([c0, c1, c2, c3, c4, c5, c6, c7, c8, c9].drop 8).take (Try.prog.cellsOf 24)) = ys[8]? := hfl 8 _ rfl
  rw [cells24] at h8
  obtain ⟨s0, rfl⟩ := key 0 c0 (by omega) h0
  obtain ⟨s1, rfl⟩ := key 1 c1 (by omega) h1
  obtain ⟨s2, rfl⟩ := key 2 c2 (by omega) h2
  obtain ⟨s3, rfl⟩ := key 3 c3 (by omega) h3
  obtain ⟨s4, rfl⟩ := key 4 c4 (by omega) h4
  obtain ⟨s5, rfl⟩ := key 5 c5 (by omega) h5
  obtain ⟨s6, rfl⟩ := key 6 c6 (by omega) h6
  obtain ⟨s7, rfl⟩ := key 7 c7 (by omega) h7
  obtain ⟨y8, e8⟩ := hy 8 (by omega)
  have h8' : DataW.trod enc Try.prog W 0 (fun _ => true) true n' 24 [c8, c9] = some y8 := h8.trans e8
  obtain ⟨zs, n2, _, _, _, hzl, hz⟩ := DataW.trod_struct Try.underlying24 h8'
  have g0 : DataW.trod enc Try.prog W 0 (fun _ => true) true n2 3 (([c8, c9].drop 0).take (Try.prog.cellsOf 3)) = zs[0]? := hz 0 _ rfl
  have g1 : DataW.trod enc Try.prog W 0 (fun _ => true) true n2 22 (([c8, c9].drop 1).take (Try.prog.cellsOf 22)) = zs[1]? := hz 1 _ rfl
  rw [cells3] at g0
  rw [cells22] at g1
  have hz2 : ∀ j, j < 2 → ∃ y, zs[j]? = some y := fun j hj => ⟨_, List.getElem?_eq_getElem (by rw [hzl]; exact hj)⟩
  obtain ⟨z0, f0⟩ := hz2 0 (by omega)
  obtain ⟨z1, f1⟩ := hz2 1 (by omega)
  obtain ⟨we, e0, _, _⟩ := DataW.trod_int Try.underlying3 (g0.trans f0)
  obtain rfl := (List.cons.inj e0).1
  obtain ⟨A, c, l, e1, hc, hk, hw⟩ := rules_open (v := c9) (g1.trans f1)
  subst e1
  exact ⟨s0, s1, s2, s3, s4, s5, s6, s7, we, A, c, l, rfl, hc, hk, hw⟩
end Go.Proofs.Ytoncignjcgjhhaa.O
