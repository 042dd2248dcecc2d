/- Contracts and facts of functions of the program, joined in one text. -/
import Derived.Test.YtkabcgmegljebaaGreatDoorDGA
import Derived.Test.YtkabcgmegljebaaGreatDoorDGE
set_option maxHeartbeats 8000000
set_option maxRecDepth 100000
set_option linter.unusedVariables false
set_option linter.unusedSimpArgs false
namespace Go.Proofs.YtkabcgmegljebaaGreatDoor.H
open Go.RowKit Go.Proofs.YtkabcgmegljebaaGreatDoorW.PrintWords Go.Proofs.YtkabcgmegljebaaGreatDoorW.PrintLast Go.Proofs.YtkabcgmegljebaaGreatDoorW.PrintMore
open Go.Proofs.YtkabcgmegljebaaGreatDoor.Q
def okT (t : S103) : Bool :=
  if t.f0 = 2 then numB t.f3 && inB t.f7 1 8 && inB t.f5 0 109572 else if t.f0 = 3 then numB t.f3 && numB t.f4 && inB t.f8 1 5 && inB t.f5 0 109572 && inB t.f6 0 109572 && decide (t.f5 < t.f6) && inB t.f9 1 1200 && inB t.f7 1 8 else if t.f0 = 6 then numB t.f3 else if t.f0 = 7 then inB t.f5 0 109572 && inB t.f6 0 109572 else if t.f0 = 8 then inB t.f9 1 4096 && inB t.f10 1 1200 else true
def keptT (t : S103) : S103 :=
  if t.f0 = 2 then ⟨t.f0, t.f1, t.f2, t.f3, 0, t.f5, 0, t.f7, 0, 0, 0⟩ else if t.f0 = 3 then ⟨t.f0, t.f1, t.f2, t.f3, t.f4, t.f5, t.f6, t.f7, t.f8, t.f9, 0⟩ else if t.f0 = 6 then ⟨t.f0, t.f1, t.f2, t.f3, 0, 0, 0, 0, 0, 0, 0⟩ else if t.f0 = 7 then ⟨t.f0, t.f1, t.f2, 0, 0, t.f5, t.f6, 0, 0, 0, 0⟩ else if t.f0 = 8 then ⟨t.f0, t.f1, t.f2, 0, 0, 0, 0, 0, 0, t.f9, t.f10⟩ else ⟨t.f0, t.f1, t.f2, 0, 0, 0, 0, 0, 0, 0, 0⟩
def sameT (a b : S103) : Bool := sameB a.f0 a.f1 a.f2 a.f3 a.f4 a.f5 a.f6 a.f7 a.f8 a.f9 a.f10 b.f0 b.f1 b.f2 b.f3 b.f4 b.f5 b.f6 b.f7 b.f8 b.f9 b.f10
def fieldsB (t : S103) : Bool := decide (1 ≤ t.f0 ∧ t.f0 ≤ 8) && (okT t && sameT (keptT t) t)
theorem fields1 (a1 a2 : Int) (a3 a4 : Nat) (a5 a6 a7 a8 a9 a10 : Int) (w : World) : Calls Tryz.prog 69 #[.agg #[.int .i64 1, .int .i64 a1, .int .i64 a2, .float .f64 a3, .float .f64 a4, .int .i64 a5, .int .i64 a6, .int .i64 a7, .int .i64 a8, .int .i64 a9, .int .i64 a10]] w fun e w' => e = .returned (.bool (fieldsB ⟨1, a1, a2, a3, a4, a5, a6, a7, a8, a9, a10⟩)) ∧ Below w.heap.size w w' := by
 go_enter Tryz.func69, Tryz.ntmps69
 go_wp2_with (first | (go_at_call 91; go_loud ((with_reducible refine (bare_c _ _ _ _ _ _ _ _ _ _ _ _).mono ?_); rintro e w1 ⟨rfl, hb⟩; have B1 := Aside0.mk (xaE (xaK (xbB w (.cells #[.int .i64 1, .int .i64 a1, .int .i64 a2, .float .f64 a3, .float .f64 a4, .int .i64 a5, .int .i64 a6, .int .i64 a7, .int .i64 a8, .int .i64 a9, .int .i64 a10] 103)) hb) (.cells #[.int .i64 1, .int .i64 a1, .int .i64 a2, .float .f64 0, .float .f64 0, .int .i64 0, .int .i64 0, .int .i64 0, .int .i64 0, .int .i64 0, .int .i64 0] 103)); have B3 : Aside0 ((w1.alloc (.cells #[.int .i64 1, .int .i64 a1, .int .i64 a2, .float .f64 0, .float .f64 0, .int .i64 0, .int .i64 0, .int .i64 0, .int .i64 0, .int .i64 0, .int .i64 0] 103)).heap[w1.heap.size]? = some (.cells #[.int .i64 1, .int .i64 a1, .int .i64 a2, .float .f64 0, .float .f64 0, .int .i64 0, .int .i64 0, .int .i64 0, .int .i64 0, .int .i64 0, .int .i64 0] 103)) := ⟨xbB _ _⟩; have HB := Aside0.mk (xaC ((xaC (Below.refl w.heap.size w) _).trans (hb.mono (by simp))) (.cells #[.int .i64 1, .int .i64 a1, .int .i64 a2, .float .f64 0, .float .f64 0, .int .i64 0, .int .i64 0, .int .i64 0, .int .i64 0, .int .i64 0, .int .i64 0] 103)); have HZ := Aside0.mk (show w.heap.size < w1.heap.size by have := hb.size; simp at this; omega); obtain ⟨⟨c0, c1, c2, c3, c4, c5, c6, c7, c8, c9, c10⟩, z_⟩ := blk11 B1; obtain ⟨⟨d0, d1, d2, d3, d4, d5, d6, d7, d8, d9, d10⟩, y_⟩ := blk11 B3)))
 refine (xbS _ _ _ _ _ _ _ _ _ _ _ _ _ _ _ _ _ _ _ _ _ _ _).mono ?_
 rintro e w9 ⟨rfl, hb9⟩
 have HB9 := Aside0.mk hb9;clear hb9 c0 c1 c2 c3 c4 c5 c6 c7 c8 c9 c10 z_ d0 d1 d2 d3 d4 d5 d6 d7 d8 d9 d10 y_
 go_wp2_with fail
 go_ret
 exact ⟨congrArg (fun b => Ending.returned (.bool b)) (by simp [fieldsB, okT, keptT, sameT]), HB.out.trans (HB9.out.mono HB.out.size)⟩
theorem fields2 (a1 a2 : Int) (a3 a4 : Nat) (a5 a6 a7 a8 a9 a10 : Int) (w : World) : Calls Tryz.prog 69 #[.agg #[.int .i64 2, .int .i64 a1, .int .i64 a2, .float .f64 a3, .float .f64 a4, .int .i64 a5, .int .i64 a6, .int .i64 a7, .int .i64 a8, .int .i64 a9, .int .i64 a10]] w fun e w' => e = .returned (.bool (fieldsB ⟨2, a1, a2, a3, a4, a5, a6, a7, a8, a9, a10⟩)) ∧ Below w.heap.size w w' := by
 go_enter Tryz.func69, Tryz.ntmps69
 go_wp2_with (first | (go_at_call 91; go_loud ((with_reducible refine (bare_c _ _ _ _ _ _ _ _ _ _ _ _).mono ?_); rintro e w1 ⟨rfl, hb⟩; have B1 := Aside0.mk (xaE (xaK (xbB w (.cells #[.int .i64 2, .int .i64 a1, .int .i64 a2, .float .f64 a3, .float .f64 a4, .int .i64 a5, .int .i64 a6, .int .i64 a7, .int .i64 a8, .int .i64 a9, .int .i64 a10] 103)) hb) (.cells #[.int .i64 2, .int .i64 a1, .int .i64 a2, .float .f64 0, .float .f64 0, .int .i64 0, .int .i64 0, .int .i64 0, .int .i64 0, .int .i64 0, .int .i64 0] 103)); have B3 : Aside0 ((w1.alloc (.cells #[.int .i64 2, .int .i64 a1, .int .i64 a2, .float .f64 0, .float .f64 0, .int .i64 0, .int .i64 0, .int .i64 0, .int .i64 0, .int .i64 0, .int .i64 0] 103)).heap[w1.heap.size]? = some (.cells #[.int .i64 2, .int .i64 a1, .int .i64 a2, .float .f64 0, .float .f64 0, .int .i64 0, .int .i64 0, .int .i64 0, .int .i64 0, .int .i64 0, .int .i64 0] 103)) := ⟨xbB _ _⟩; have HB := Aside0.mk (xaC ((xaC (Below.refl w.heap.size w) _).trans (hb.mono (by simp))) (.cells #[.int .i64 2, .int .i64 a1, .int .i64 a2, .float .f64 0, .float .f64 0, .int .i64 0, .int .i64 0, .int .i64 0, .int .i64 0, .int .i64 0, .int .i64 0] 103)); have HZ := Aside0.mk (show w.heap.size < w1.heap.size by have := hb.size; simp at this; omega); obtain ⟨⟨c0, c1, c2, c3, c4, c5, c6, c7, c8, c9, c10⟩, z_⟩ := blk11 B1; obtain ⟨⟨d0, d1, d2, d3, d4, d5, d6, d7, d8, d9, d10⟩, y_⟩ := blk11 B3)))
 clear c0 c1 c2 c3 c4 c5 c6 c7 c8 c9 c10 z_ d0 d1 d2 d3 d4 d5 d6 d7 d8 d9 d10 y_
 obtain ⟨b1, hb1⟩ : ∃ b, b = w.heap.size := ⟨_, rfl⟩
 obtain ⟨b3, hb3⟩ : ∃ b, b = w1.heap.size := ⟨_, rfl⟩
 have HNE : Aside0 (b1 ≠ b3 ∧ w.heap.size ≤ b3) := ⟨by have := HZ.out; omega⟩
 rw [← hb1] at B1 ⊢
 rw [← hb3] at B3 ⊢
 clear hb1 hb3 HZ
 refine xdP ?_
 refine start_ (n := 12) (S := fun w' => w'.cell? ⟨b1, 3, none⟩ = some (.float .f64 a3) ∧ w'.cell? ⟨b1, 7, none⟩ = some (.int .i64 a7) ∧ w'.cell? ⟨b1, 5, none⟩ = some (.int .i64 a5)) (ds := []) #[false, false, false, false, false, false, false, false, false, false, false, false] (by kernel_rfl) rfl rfl ⟨(xaA (xaF B1.out) 3).trans rfl, (xaA (xaF B1.out) 7).trans rfl, (xaA (xaF B1.out) 5).trans rfl⟩ (fun hHeld => ?_)
 replace B1 := Aside0.mk (xaF B1.out)
 replace B3 := Aside0.mk (xaF B3.out)
 replace HB := Aside0.mk (xaM HB.out)
 generalize (w1.alloc (.cells #[.int .i64 2, .int .i64 a1, .int .i64 a2, .float .f64 0, .float .f64 0, .int .i64 0, .int .i64 0, .int .i64 0, .int .i64 0, .int .i64 0, .int .i64 0] 103)).drew = w2 at *
 refine rP 0 ?_
 refine rT 1 ?_
 refine rP 2 ?_
 refine rT 3 ?_
 refine rP 4 ?_
 refine rT 5 ?_
 clear hHeld
 refine rP 6 ?_
 have x0 := (xaA B3.out 3).trans rfl
 have y0 := xaB B3.out 3
 refine rO 7 (fun K hK => ?_)
 refine skip_ (w1 := ?_) (by rfl) rfl ?_ ?_
 rotate_left
 ·
  go_simp
  rfl
 have r0 : (w2.setCell ⟨b3, 3, none⟩ (.float .f64 a3)).heap[b1]? = some (.cells #[.int .i64 2, .int .i64 a1, .int .i64 a2, .float .f64 a3, .float .f64 a4, .int .i64 a5, .int .i64 a6, .int .i64 a7, .int .i64 a8, .int .i64 a9, .int .i64 a10] 103 (0, 0)) := (Below.heap_setCell _ _ _ _ HNE.out.1).trans B1.out
 refine hK.out _ _ ⟨(xaA r0 3).trans rfl, (xaA r0 7).trans rfl, (xaA r0 5).trans rfl⟩ (fun hHeld => ?_)
 clear hK K x0 y0 hHeld
 have p0 : (w2.setCell ⟨b3, 3, none⟩ (.float .f64 a3)).heap[b3]? = some (.cells #[.int .i64 2, .int .i64 a1, .int .i64 a2, .float .f64 a3, .float .f64 0, .int .i64 0, .int .i64 0, .int .i64 0, .int .i64 0, .int .i64 0, .int .i64 0] 103 (0, 0)) := xaS B3.out 3 _ rfl
 refine rP 8 ?_
 have x1 := (xaA p0 7).trans rfl
 have y1 := xaB p0 7
 refine rO 9 (fun K hK => ?_)
 refine skip_ (w1 := ?_) (by rfl) rfl ?_ ?_
 rotate_left
 ·
  go_simp
  rfl
 have r1 : ((w2.setCell ⟨b3, 3, none⟩ (.float .f64 a3)).setCell ⟨b3, 7, none⟩ (.int .i64 a7)).heap[b1]? = some (.cells #[.int .i64 2, .int .i64 a1, .int .i64 a2, .float .f64 a3, .float .f64 a4, .int .i64 a5, .int .i64 a6, .int .i64 a7, .int .i64 a8, .int .i64 a9, .int .i64 a10] 103 (0, 0)) := (Below.heap_setCell _ _ _ _ HNE.out.1).trans r0
 refine hK.out _ _ ⟨(xaA r1 3).trans rfl, (xaA r1 7).trans rfl, (xaA r1 5).trans rfl⟩ (fun hHeld => ?_)
 clear hK K x1 y1 hHeld
 have p1 : ((w2.setCell ⟨b3, 3, none⟩ (.float .f64 a3)).setCell ⟨b3, 7, none⟩ (.int .i64 a7)).heap[b3]? = some (.cells #[.int .i64 2, .int .i64 a1, .int .i64 a2, .float .f64 a3, .float .f64 0, .int .i64 0, .int .i64 0, .int .i64 a7, .int .i64 0, .int .i64 0, .int .i64 0] 103 (0, 0)) := xaS p0 7 _ rfl
 refine rP 10 ?_
 have x2 := (xaA p1 5).trans rfl
 have y2 := xaB p1 5
 refine rO 11 (fun K hK => ?_)
 refine skip_ (w1 := ?_) (by rfl) rfl ?_ ?_
 rotate_left
 ·
  go_simp
  rfl
 have r2 : (((w2.setCell ⟨b3, 3, none⟩ (.float .f64 a3)).setCell ⟨b3, 7, none⟩ (.int .i64 a7)).setCell ⟨b3, 5, none⟩ (.int .i64 a5)).heap[b1]? = some (.cells #[.int .i64 2, .int .i64 a1, .int .i64 a2, .float .f64 a3, .float .f64 a4, .int .i64 a5, .int .i64 a6, .int .i64 a7, .int .i64 a8, .int .i64 a9, .int .i64 a10] 103 (0, 0)) := (Below.heap_setCell _ _ _ _ HNE.out.1).trans r1
 refine hK.out _ _ ⟨(xaA r2 3).trans rfl, (xaA r2 7).trans rfl, (xaA r2 5).trans rfl⟩ (fun hHeld => ?_)
 clear hK K x2 y2 hHeld
 have p2 : (((w2.setCell ⟨b3, 3, none⟩ (.float .f64 a3)).setCell ⟨b3, 7, none⟩ (.int .i64 a7)).setCell ⟨b3, 5, none⟩ (.int .i64 a5)).heap[b3]? = some (.cells #[.int .i64 2, .int .i64 a1, .int .i64 a2, .float .f64 a3, .float .f64 0, .int .i64 a5, .int .i64 0, .int .i64 a7, .int .i64 0, .int .i64 0, .int .i64 0] 103 (0, 0)) := xaS p1 5 _ rfl
 refine rD ?_
 have BB1 : Aside0 ((((w2.setCell ⟨b3, 3, none⟩ (.float .f64 a3)).setCell ⟨b3, 7, none⟩ (.int .i64 a7)).setCell ⟨b3, 5, none⟩ (.int .i64 a5)).heap[b1]? = some (.cells #[.int .i64 2, .int .i64 a1, .int .i64 a2, .float .f64 a3, .float .f64 a4, .int .i64 a5, .int .i64 a6, .int .i64 a7, .int .i64 a8, .int .i64 a9, .int .i64 a10] 103 (0, 0))) := ⟨r2⟩
 have HBB : Aside0 (Below w.heap.size w (((w2.setCell ⟨b3, 3, none⟩ (.float .f64 a3)).setCell ⟨b3, 7, none⟩ (.int .i64 a7)).setCell ⟨b3, 5, none⟩ (.int .i64 a5))) := ⟨xbA (xbA (xbA HB.out HNE.out.2) HNE.out.2) HNE.out.2⟩
 have BB3 := Aside0.mk p2;clear p0 r0 p1 r1 p2 r2
 generalize (((w2.setCell ⟨b3, 3, none⟩ (.float .f64 a3)).setCell ⟨b3, 7, none⟩ (.int .i64 a7)).setCell ⟨b3, 5, none⟩ (.int .i64 a5)) = w5 at *
 obtain ⟨⟨c0, c1, c2, c3, c4, c5, c6, c7, c8, c9, c10⟩, z_⟩ := blk11 BB1
 obtain ⟨⟨d0, d1, d2, d3, d4, d5, d6, d7, d8, d9, d10⟩, y_⟩ := blk11 BB3
 clear z_ y_
 by_cases q0 : numB a3 = true
 ·
  by_cases q1 : inB a7 1 8 = true
  ·
   by_cases q2 : inB a5 0 109572 = true
   ·
    go_wp2_with (first | (go_at_call 92; (with_reducible refine (xcT _ _).mono ?_); rintro e w' ⟨rfl, hw_⟩; obtain rfl := hw_.symm) | (go_at_call 93; (with_reducible refine (xcH _ _ _ _).mono ?_); rintro e w' ⟨rfl, hw_⟩; obtain rfl := hw_.symm) | (go_at_call 94; (with_reducible refine (is_c _ _).mono ?_); rintro e w' ⟨rfl, hw_⟩; obtain rfl := hw_.symm) | (go_at_call 95; go_loud ((with_reducible refine (xbS _ _ _ _ _ _ _ _ _ _ _ _ _ _ _ _ _ _ _ _ _ _ _).mono ?_); rintro e w9 ⟨rfl, hb9⟩; have HB9 := Aside0.mk hb9; clear hb9)))
    go_ret
    exact ⟨congrArg (fun b => Ending.returned (.bool b)) (by simp [fieldsB, okT, keptT, sameT, q0, q1, q2]), HBB.out.trans (HB9.out.mono HBB.out.size)⟩
   ·
    replace q2 := Bool.eq_false_iff.2 q2
    go_wp2_with (first | (go_at_call 92; (with_reducible refine (xcT _ _).mono ?_); rintro e w' ⟨rfl, hw_⟩; obtain rfl := hw_.symm) | (go_at_call 93; (with_reducible refine (xcH _ _ _ _).mono ?_); rintro e w' ⟨rfl, hw_⟩; obtain rfl := hw_.symm) | (go_at_call 94; (with_reducible refine (is_c _ _).mono ?_); rintro e w' ⟨rfl, hw_⟩; obtain rfl := hw_.symm) | (go_at_call 95; go_loud ((with_reducible refine (xbS _ _ _ _ _ _ _ _ _ _ _ _ _ _ _ _ _ _ _ _ _ _ _).mono ?_); rintro e w9 ⟨rfl, hb9⟩; have HB9 := Aside0.mk hb9; clear hb9)))
    go_ret
    exact ⟨congrArg (fun b => Ending.returned (.bool b)) (by simp [fieldsB, okT, keptT, sameT, q0, q1, q2]), HBB.out⟩
  ·
   replace q1 := Bool.eq_false_iff.2 q1
   go_wp2_with (first | (go_at_call 92; (with_reducible refine (xcT _ _).mono ?_); rintro e w' ⟨rfl, hw_⟩; obtain rfl := hw_.symm) | (go_at_call 93; (with_reducible refine (xcH _ _ _ _).mono ?_); rintro e w' ⟨rfl, hw_⟩; obtain rfl := hw_.symm) | (go_at_call 94; (with_reducible refine (is_c _ _).mono ?_); rintro e w' ⟨rfl, hw_⟩; obtain rfl := hw_.symm) | (go_at_call 95; go_loud ((with_reducible refine (xbS _ _ _ _ _ _ _ _ _ _ _ _ _ _ _ _ _ _ _ _ _ _ _).mono ?_); rintro e w9 ⟨rfl, hb9⟩; have HB9 := Aside0.mk hb9; clear hb9)))
   go_ret
   exact ⟨congrArg (fun b => Ending.returned (.bool b)) (by simp [fieldsB, okT, keptT, sameT, q0, q1]), HBB.out⟩
 ·
  replace q0 := Bool.eq_false_iff.2 q0
  go_wp2_with (first | (go_at_call 92; (with_reducible refine (xcT _ _).mono ?_); rintro e w' ⟨rfl, hw_⟩; obtain rfl := hw_.symm) | (go_at_call 93; (with_reducible refine (xcH _ _ _ _).mono ?_); rintro e w' ⟨rfl, hw_⟩; obtain rfl := hw_.symm) | (go_at_call 94; (with_reducible refine (is_c _ _).mono ?_); rintro e w' ⟨rfl, hw_⟩; obtain rfl := hw_.symm) | (go_at_call 95; go_loud ((with_reducible refine (xbS _ _ _ _ _ _ _ _ _ _ _ _ _ _ _ _ _ _ _ _ _ _ _).mono ?_); rintro e w9 ⟨rfl, hb9⟩; have HB9 := Aside0.mk hb9; clear hb9)))
  go_ret
  exact ⟨congrArg (fun b => Ending.returned (.bool b)) (by simp [fieldsB, okT, keptT, sameT, q0]), HBB.out⟩
theorem fields3 (a1 a2 : Int) (a3 a4 : Nat) (a5 a6 a7 a8 a9 a10 : Int) (w : World) : Calls Tryz.prog 69 #[.agg #[.int .i64 3, .int .i64 a1, .int .i64 a2, .float .f64 a3, .float .f64 a4, .int .i64 a5, .int .i64 a6, .int .i64 a7, .int .i64 a8, .int .i64 a9, .int .i64 a10]] w fun e w' => e = .returned (.bool (fieldsB ⟨3, a1, a2, a3, a4, a5, a6, a7, a8, a9, a10⟩)) ∧ Below w.heap.size w w' := by
 go_enter Tryz.func69, Tryz.ntmps69
 go_wp2_with (first | (go_at_call 91; go_loud ((with_reducible refine (bare_c _ _ _ _ _ _ _ _ _ _ _ _).mono ?_); rintro e w1 ⟨rfl, hb⟩; have B1 := Aside0.mk (xaE (xaK (xbB w (.cells #[.int .i64 3, .int .i64 a1, .int .i64 a2, .float .f64 a3, .float .f64 a4, .int .i64 a5, .int .i64 a6, .int .i64 a7, .int .i64 a8, .int .i64 a9, .int .i64 a10] 103)) hb) (.cells #[.int .i64 3, .int .i64 a1, .int .i64 a2, .float .f64 0, .float .f64 0, .int .i64 0, .int .i64 0, .int .i64 0, .int .i64 0, .int .i64 0, .int .i64 0] 103)); have B3 : Aside0 ((w1.alloc (.cells #[.int .i64 3, .int .i64 a1, .int .i64 a2, .float .f64 0, .float .f64 0, .int .i64 0, .int .i64 0, .int .i64 0, .int .i64 0, .int .i64 0, .int .i64 0] 103)).heap[w1.heap.size]? = some (.cells #[.int .i64 3, .int .i64 a1, .int .i64 a2, .float .f64 0, .float .f64 0, .int .i64 0, .int .i64 0, .int .i64 0, .int .i64 0, .int .i64 0, .int .i64 0] 103)) := ⟨xbB _ _⟩; have HB := Aside0.mk (xaC ((xaC (Below.refl w.heap.size w) _).trans (hb.mono (by simp))) (.cells #[.int .i64 3, .int .i64 a1, .int .i64 a2, .float .f64 0, .float .f64 0, .int .i64 0, .int .i64 0, .int .i64 0, .int .i64 0, .int .i64 0, .int .i64 0] 103)); have HZ := Aside0.mk (show w.heap.size < w1.heap.size by have := hb.size; simp at this; omega); obtain ⟨⟨c0, c1, c2, c3, c4, c5, c6, c7, c8, c9, c10⟩, z_⟩ := blk11 B1; obtain ⟨⟨d0, d1, d2, d3, d4, d5, d6, d7, d8, d9, d10⟩, y_⟩ := blk11 B3)))
 clear c0 c1 c2 c3 c4 c5 c6 c7 c8 c9 c10 z_ d0 d1 d2 d3 d4 d5 d6 d7 d8 d9 d10 y_
 obtain ⟨b1, hb1⟩ : ∃ b, b = w.heap.size := ⟨_, rfl⟩
 obtain ⟨b3, hb3⟩ : ∃ b, b = w1.heap.size := ⟨_, rfl⟩
 have HNE : Aside0 (b1 ≠ b3 ∧ w.heap.size ≤ b3) := ⟨by have := HZ.out; omega⟩
 rw [← hb1] at B1 ⊢
 rw [← hb3] at B3 ⊢
 clear hb1 hb3 HZ
 refine xdP ?_
 refine start_ (n := 28) (S := fun w' => w'.cell? ⟨b1, 3, none⟩ = some (.float .f64 a3) ∧ w'.cell? ⟨b1, 4, none⟩ = some (.float .f64 a4) ∧ w'.cell? ⟨b1, 8, none⟩ = some (.int .i64 a8) ∧ w'.cell? ⟨b1, 5, none⟩ = some (.int .i64 a5) ∧ w'.cell? ⟨b1, 6, none⟩ = some (.int .i64 a6) ∧ w'.cell? ⟨b1, 9, none⟩ = some (.int .i64 a9) ∧ w'.cell? ⟨b1, 7, none⟩ = some (.int .i64 a7)) (ds := []) #[false, false, false, false, false, false, false, false, false, false, false, false, false, false, false, false, false, false, false, false, false, false, false, false, false, false, false, false] (by kernel_rfl) rfl rfl ⟨(xaA (xaF B1.out) 3).trans rfl, (xaA (xaF B1.out) 4).trans rfl, (xaA (xaF B1.out) 8).trans rfl, (xaA (xaF B1.out) 5).trans rfl, (xaA (xaF B1.out) 6).trans rfl, (xaA (xaF B1.out) 9).trans rfl, (xaA (xaF B1.out) 7).trans rfl⟩ (fun hHeld => ?_)
 replace B1 := Aside0.mk (xaF B1.out)
 replace B3 := Aside0.mk (xaF B3.out)
 replace HB := Aside0.mk (xaM HB.out)
 generalize (w1.alloc (.cells #[.int .i64 3, .int .i64 a1, .int .i64 a2, .float .f64 0, .float .f64 0, .int .i64 0, .int .i64 0, .int .i64 0, .int .i64 0, .int .i64 0, .int .i64 0] 103)).drew = w2 at *
 refine rP 0 ?_
 refine rT 1 ?_
 refine rP 2 ?_
 refine rT 3 ?_
 refine rP 4 ?_
 refine rT 5 ?_
 refine rP 6 ?_
 refine rT 7 ?_
 refine rP 8 ?_
 refine rT 9 ?_
 refine rP 10 ?_
 refine rT 11 ?_
 refine rP 12 ?_
 refine rT 13 ?_
 clear hHeld
 refine rP 14 ?_
 have x0 := (xaA B3.out 3).trans rfl
 have y0 := xaB B3.out 3
 refine rO 15 (fun K hK => ?_)
 refine skip_ (w1 := ?_) (by rfl) rfl ?_ ?_
 rotate_left
 ·
  go_simp
  rfl
 have r0 : (w2.setCell ⟨b3, 3, none⟩ (.float .f64 a3)).heap[b1]? = some (.cells #[.int .i64 3, .int .i64 a1, .int .i64 a2, .float .f64 a3, .float .f64 a4, .int .i64 a5, .int .i64 a6, .int .i64 a7, .int .i64 a8, .int .i64 a9, .int .i64 a10] 103 (0, 0)) := (Below.heap_setCell _ _ _ _ HNE.out.1).trans B1.out
 refine hK.out _ _ ⟨(xaA r0 3).trans rfl, (xaA r0 4).trans rfl, (xaA r0 8).trans rfl, (xaA r0 5).trans rfl, (xaA r0 6).trans rfl, (xaA r0 9).trans rfl, (xaA r0 7).trans rfl⟩ (fun hHeld => ?_)
 clear hK K x0 y0 hHeld
 have p0 : (w2.setCell ⟨b3, 3, none⟩ (.float .f64 a3)).heap[b3]? = some (.cells #[.int .i64 3, .int .i64 a1, .int .i64 a2, .float .f64 a3, .float .f64 0, .int .i64 0, .int .i64 0, .int .i64 0, .int .i64 0, .int .i64 0, .int .i64 0] 103 (0, 0)) := xaS B3.out 3 _ rfl
 refine rP 16 ?_
 have x1 := (xaA p0 4).trans rfl
 have y1 := xaB p0 4
 refine rO 17 (fun K hK => ?_)
 refine skip_ (w1 := ?_) (by rfl) rfl ?_ ?_
 rotate_left
 ·
  go_simp
  rfl
 have r1 : ((w2.setCell ⟨b3, 3, none⟩ (.float .f64 a3)).setCell ⟨b3, 4, none⟩ (.float .f64 a4)).heap[b1]? = some (.cells #[.int .i64 3, .int .i64 a1, .int .i64 a2, .float .f64 a3, .float .f64 a4, .int .i64 a5, .int .i64 a6, .int .i64 a7, .int .i64 a8, .int .i64 a9, .int .i64 a10] 103 (0, 0)) := (Below.heap_setCell _ _ _ _ HNE.out.1).trans r0
 refine hK.out _ _ ⟨(xaA r1 3).trans rfl, (xaA r1 4).trans rfl, (xaA r1 8).trans rfl, (xaA r1 5).trans rfl, (xaA r1 6).trans rfl, (xaA r1 9).trans rfl, (xaA r1 7).trans rfl⟩ (fun hHeld => ?_)
 clear hK K x1 y1 hHeld
 have p1 : ((w2.setCell ⟨b3, 3, none⟩ (.float .f64 a3)).setCell ⟨b3, 4, none⟩ (.float .f64 a4)).heap[b3]? = some (.cells #[.int .i64 3, .int .i64 a1, .int .i64 a2, .float .f64 a3, .float .f64 a4, .int .i64 0, .int .i64 0, .int .i64 0, .int .i64 0, .int .i64 0, .int .i64 0] 103 (0, 0)) := xaS p0 4 _ rfl
 refine rP 18 ?_
 have x2 := (xaA p1 8).trans rfl
 have y2 := xaB p1 8
 refine rO 19 (fun K hK => ?_)
 refine skip_ (w1 := ?_) (by rfl) rfl ?_ ?_
 rotate_left
 ·
  go_simp
  rfl
 have r2 : (((w2.setCell ⟨b3, 3, none⟩ (.float .f64 a3)).setCell ⟨b3, 4, none⟩ (.float .f64 a4)).setCell ⟨b3, 8, none⟩ (.int .i64 a8)).heap[b1]? = some (.cells #[.int .i64 3, .int .i64 a1, .int .i64 a2, .float .f64 a3, .float .f64 a4, .int .i64 a5, .int .i64 a6, .int .i64 a7, .int .i64 a8, .int .i64 a9, .int .i64 a10] 103 (0, 0)) := (Below.heap_setCell _ _ _ _ HNE.out.1).trans r1
 refine hK.out _ _ ⟨(xaA r2 3).trans rfl, (xaA r2 4).trans rfl, (xaA r2 8).trans rfl, (xaA r2 5).trans rfl, (xaA r2 6).trans rfl, (xaA r2 9).trans rfl, (xaA r2 7).trans rfl⟩ (fun hHeld => ?_)
 clear hK K x2 y2 hHeld
 have p2 : (((w2.setCell ⟨b3, 3, none⟩ (.float .f64 a3)).setCell ⟨b3, 4, none⟩ (.float .f64 a4)).setCell ⟨b3, 8, none⟩ (.int .i64 a8)).heap[b3]? = some (.cells #[.int .i64 3, .int .i64 a1, .int .i64 a2, .float .f64 a3, .float .f64 a4, .int .i64 0, .int .i64 0, .int .i64 0, .int .i64 a8, .int .i64 0, .int .i64 0] 103 (0, 0)) := xaS p1 8 _ rfl
 refine rP 20 ?_
 have x3 := (xaA p2 5).trans rfl
 have y3 := xaB p2 5
 refine rO 21 (fun K hK => ?_)
 refine skip_ (w1 := ?_) (by rfl) rfl ?_ ?_
 rotate_left
 ·
  go_simp
  rfl
 have r3 : ((((w2.setCell ⟨b3, 3, none⟩ (.float .f64 a3)).setCell ⟨b3, 4, none⟩ (.float .f64 a4)).setCell ⟨b3, 8, none⟩ (.int .i64 a8)).setCell ⟨b3, 5, none⟩ (.int .i64 a5)).heap[b1]? = some (.cells #[.int .i64 3, .int .i64 a1, .int .i64 a2, .float .f64 a3, .float .f64 a4, .int .i64 a5, .int .i64 a6, .int .i64 a7, .int .i64 a8, .int .i64 a9, .int .i64 a10] 103 (0, 0)) := (Below.heap_setCell _ _ _ _ HNE.out.1).trans r2
 refine hK.out _ _ ⟨(xaA r3 3).trans rfl, (xaA r3 4).trans rfl, (xaA r3 8).trans rfl, (xaA r3 5).trans rfl, (xaA r3 6).trans rfl, (xaA r3 9).trans rfl, (xaA r3 7).trans rfl⟩ (fun hHeld => ?_)
 clear hK K x3 y3 hHeld
 have p3 : ((((w2.setCell ⟨b3, 3, none⟩ (.float .f64 a3)).setCell ⟨b3, 4, none⟩ (.float .f64 a4)).setCell ⟨b3, 8, none⟩ (.int .i64 a8)).setCell ⟨b3, 5, none⟩ (.int .i64 a5)).heap[b3]? = some (.cells #[.int .i64 3, .int .i64 a1, .int .i64 a2, .float .f64 a3, .float .f64 a4, .int .i64 a5, .int .i64 0, .int .i64 0, .int .i64 a8, .int .i64 0, .int .i64 0] 103 (0, 0)) := xaS p2 5 _ rfl
 refine rP 22 ?_
 have x4 := (xaA p3 6).trans rfl
 have y4 := xaB p3 6
 refine rO 23 (fun K hK => ?_)
 refine skip_ (w1 := ?_) (by rfl) rfl ?_ ?_
 rotate_left
 ·
  go_simp
  rfl
 have r4 : (((((w2.setCell ⟨b3, 3, none⟩ (.float .f64 a3)).setCell ⟨b3, 4, none⟩ (.float .f64 a4)).setCell ⟨b3, 8, none⟩ (.int .i64 a8)).setCell ⟨b3, 5, none⟩ (.int .i64 a5)).setCell ⟨b3, 6, none⟩ (.int .i64 a6)).heap[b1]? = some (.cells #[.int .i64 3, .int .i64 a1, .int .i64 a2, .float .f64 a3, .float .f64 a4, .int .i64 a5, .int .i64 a6, .int .i64 a7, .int .i64 a8, .int .i64 a9, .int .i64 a10] 103 (0, 0)) := (Below.heap_setCell _ _ _ _ HNE.out.1).trans r3
 refine hK.out _ _ ⟨(xaA r4 3).trans rfl, (xaA r4 4).trans rfl, (xaA r4 8).trans rfl, (xaA r4 5).trans rfl, (xaA r4 6).trans rfl, (xaA r4 9).trans rfl, (xaA r4 7).trans rfl⟩ (fun hHeld => ?_)
 clear hK K x4 y4 hHeld
 have p4 : (((((w2.setCell ⟨b3, 3, none⟩ (.float .f64 a3)).setCell ⟨b3, 4, none⟩ (.float .f64 a4)).setCell ⟨b3, 8, none⟩ (.int .i64 a8)).setCell ⟨b3, 5, none⟩ (.int .i64 a5)).setCell ⟨b3, 6, none⟩ (.int .i64 a6)).heap[b3]? = some (.cells #[.int .i64 3, .int .i64 a1, .int .i64 a2, .float .f64 a3, .float .f64 a4, .int .i64 a5, .int .i64 a6, .int .i64 0, .int .i64 a8, .int .i64 0, .int .i64 0] 103 (0, 0)) := xaS p3 6 _ rfl
 refine rP 24 ?_
 have x5 := (xaA p4 9).trans rfl
 have y5 := xaB p4 9
 refine rO 25 (fun K hK => ?_)
 refine skip_ (w1 := ?_) (by rfl) rfl ?_ ?_
 rotate_left
 ·
  go_simp
  rfl
 have r5 : ((((((w2.setCell ⟨b3, 3, none⟩ (.float .f64 a3)).setCell ⟨b3, 4, none⟩ (.float .f64 a4)).setCell ⟨b3, 8, none⟩ (.int .i64 a8)).setCell ⟨b3, 5, none⟩ (.int .i64 a5)).setCell ⟨b3, 6, none⟩ (.int .i64 a6)).setCell ⟨b3, 9, none⟩ (.int .i64 a9)).heap[b1]? = some (.cells #[.int .i64 3, .int .i64 a1, .int .i64 a2, .float .f64 a3, .float .f64 a4, .int .i64 a5, .int .i64 a6, .int .i64 a7, .int .i64 a8, .int .i64 a9, .int .i64 a10] 103 (0, 0)) := (Below.heap_setCell _ _ _ _ HNE.out.1).trans r4
 refine hK.out _ _ ⟨(xaA r5 3).trans rfl, (xaA r5 4).trans rfl, (xaA r5 8).trans rfl, (xaA r5 5).trans rfl, (xaA r5 6).trans rfl, (xaA r5 9).trans rfl, (xaA r5 7).trans rfl⟩ (fun hHeld => ?_)
 clear hK K x5 y5 hHeld
 have p5 : ((((((w2.setCell ⟨b3, 3, none⟩ (.float .f64 a3)).setCell ⟨b3, 4, none⟩ (.float .f64 a4)).setCell ⟨b3, 8, none⟩ (.int .i64 a8)).setCell ⟨b3, 5, none⟩ (.int .i64 a5)).setCell ⟨b3, 6, none⟩ (.int .i64 a6)).setCell ⟨b3, 9, none⟩ (.int .i64 a9)).heap[b3]? = some (.cells #[.int .i64 3, .int .i64 a1, .int .i64 a2, .float .f64 a3, .float .f64 a4, .int .i64 a5, .int .i64 a6, .int .i64 0, .int .i64 a8, .int .i64 a9, .int .i64 0] 103 (0, 0)) := xaS p4 9 _ rfl
 refine rP 26 ?_
 have x6 := (xaA p5 7).trans rfl
 have y6 := xaB p5 7
 refine rO 27 (fun K hK => ?_)
 refine skip_ (w1 := ?_) (by rfl) rfl ?_ ?_
 rotate_left
 ·
  go_simp
  rfl
 have r6 : (((((((w2.setCell ⟨b3, 3, none⟩ (.float .f64 a3)).setCell ⟨b3, 4, none⟩ (.float .f64 a4)).setCell ⟨b3, 8, none⟩ (.int .i64 a8)).setCell ⟨b3, 5, none⟩ (.int .i64 a5)).setCell ⟨b3, 6, none⟩ (.int .i64 a6)).setCell ⟨b3, 9, none⟩ (.int .i64 a9)).setCell ⟨b3, 7, none⟩ (.int .i64 a7)).heap[b1]? = some (.cells #[.int .i64 3, .int .i64 a1, .int .i64 a2, .float .f64 a3, .float .f64 a4, .int .i64 a5, .int .i64 a6, .int .i64 a7, .int .i64 a8, .int .i64 a9, .int .i64 a10] 103 (0, 0)) := (Below.heap_setCell _ _ _ _ HNE.out.1).trans r5
 refine hK.out _ _ ⟨(xaA r6 3).trans rfl, (xaA r6 4).trans rfl, (xaA r6 8).trans rfl, (xaA r6 5).trans rfl, (xaA r6 6).trans rfl, (xaA r6 9).trans rfl, (xaA r6 7).trans rfl⟩ (fun hHeld => ?_)
 clear hK K x6 y6 hHeld
 have p6 : (((((((w2.setCell ⟨b3, 3, none⟩ (.float .f64 a3)).setCell ⟨b3, 4, none⟩ (.float .f64 a4)).setCell ⟨b3, 8, none⟩ (.int .i64 a8)).setCell ⟨b3, 5, none⟩ (.int .i64 a5)).setCell ⟨b3, 6, none⟩ (.int .i64 a6)).setCell ⟨b3, 9, none⟩ (.int .i64 a9)).setCell ⟨b3, 7, none⟩ (.int .i64 a7)).heap[b3]? = some (.cells #[.int .i64 3, .int .i64 a1, .int .i64 a2, .float .f64 a3, .float .f64 a4, .int .i64 a5, .int .i64 a6, .int .i64 a7, .int .i64 a8, .int .i64 a9, .int .i64 0] 103 (0, 0)) := xaS p5 7 _ rfl
 refine rD ?_
 have BB1 : Aside0 ((((((((w2.setCell ⟨b3, 3, none⟩ (.float .f64 a3)).setCell ⟨b3, 4, none⟩ (.float .f64 a4)).setCell ⟨b3, 8, none⟩ (.int .i64 a8)).setCell ⟨b3, 5, none⟩ (.int .i64 a5)).setCell ⟨b3, 6, none⟩ (.int .i64 a6)).setCell ⟨b3, 9, none⟩ (.int .i64 a9)).setCell ⟨b3, 7, none⟩ (.int .i64 a7)).heap[b1]? = some (.cells #[.int .i64 3, .int .i64 a1, .int .i64 a2, .float .f64 a3, .float .f64 a4, .int .i64 a5, .int .i64 a6, .int .i64 a7, .int .i64 a8, .int .i64 a9, .int .i64 a10] 103 (0, 0))) := ⟨r6⟩
 have HBB : Aside0 (Below w.heap.size w (((((((w2.setCell ⟨b3, 3, none⟩ (.float .f64 a3)).setCell ⟨b3, 4, none⟩ (.float .f64 a4)).setCell ⟨b3, 8, none⟩ (.int .i64 a8)).setCell ⟨b3, 5, none⟩ (.int .i64 a5)).setCell ⟨b3, 6, none⟩ (.int .i64 a6)).setCell ⟨b3, 9, none⟩ (.int .i64 a9)).setCell ⟨b3, 7, none⟩ (.int .i64 a7))) := ⟨xbA (xbA (xbA (xbA (xbA (xbA (xbA HB.out HNE.out.2) HNE.out.2) HNE.out.2) HNE.out.2) HNE.out.2) HNE.out.2) HNE.out.2⟩
 have BB3 := Aside0.mk p6;clear p0 r0 p1 r1 p2 r2 p3 r3 p4 r4 p5 r5 p6 r6
 generalize (((((((w2.setCell ⟨b3, 3, none⟩ (.float .f64 a3)).setCell ⟨b3, 4, none⟩ (.float .f64 a4)).setCell ⟨b3, 8, none⟩ (.int .i64 a8)).setCell ⟨b3, 5, none⟩ (.int .i64 a5)).setCell ⟨b3, 6, none⟩ (.int .i64 a6)).setCell ⟨b3, 9, none⟩ (.int .i64 a9)).setCell ⟨b3, 7, none⟩ (.int .i64 a7)) = w5 at *
 obtain ⟨⟨c0, c1, c2, c3, c4, c5, c6, c7, c8, c9, c10⟩, z_⟩ := blk11 BB1
 obtain ⟨⟨d0, d1, d2, d3, d4, d5, d6, d7, d8, d9, d10⟩, y_⟩ := blk11 BB3
 clear z_ y_
 by_cases q0 : numB a3 = true
 ·
  by_cases q1 : numB a4 = true
  ·
   by_cases q2 : inB a8 1 5 = true
   ·
    by_cases q3 : inB a5 0 109572 = true
    ·
     by_cases q4 : inB a6 0 109572 = true
     ·
      by_cases q5 : decide (a5 < a6) = true
      ·
       by_cases q6 : inB a9 1 1200 = true
       ·
        by_cases q7 : inB a7 1 8 = true
        ·
         go_wp2_with (first | (go_at_call 92; (with_reducible refine (xcT _ _).mono ?_); rintro e w' ⟨rfl, hw_⟩; obtain rfl := hw_.symm) | (go_at_call 93; (with_reducible refine (xcH _ _ _ _).mono ?_); rintro e w' ⟨rfl, hw_⟩; obtain rfl := hw_.symm) | (go_at_call 94; (with_reducible refine (is_c _ _).mono ?_); rintro e w' ⟨rfl, hw_⟩; obtain rfl := hw_.symm) | (go_at_call 95; go_loud ((with_reducible refine (xbS _ _ _ _ _ _ _ _ _ _ _ _ _ _ _ _ _ _ _ _ _ _ _).mono ?_); rintro e w9 ⟨rfl, hb9⟩; have HB9 := Aside0.mk hb9; clear hb9)))
         go_ret
         exact ⟨congrArg (fun b => Ending.returned (.bool b)) (by simp [fieldsB, okT, keptT, sameT, q0, q1, q2, q3, q4, q5, q6, q7]), HBB.out.trans (HB9.out.mono HBB.out.size)⟩
        ·
         replace q7 := Bool.eq_false_iff.2 q7
         go_wp2_with (first | (go_at_call 92; (with_reducible refine (xcT _ _).mono ?_); rintro e w' ⟨rfl, hw_⟩; obtain rfl := hw_.symm) | (go_at_call 93; (with_reducible refine (xcH _ _ _ _).mono ?_); rintro e w' ⟨rfl, hw_⟩; obtain rfl := hw_.symm) | (go_at_call 94; (with_reducible refine (is_c _ _).mono ?_); rintro e w' ⟨rfl, hw_⟩; obtain rfl := hw_.symm) | (go_at_call 95; go_loud ((with_reducible refine (xbS _ _ _ _ _ _ _ _ _ _ _ _ _ _ _ _ _ _ _ _ _ _ _).mono ?_); rintro e w9 ⟨rfl, hb9⟩; have HB9 := Aside0.mk hb9; clear hb9)))
         go_ret
         exact ⟨congrArg (fun b => Ending.returned (.bool b)) (by simp [fieldsB, okT, keptT, sameT, q0, q1, q2, q3, q4, q5, q6, q7]), HBB.out⟩
       ·
        replace q6 := Bool.eq_false_iff.2 q6
        go_wp2_with (first | (go_at_call 92; (with_reducible refine (xcT _ _).mono ?_); rintro e w' ⟨rfl, hw_⟩; obtain rfl := hw_.symm) | (go_at_call 93; (with_reducible refine (xcH _ _ _ _).mono ?_); rintro e w' ⟨rfl, hw_⟩; obtain rfl := hw_.symm) | (go_at_call 94; (with_reducible refine (is_c _ _).mono ?_); rintro e w' ⟨rfl, hw_⟩; obtain rfl := hw_.symm) | (go_at_call 95; go_loud ((with_reducible refine (xbS _ _ _ _ _ _ _ _ _ _ _ _ _ _ _ _ _ _ _ _ _ _ _).mono ?_); rintro e w9 ⟨rfl, hb9⟩; have HB9 := Aside0.mk hb9; clear hb9)))
        go_ret
        exact ⟨congrArg (fun b => Ending.returned (.bool b)) (by simp [fieldsB, okT, keptT, sameT, q0, q1, q2, q3, q4, q5, q6]), HBB.out⟩
      ·
       replace q5 := Bool.eq_false_iff.2 q5
       go_wp2_with (first | (go_at_call 92; (with_reducible refine (xcT _ _).mono ?_); rintro e w' ⟨rfl, hw_⟩; obtain rfl := hw_.symm) | (go_at_call 93; (with_reducible refine (xcH _ _ _ _).mono ?_); rintro e w' ⟨rfl, hw_⟩; obtain rfl := hw_.symm) | (go_at_call 94; (with_reducible refine (is_c _ _).mono ?_); rintro e w' ⟨rfl, hw_⟩; obtain rfl := hw_.symm) | (go_at_call 95; go_loud ((with_reducible refine (xbS _ _ _ _ _ _ _ _ _ _ _ _ _ _ _ _ _ _ _ _ _ _ _).mono ?_); rintro e w9 ⟨rfl, hb9⟩; have HB9 := Aside0.mk hb9; clear hb9)))
       go_ret
       exact ⟨congrArg (fun b => Ending.returned (.bool b)) (by simp [fieldsB, okT, keptT, sameT, q0, q1, q2, q3, q4, q5]), HBB.out⟩
     ·
      replace q4 := Bool.eq_false_iff.2 q4
      go_wp2_with (first | (go_at_call 92; (with_reducible refine (xcT _ _).mono ?_); rintro e w' ⟨rfl, hw_⟩; obtain rfl := hw_.symm) | (go_at_call 93; (with_reducible refine (xcH _ _ _ _).mono ?_); rintro e w' ⟨rfl, hw_⟩; obtain rfl := hw_.symm) | (go_at_call 94; (with_reducible refine (is_c _ _).mono ?_); rintro e w' ⟨rfl, hw_⟩; obtain rfl := hw_.symm) | (go_at_call 95; go_loud ((with_reducible refine (xbS _ _ _ _ _ _ _ _ _ _ _ _ _ _ _ _ _ _ _ _ _ _ _).mono ?_); rintro e w9 ⟨rfl, hb9⟩; have HB9 := Aside0.mk hb9; clear hb9)))
      go_ret
      exact ⟨congrArg (fun b => Ending.returned (.bool b)) (by simp [fieldsB, okT, keptT, sameT, q0, q1, q2, q3, q4]), HBB.out⟩
    ·
     replace q3 := Bool.eq_false_iff.2 q3
     go_wp2_with (first | (go_at_call 92; (with_reducible refine (xcT _ _).mono ?_); rintro e w' ⟨rfl, hw_⟩; obtain rfl := hw_.symm) | (go_at_call 93; (with_reducible refine (xcH _ _ _ _).mono ?_); rintro e w' ⟨rfl, hw_⟩; obtain rfl := hw_.symm) | (go_at_call 94; (with_reducible refine (is_c _ _).mono ?_); rintro e w' ⟨rfl, hw_⟩; obtain rfl := hw_.symm) | (go_at_call 95; go_loud ((with_reducible refine (xbS _ _ _ _ _ _ _ _ _ _ _ _ _ _ _ _ _ _ _ _ _ _ _).mono ?_); rintro e w9 ⟨rfl, hb9⟩; have HB9 := Aside0.mk hb9; clear hb9)))
     go_ret
     exact ⟨congrArg (fun b => Ending.returned (.bool b)) (by simp [fieldsB, okT, keptT, sameT, q0, q1, q2, q3]), HBB.out⟩
   ·
    replace q2 := Bool.eq_false_iff.2 q2
    go_wp2_with (first | (go_at_call 92; (with_reducible refine (xcT _ _).mono ?_); rintro e w' ⟨rfl, hw_⟩; obtain rfl := hw_.symm) | (go_at_call 93; (with_reducible refine (xcH _ _ _ _).mono ?_); rintro e w' ⟨rfl, hw_⟩; obtain rfl := hw_.symm) | (go_at_call 94; (with_reducible refine (is_c _ _).mono ?_); rintro e w' ⟨rfl, hw_⟩; obtain rfl := hw_.symm) | (go_at_call 95; go_loud ((with_reducible refine (xbS _ _ _ _ _ _ _ _ _ _ _ _ _ _ _ _ _ _ _ _ _ _ _).mono ?_); rintro e w9 ⟨rfl, hb9⟩; have HB9 := Aside0.mk hb9; clear hb9)))
    go_ret
    exact ⟨congrArg (fun b => Ending.returned (.bool b)) (by simp [fieldsB, okT, keptT, sameT, q0, q1, q2]), HBB.out⟩
  ·
   replace q1 := Bool.eq_false_iff.2 q1
   go_wp2_with (first | (go_at_call 92; (with_reducible refine (xcT _ _).mono ?_); rintro e w' ⟨rfl, hw_⟩; obtain rfl := hw_.symm) | (go_at_call 93; (with_reducible refine (xcH _ _ _ _).mono ?_); rintro e w' ⟨rfl, hw_⟩; obtain rfl := hw_.symm) | (go_at_call 94; (with_reducible refine (is_c _ _).mono ?_); rintro e w' ⟨rfl, hw_⟩; obtain rfl := hw_.symm) | (go_at_call 95; go_loud ((with_reducible refine (xbS _ _ _ _ _ _ _ _ _ _ _ _ _ _ _ _ _ _ _ _ _ _ _).mono ?_); rintro e w9 ⟨rfl, hb9⟩; have HB9 := Aside0.mk hb9; clear hb9)))
   go_ret
   exact ⟨congrArg (fun b => Ending.returned (.bool b)) (by simp [fieldsB, okT, keptT, sameT, q0, q1]), HBB.out⟩
 ·
  replace q0 := Bool.eq_false_iff.2 q0
  go_wp2_with (first | (go_at_call 92; (with_reducible refine (xcT _ _).mono ?_); rintro e w' ⟨rfl, hw_⟩; obtain rfl := hw_.symm) | (go_at_call 93; (with_reducible refine (xcH _ _ _ _).mono ?_); rintro e w' ⟨rfl, hw_⟩; obtain rfl := hw_.symm) | (go_at_call 94; (with_reducible refine (is_c _ _).mono ?_); rintro e w' ⟨rfl, hw_⟩; obtain rfl := hw_.symm) | (go_at_call 95; go_loud ((with_reducible refine (xbS _ _ _ _ _ _ _ _ _ _ _ _ _ _ _ _ _ _ _ _ _ _ _).mono ?_); rintro e w9 ⟨rfl, hb9⟩; have HB9 := Aside0.mk hb9; clear hb9)))
  go_ret
  exact ⟨congrArg (fun b => Ending.returned (.bool b)) (by simp [fieldsB, okT, keptT, sameT, q0]), HBB.out⟩
theorem fields4 (a1 a2 : Int) (a3 a4 : Nat) (a5 a6 a7 a8 a9 a10 : Int) (w : World) : Calls Tryz.prog 69 #[.agg #[.int .i64 4, .int .i64 a1, .int .i64 a2, .float .f64 a3, .float .f64 a4, .int .i64 a5, .int .i64 a6, .int .i64 a7, .int .i64 a8, .int .i64 a9, .int .i64 a10]] w fun e w' => e = .returned (.bool (fieldsB ⟨4, a1, a2, a3, a4, a5, a6, a7, a8, a9, a10⟩)) ∧ Below w.heap.size w w' := by
 go_enter Tryz.func69, Tryz.ntmps69
 go_wp2_with (first | (go_at_call 91; go_loud ((with_reducible refine (bare_c _ _ _ _ _ _ _ _ _ _ _ _).mono ?_); rintro e w1 ⟨rfl, hb⟩; have B1 := Aside0.mk (xaE (xaK (xbB w (.cells #[.int .i64 4, .int .i64 a1, .int .i64 a2, .float .f64 a3, .float .f64 a4, .int .i64 a5, .int .i64 a6, .int .i64 a7, .int .i64 a8, .int .i64 a9, .int .i64 a10] 103)) hb) (.cells #[.int .i64 4, .int .i64 a1, .int .i64 a2, .float .f64 0, .float .f64 0, .int .i64 0, .int .i64 0, .int .i64 0, .int .i64 0, .int .i64 0, .int .i64 0] 103)); have B3 : Aside0 ((w1.alloc (.cells #[.int .i64 4, .int .i64 a1, .int .i64 a2, .float .f64 0, .float .f64 0, .int .i64 0, .int .i64 0, .int .i64 0, .int .i64 0, .int .i64 0, .int .i64 0] 103)).heap[w1.heap.size]? = some (.cells #[.int .i64 4, .int .i64 a1, .int .i64 a2, .float .f64 0, .float .f64 0, .int .i64 0, .int .i64 0, .int .i64 0, .int .i64 0, .int .i64 0, .int .i64 0] 103)) := ⟨xbB _ _⟩; have HB := Aside0.mk (xaC ((xaC (Below.refl w.heap.size w) _).trans (hb.mono (by simp))) (.cells #[.int .i64 4, .int .i64 a1, .int .i64 a2, .float .f64 0, .float .f64 0, .int .i64 0, .int .i64 0, .int .i64 0, .int .i64 0, .int .i64 0, .int .i64 0] 103)); have HZ := Aside0.mk (show w.heap.size < w1.heap.size by have := hb.size; simp at this; omega); obtain ⟨⟨c0, c1, c2, c3, c4, c5, c6, c7, c8, c9, c10⟩, z_⟩ := blk11 B1; obtain ⟨⟨d0, d1, d2, d3, d4, d5, d6, d7, d8, d9, d10⟩, y_⟩ := blk11 B3)))
 refine (xbS _ _ _ _ _ _ _ _ _ _ _ _ _ _ _ _ _ _ _ _ _ _ _).mono ?_
 rintro e w9 ⟨rfl, hb9⟩
 have HB9 := Aside0.mk hb9;clear hb9 c0 c1 c2 c3 c4 c5 c6 c7 c8 c9 c10 z_ d0 d1 d2 d3 d4 d5 d6 d7 d8 d9 d10 y_
 go_wp2_with fail
 go_ret
 exact ⟨congrArg (fun b => Ending.returned (.bool b)) (by simp [fieldsB, okT, keptT, sameT]), HB.out.trans (HB9.out.mono HB.out.size)⟩
theorem fields5 (a1 a2 : Int) (a3 a4 : Nat) (a5 a6 a7 a8 a9 a10 : Int) (w : World) : Calls Tryz.prog 69 #[.agg #[.int .i64 5, .int .i64 a1, .int .i64 a2, .float .f64 a3, .float .f64 a4, .int .i64 a5, .int .i64 a6, .int .i64 a7, .int .i64 a8, .int .i64 a9, .int .i64 a10]] w fun e w' => e = .returned (.bool (fieldsB ⟨5, a1, a2, a3, a4, a5, a6, a7, a8, a9, a10⟩)) ∧ Below w.heap.size w w' := by
 go_enter Tryz.func69, Tryz.ntmps69
 go_wp2_with (first | (go_at_call 91; go_loud ((with_reducible refine (bare_c _ _ _ _ _ _ _ _ _ _ _ _).mono ?_); rintro e w1 ⟨rfl, hb⟩; have B1 := Aside0.mk (xaE (xaK (xbB w (.cells #[.int .i64 5, .int .i64 a1, .int .i64 a2, .float .f64 a3, .float .f64 a4, .int .i64 a5, .int .i64 a6, .int .i64 a7, .int .i64 a8, .int .i64 a9, .int .i64 a10] 103)) hb) (.cells #[.int .i64 5, .int .i64 a1, .int .i64 a2, .float .f64 0, .float .f64 0, .int .i64 0, .int .i64 0, .int .i64 0, .int .i64 0, .int .i64 0, .int .i64 0] 103)); have B3 : Aside0 ((w1.alloc (.cells #[.int .i64 5, .int .i64 a1, .int .i64 a2, .float .f64 0, .float .f64 0, .int .i64 0, .int .i64 0, .int .i64 0, .int .i64 0, .int .i64 0, .int .i64 0] 103)).heap[w1.heap.size]? = some (.cells #[.int .i64 5, .int .i64 a1, .int .i64 a2, .float .f64 0, .float .f64 0, .int .i64 0, .int .i64 0, .int .i64 0, .int .i64 0, .int .i64 0, .int .i64 0] 103)) := ⟨xbB _ _⟩; have HB := Aside0.mk (xaC ((xaC (Below.refl w.heap.size w) _).trans (hb.mono (by simp))) (.cells #[.int .i64 5, .int .i64 a1, .int .i64 a2, .float .f64 0, .float .f64 0, .int .i64 0, .int .i64 0, .int .i64 0, .int .i64 0, .int .i64 0, .int .i64 0] 103)); have HZ := Aside0.mk (show w.heap.size < w1.heap.size by have := hb.size; simp at this; omega); obtain ⟨⟨c0, c1, c2, c3, c4, c5, c6, c7, c8, c9, c10⟩, z_⟩ := blk11 B1; obtain ⟨⟨d0, d1, d2, d3, d4, d5, d6, d7, d8, d9, d10⟩, y_⟩ := blk11 B3)))
 refine (xbS _ _ _ _ _ _ _ _ _ _ _ _ _ _ _ _ _ _ _ _ _ _ _).mono ?_
 rintro e w9 ⟨rfl, hb9⟩
 have HB9 := Aside0.mk hb9;clear hb9 c0 c1 c2 c3 c4 c5 c6 c7 c8 c9 c10 z_ d0 d1 d2 d3 d4 d5 d6 d7 d8 d9 d10 y_
 go_wp2_with fail
 go_ret
 exact ⟨congrArg (fun b => Ending.returned (.bool b)) (by simp [fieldsB, okT, keptT, sameT]), HB.out.trans (HB9.out.mono HB.out.size)⟩
theorem fields6 (a1 a2 : Int) (a3 a4 : Nat) (a5 a6 a7 a8 a9 a10 : Int) (w : World) : Calls Tryz.prog 69 #[.agg #[.int .i64 6, .int .i64 a1, .int .i64 a2, .float .f64 a3, .float .f64 a4, .int .i64 a5, .int .i64 a6, .int .i64 a7, .int .i64 a8, .int .i64 a9, .int .i64 a10]] w fun e w' => e = .returned (.bool (fieldsB ⟨6, a1, a2, a3, a4, a5, a6, a7, a8, a9, a10⟩)) ∧ Below w.heap.size w w' := by
 go_enter Tryz.func69, Tryz.ntmps69
 go_wp2_with (first | (go_at_call 91; go_loud ((with_reducible refine (bare_c _ _ _ _ _ _ _ _ _ _ _ _).mono ?_); rintro e w1 ⟨rfl, hb⟩; have B1 := Aside0.mk (xaE (xaK (xbB w (.cells #[.int .i64 6, .int .i64 a1, .int .i64 a2, .float .f64 a3, .float .f64 a4, .int .i64 a5, .int .i64 a6, .int .i64 a7, .int .i64 a8, .int .i64 a9, .int .i64 a10] 103)) hb) (.cells #[.int .i64 6, .int .i64 a1, .int .i64 a2, .float .f64 0, .float .f64 0, .int .i64 0, .int .i64 0, .int .i64 0, .int .i64 0, .int .i64 0, .int .i64 0] 103)); have B3 : Aside0 ((w1.alloc (.cells #[.int .i64 6, .int .i64 a1, .int .i64 a2, .float .f64 0, .float .f64 0, .int .i64 0, .int .i64 0, .int .i64 0, .int .i64 0, .int .i64 0, .int .i64 0] 103)).heap[w1.heap.size]? = some (.cells #[.int .i64 6, .int .i64 a1, .int .i64 a2, .float .f64 0, .float .f64 0, .int .i64 0, .int .i64 0, .int .i64 0, .int .i64 0, .int .i64 0, .int .i64 0] 103)) := ⟨xbB _ _⟩; have HB := Aside0.mk (xaC ((xaC (Below.refl w.heap.size w) _).trans (hb.mono (by simp))) (.cells #[.int .i64 6, .int .i64 a1, .int .i64 a2, .float .f64 0, .float .f64 0, .int .i64 0, .int .i64 0, .int .i64 0, .int .i64 0, .int .i64 0, .int .i64 0] 103)); have HZ := Aside0.mk (show w.heap.size < w1.heap.size by have := hb.size; simp at this; omega); obtain ⟨⟨c0, c1, c2, c3, c4, c5, c6, c7, c8, c9, c10⟩, z_⟩ := blk11 B1; obtain ⟨⟨d0, d1, d2, d3, d4, d5, d6, d7, d8, d9, d10⟩, y_⟩ := blk11 B3; have B16 := Aside0.mk (xaE (xaK (xbB w (.cells #[.int .i64 6, .int .i64 a1, .int .i64 a2, .float .f64 a3, .float .f64 a4, .int .i64 a5, .int .i64 a6, .int .i64 a7, .int .i64 a8, .int .i64 a9, .int .i64 a10] 103)) hb) (.cells #[.int .i64 6, .int .i64 a1, .int .i64 a2, .float .f64 a3, .float .f64 0, .int .i64 0, .int .i64 0, .int .i64 0, .int .i64 0, .int .i64 0, .int .i64 0] 103)); have B36 : Aside0 ((w1.alloc (.cells #[.int .i64 6, .int .i64 a1, .int .i64 a2, .float .f64 a3, .float .f64 0, .int .i64 0, .int .i64 0, .int .i64 0, .int .i64 0, .int .i64 0, .int .i64 0] 103)).heap[w1.heap.size]? = some (.cells #[.int .i64 6, .int .i64 a1, .int .i64 a2, .float .f64 a3, .float .f64 0, .int .i64 0, .int .i64 0, .int .i64 0, .int .i64 0, .int .i64 0, .int .i64 0] 103)) := ⟨xbB _ _⟩; have HB6 := Aside0.mk (xaC ((xaC (Below.refl w.heap.size w) _).trans (hb.mono (by simp))) (.cells #[.int .i64 6, .int .i64 a1, .int .i64 a2, .float .f64 a3, .float .f64 0, .int .i64 0, .int .i64 0, .int .i64 0, .int .i64 0, .int .i64 0, .int .i64 0] 103)); obtain ⟨⟨e0, e1, e2, e3, e4, e5, e6, e7, e8, e9, e10⟩, x_⟩ := blk11 B16)))
 clear c0 c1 c2 c3 c4 c5 c6 c7 c8 c9 c10 z_ d0 d1 d2 d3 d4 d5 d6 d7 d8 d9 d10 y_ e0 e1 e2 e3 e4 e5 e6 e7 e8 e9 e10 x_
 obtain ⟨b1, hb1⟩ : ∃ b, b = w.heap.size := ⟨_, rfl⟩
 obtain ⟨b3, hb3⟩ : ∃ b, b = w1.heap.size := ⟨_, rfl⟩
 have HNE : Aside0 (b1 ≠ b3 ∧ w.heap.size ≤ b3) := ⟨by have := HZ.out; omega⟩
 rw [← hb1] at B16 ⊢
 rw [← hb3] at B36 ⊢
 have BB1 := B16;have BB3 := B36;have HBB := HB6
 generalize w1.alloc (.cells #[.int .i64 6, .int .i64 a1, .int .i64 a2, .float .f64 a3, .float .f64 0, .int .i64 0, .int .i64 0, .int .i64 0, .int .i64 0, .int .i64 0, .int .i64 0] 103) = w5 at *
 clear B16 B36 HB6 B1 B3 hb1 hb3 HZ HB
 obtain ⟨⟨c0, c1, c2, c3, c4, c5, c6, c7, c8, c9, c10⟩, z_⟩ := blk11 BB1
 obtain ⟨⟨d0, d1, d2, d3, d4, d5, d6, d7, d8, d9, d10⟩, y_⟩ := blk11 BB3
 clear z_ y_
 refine (xcT _ _).mono ?_
 rintro e w' ⟨rfl, hw_⟩
 obtain rfl := hw_.symm
 by_cases q0 : numB a3 = true
 ·
  go_wp2_with (first | (go_at_call 92; (with_reducible refine (xcT _ _).mono ?_); rintro e w' ⟨rfl, hw_⟩; obtain rfl := hw_.symm) | (go_at_call 93; (with_reducible refine (xcH _ _ _ _).mono ?_); rintro e w' ⟨rfl, hw_⟩; obtain rfl := hw_.symm) | (go_at_call 94; (with_reducible refine (is_c _ _).mono ?_); rintro e w' ⟨rfl, hw_⟩; obtain rfl := hw_.symm) | (go_at_call 95; go_loud ((with_reducible refine (xbS _ _ _ _ _ _ _ _ _ _ _ _ _ _ _ _ _ _ _ _ _ _ _).mono ?_); rintro e w9 ⟨rfl, hb9⟩; have HB9 := Aside0.mk hb9; clear hb9)))
  go_ret
  exact ⟨congrArg (fun b => Ending.returned (.bool b)) (by simp [fieldsB, okT, keptT, sameT, q0]), HBB.out.trans (HB9.out.mono HBB.out.size)⟩
 ·
  replace q0 := Bool.eq_false_iff.2 q0
  go_wp2_with (first | (go_at_call 92; (with_reducible refine (xcT _ _).mono ?_); rintro e w' ⟨rfl, hw_⟩; obtain rfl := hw_.symm) | (go_at_call 93; (with_reducible refine (xcH _ _ _ _).mono ?_); rintro e w' ⟨rfl, hw_⟩; obtain rfl := hw_.symm) | (go_at_call 94; (with_reducible refine (is_c _ _).mono ?_); rintro e w' ⟨rfl, hw_⟩; obtain rfl := hw_.symm) | (go_at_call 95; go_loud ((with_reducible refine (xbS _ _ _ _ _ _ _ _ _ _ _ _ _ _ _ _ _ _ _ _ _ _ _).mono ?_); rintro e w9 ⟨rfl, hb9⟩; have HB9 := Aside0.mk hb9; clear hb9)))
  go_ret
  exact ⟨congrArg (fun b => Ending.returned (.bool b)) (by simp [fieldsB, okT, keptT, sameT, q0]), HBB.out⟩
theorem fields7 (a1 a2 : Int) (a3 a4 : Nat) (a5 a6 a7 a8 a9 a10 : Int) (w : World) : Calls Tryz.prog 69 #[.agg #[.int .i64 7, .int .i64 a1, .int .i64 a2, .float .f64 a3, .float .f64 a4, .int .i64 a5, .int .i64 a6, .int .i64 a7, .int .i64 a8, .int .i64 a9, .int .i64 a10]] w fun e w' => e = .returned (.bool (fieldsB ⟨7, a1, a2, a3, a4, a5, a6, a7, a8, a9, a10⟩)) ∧ Below w.heap.size w w' := by
 go_enter Tryz.func69, Tryz.ntmps69
 go_wp2_with (first | (go_at_call 91; go_loud ((with_reducible refine (bare_c _ _ _ _ _ _ _ _ _ _ _ _).mono ?_); rintro e w1 ⟨rfl, hb⟩; have B1 := Aside0.mk (xaE (xaK (xbB w (.cells #[.int .i64 7, .int .i64 a1, .int .i64 a2, .float .f64 a3, .float .f64 a4, .int .i64 a5, .int .i64 a6, .int .i64 a7, .int .i64 a8, .int .i64 a9, .int .i64 a10] 103)) hb) (.cells #[.int .i64 7, .int .i64 a1, .int .i64 a2, .float .f64 0, .float .f64 0, .int .i64 0, .int .i64 0, .int .i64 0, .int .i64 0, .int .i64 0, .int .i64 0] 103)); have B3 : Aside0 ((w1.alloc (.cells #[.int .i64 7, .int .i64 a1, .int .i64 a2, .float .f64 0, .float .f64 0, .int .i64 0, .int .i64 0, .int .i64 0, .int .i64 0, .int .i64 0, .int .i64 0] 103)).heap[w1.heap.size]? = some (.cells #[.int .i64 7, .int .i64 a1, .int .i64 a2, .float .f64 0, .float .f64 0, .int .i64 0, .int .i64 0, .int .i64 0, .int .i64 0, .int .i64 0, .int .i64 0] 103)) := ⟨xbB _ _⟩; have HB := Aside0.mk (xaC ((xaC (Below.refl w.heap.size w) _).trans (hb.mono (by simp))) (.cells #[.int .i64 7, .int .i64 a1, .int .i64 a2, .float .f64 0, .float .f64 0, .int .i64 0, .int .i64 0, .int .i64 0, .int .i64 0, .int .i64 0, .int .i64 0] 103)); have HZ := Aside0.mk (show w.heap.size < w1.heap.size by have := hb.size; simp at this; omega); obtain ⟨⟨c0, c1, c2, c3, c4, c5, c6, c7, c8, c9, c10⟩, z_⟩ := blk11 B1; obtain ⟨⟨d0, d1, d2, d3, d4, d5, d6, d7, d8, d9, d10⟩, y_⟩ := blk11 B3)))
 clear c0 c1 c2 c3 c4 c5 c6 c7 c8 c9 c10 z_ d0 d1 d2 d3 d4 d5 d6 d7 d8 d9 d10 y_
 obtain ⟨b1, hb1⟩ : ∃ b, b = w.heap.size := ⟨_, rfl⟩
 obtain ⟨b3, hb3⟩ : ∃ b, b = w1.heap.size := ⟨_, rfl⟩
 have HNE : Aside0 (b1 ≠ b3 ∧ w.heap.size ≤ b3) := ⟨by have := HZ.out; omega⟩
 rw [← hb1] at B1 ⊢
 rw [← hb3] at B3 ⊢
 clear hb1 hb3 HZ
 refine xdP ?_
 refine start_ (n := 8) (S := fun w' => w'.cell? ⟨b1, 5, none⟩ = some (.int .i64 a5) ∧ w'.cell? ⟨b1, 6, none⟩ = some (.int .i64 a6)) (ds := []) #[false, false, false, false, false, false, false, false] (by kernel_rfl) rfl rfl ⟨(xaA (xaF B1.out) 5).trans rfl, (xaA (xaF B1.out) 6).trans rfl⟩ (fun hHeld => ?_)
 replace B1 := Aside0.mk (xaF B1.out)
 replace B3 := Aside0.mk (xaF B3.out)
 replace HB := Aside0.mk (xaM HB.out)
 generalize (w1.alloc (.cells #[.int .i64 7, .int .i64 a1, .int .i64 a2, .float .f64 0, .float .f64 0, .int .i64 0, .int .i64 0, .int .i64 0, .int .i64 0, .int .i64 0, .int .i64 0] 103)).drew = w2 at *
 refine rP 0 ?_
 refine rT 1 ?_
 refine rP 2 ?_
 refine rT 3 ?_
 clear hHeld
 refine rP 4 ?_
 have x0 := (xaA B3.out 5).trans rfl
 have y0 := xaB B3.out 5
 refine rO 5 (fun K hK => ?_)
 refine skip_ (w1 := ?_) (by rfl) rfl ?_ ?_
 rotate_left
 ·
  go_simp
  rfl
 have r0 : (w2.setCell ⟨b3, 5, none⟩ (.int .i64 a5)).heap[b1]? = some (.cells #[.int .i64 7, .int .i64 a1, .int .i64 a2, .float .f64 a3, .float .f64 a4, .int .i64 a5, .int .i64 a6, .int .i64 a7, .int .i64 a8, .int .i64 a9, .int .i64 a10] 103 (0, 0)) := (Below.heap_setCell _ _ _ _ HNE.out.1).trans B1.out
 refine hK.out _ _ ⟨(xaA r0 5).trans rfl, (xaA r0 6).trans rfl⟩ (fun hHeld => ?_)
 clear hK K x0 y0 hHeld
 have p0 : (w2.setCell ⟨b3, 5, none⟩ (.int .i64 a5)).heap[b3]? = some (.cells #[.int .i64 7, .int .i64 a1, .int .i64 a2, .float .f64 0, .float .f64 0, .int .i64 a5, .int .i64 0, .int .i64 0, .int .i64 0, .int .i64 0, .int .i64 0] 103 (0, 0)) := xaS B3.out 5 _ rfl
 refine rP 6 ?_
 have x1 := (xaA p0 6).trans rfl
 have y1 := xaB p0 6
 refine rO 7 (fun K hK => ?_)
 refine skip_ (w1 := ?_) (by rfl) rfl ?_ ?_
 rotate_left
 ·
  go_simp
  rfl
 have r1 : ((w2.setCell ⟨b3, 5, none⟩ (.int .i64 a5)).setCell ⟨b3, 6, none⟩ (.int .i64 a6)).heap[b1]? = some (.cells #[.int .i64 7, .int .i64 a1, .int .i64 a2, .float .f64 a3, .float .f64 a4, .int .i64 a5, .int .i64 a6, .int .i64 a7, .int .i64 a8, .int .i64 a9, .int .i64 a10] 103 (0, 0)) := (Below.heap_setCell _ _ _ _ HNE.out.1).trans r0
 refine hK.out _ _ ⟨(xaA r1 5).trans rfl, (xaA r1 6).trans rfl⟩ (fun hHeld => ?_)
 clear hK K x1 y1 hHeld
 have p1 : ((w2.setCell ⟨b3, 5, none⟩ (.int .i64 a5)).setCell ⟨b3, 6, none⟩ (.int .i64 a6)).heap[b3]? = some (.cells #[.int .i64 7, .int .i64 a1, .int .i64 a2, .float .f64 0, .float .f64 0, .int .i64 a5, .int .i64 a6, .int .i64 0, .int .i64 0, .int .i64 0, .int .i64 0] 103 (0, 0)) := xaS p0 6 _ rfl
 refine rD ?_
 have BB1 : Aside0 (((w2.setCell ⟨b3, 5, none⟩ (.int .i64 a5)).setCell ⟨b3, 6, none⟩ (.int .i64 a6)).heap[b1]? = some (.cells #[.int .i64 7, .int .i64 a1, .int .i64 a2, .float .f64 a3, .float .f64 a4, .int .i64 a5, .int .i64 a6, .int .i64 a7, .int .i64 a8, .int .i64 a9, .int .i64 a10] 103 (0, 0))) := ⟨r1⟩
 have HBB : Aside0 (Below w.heap.size w ((w2.setCell ⟨b3, 5, none⟩ (.int .i64 a5)).setCell ⟨b3, 6, none⟩ (.int .i64 a6))) := ⟨xbA (xbA HB.out HNE.out.2) HNE.out.2⟩
 have BB3 := Aside0.mk p1;clear p0 r0 p1 r1
 generalize ((w2.setCell ⟨b3, 5, none⟩ (.int .i64 a5)).setCell ⟨b3, 6, none⟩ (.int .i64 a6)) = w5 at *
 obtain ⟨⟨c0, c1, c2, c3, c4, c5, c6, c7, c8, c9, c10⟩, z_⟩ := blk11 BB1
 obtain ⟨⟨d0, d1, d2, d3, d4, d5, d6, d7, d8, d9, d10⟩, y_⟩ := blk11 BB3
 clear z_ y_
 by_cases q0 : inB a5 0 109572 = true
 ·
  by_cases q1 : inB a6 0 109572 = true
  ·
   go_wp2_with (first | (go_at_call 92; (with_reducible refine (xcT _ _).mono ?_); rintro e w' ⟨rfl, hw_⟩; obtain rfl := hw_.symm) | (go_at_call 93; (with_reducible refine (xcH _ _ _ _).mono ?_); rintro e w' ⟨rfl, hw_⟩; obtain rfl := hw_.symm) | (go_at_call 94; (with_reducible refine (is_c _ _).mono ?_); rintro e w' ⟨rfl, hw_⟩; obtain rfl := hw_.symm) | (go_at_call 95; go_loud ((with_reducible refine (xbS _ _ _ _ _ _ _ _ _ _ _ _ _ _ _ _ _ _ _ _ _ _ _).mono ?_); rintro e w9 ⟨rfl, hb9⟩; have HB9 := Aside0.mk hb9; clear hb9)))
   go_ret
   exact ⟨congrArg (fun b => Ending.returned (.bool b)) (by simp [fieldsB, okT, keptT, sameT, q0, q1]), HBB.out.trans (HB9.out.mono HBB.out.size)⟩
  ·
   replace q1 := Bool.eq_false_iff.2 q1
   go_wp2_with (first | (go_at_call 92; (with_reducible refine (xcT _ _).mono ?_); rintro e w' ⟨rfl, hw_⟩; obtain rfl := hw_.symm) | (go_at_call 93; (with_reducible refine (xcH _ _ _ _).mono ?_); rintro e w' ⟨rfl, hw_⟩; obtain rfl := hw_.symm) | (go_at_call 94; (with_reducible refine (is_c _ _).mono ?_); rintro e w' ⟨rfl, hw_⟩; obtain rfl := hw_.symm) | (go_at_call 95; go_loud ((with_reducible refine (xbS _ _ _ _ _ _ _ _ _ _ _ _ _ _ _ _ _ _ _ _ _ _ _).mono ?_); rintro e w9 ⟨rfl, hb9⟩; have HB9 := Aside0.mk hb9; clear hb9)))
   go_ret
   exact ⟨congrArg (fun b => Ending.returned (.bool b)) (by simp [fieldsB, okT, keptT, sameT, q0, q1]), HBB.out⟩
 ·
  replace q0 := Bool.eq_false_iff.2 q0
  go_wp2_with (first | (go_at_call 92; (with_reducible refine (xcT _ _).mono ?_); rintro e w' ⟨rfl, hw_⟩; obtain rfl := hw_.symm) | (go_at_call 93; (with_reducible refine (xcH _ _ _ _).mono ?_); rintro e w' ⟨rfl, hw_⟩; obtain rfl := hw_.symm) | (go_at_call 94; (with_reducible refine (is_c _ _).mono ?_); rintro e w' ⟨rfl, hw_⟩; obtain rfl := hw_.symm) | (go_at_call 95; go_loud ((with_reducible refine (xbS _ _ _ _ _ _ _ _ _ _ _ _ _ _ _ _ _ _ _ _ _ _ _).mono ?_); rintro e w9 ⟨rfl, hb9⟩; have HB9 := Aside0.mk hb9; clear hb9)))
  go_ret
  exact ⟨congrArg (fun b => Ending.returned (.bool b)) (by simp [fieldsB, okT, keptT, sameT, q0]), HBB.out⟩
theorem fields8 (a1 a2 : Int) (a3 a4 : Nat) (a5 a6 a7 a8 a9 a10 : Int) (w : World) : Calls Tryz.prog 69 #[.agg #[.int .i64 8, .int .i64 a1, .int .i64 a2, .float .f64 a3, .float .f64 a4, .int .i64 a5, .int .i64 a6, .int .i64 a7, .int .i64 a8, .int .i64 a9, .int .i64 a10]] w fun e w' => e = .returned (.bool (fieldsB ⟨8, a1, a2, a3, a4, a5, a6, a7, a8, a9, a10⟩)) ∧ Below w.heap.size w w' := by
 go_enter Tryz.func69, Tryz.ntmps69
 go_wp2_with (first | (go_at_call 91; go_loud ((with_reducible refine (bare_c _ _ _ _ _ _ _ _ _ _ _ _).mono ?_); rintro e w1 ⟨rfl, hb⟩; have B1 := Aside0.mk (xaE (xaK (xbB w (.cells #[.int .i64 8, .int .i64 a1, .int .i64 a2, .float .f64 a3, .float .f64 a4, .int .i64 a5, .int .i64 a6, .int .i64 a7, .int .i64 a8, .int .i64 a9, .int .i64 a10] 103)) hb) (.cells #[.int .i64 8, .int .i64 a1, .int .i64 a2, .float .f64 0, .float .f64 0, .int .i64 0, .int .i64 0, .int .i64 0, .int .i64 0, .int .i64 0, .int .i64 0] 103)); have B3 : Aside0 ((w1.alloc (.cells #[.int .i64 8, .int .i64 a1, .int .i64 a2, .float .f64 0, .float .f64 0, .int .i64 0, .int .i64 0, .int .i64 0, .int .i64 0, .int .i64 0, .int .i64 0] 103)).heap[w1.heap.size]? = some (.cells #[.int .i64 8, .int .i64 a1, .int .i64 a2, .float .f64 0, .float .f64 0, .int .i64 0, .int .i64 0, .int .i64 0, .int .i64 0, .int .i64 0, .int .i64 0] 103)) := ⟨xbB _ _⟩; have HB := Aside0.mk (xaC ((xaC (Below.refl w.heap.size w) _).trans (hb.mono (by simp))) (.cells #[.int .i64 8, .int .i64 a1, .int .i64 a2, .float .f64 0, .float .f64 0, .int .i64 0, .int .i64 0, .int .i64 0, .int .i64 0, .int .i64 0, .int .i64 0] 103)); have HZ := Aside0.mk (show w.heap.size < w1.heap.size by have := hb.size; simp at this; omega); obtain ⟨⟨c0, c1, c2, c3, c4, c5, c6, c7, c8, c9, c10⟩, z_⟩ := blk11 B1; obtain ⟨⟨d0, d1, d2, d3, d4, d5, d6, d7, d8, d9, d10⟩, y_⟩ := blk11 B3)))
 clear c0 c1 c2 c3 c4 c5 c6 c7 c8 c9 c10 z_ d0 d1 d2 d3 d4 d5 d6 d7 d8 d9 d10 y_
 obtain ⟨b1, hb1⟩ : ∃ b, b = w.heap.size := ⟨_, rfl⟩
 obtain ⟨b3, hb3⟩ : ∃ b, b = w1.heap.size := ⟨_, rfl⟩
 have HNE : Aside0 (b1 ≠ b3 ∧ w.heap.size ≤ b3) := ⟨by have := HZ.out; omega⟩
 rw [← hb1] at B1 ⊢
 rw [← hb3] at B3 ⊢
 clear hb1 hb3 HZ
 refine xdP ?_
 refine start_ (n := 8) (S := fun w' => w'.cell? ⟨b1, 9, none⟩ = some (.int .i64 a9) ∧ w'.cell? ⟨b1, 10, none⟩ = some (.int .i64 a10)) (ds := []) #[false, false, false, false, false, false, false, false] (by kernel_rfl) rfl rfl ⟨(xaA (xaF B1.out) 9).trans rfl, (xaA (xaF B1.out) 10).trans rfl⟩ (fun hHeld => ?_)
 replace B1 := Aside0.mk (xaF B1.out)
 replace B3 := Aside0.mk (xaF B3.out)
 replace HB := Aside0.mk (xaM HB.out)
 generalize (w1.alloc (.cells #[.int .i64 8, .int .i64 a1, .int .i64 a2, .float .f64 0, .float .f64 0, .int .i64 0, .int .i64 0, .int .i64 0, .int .i64 0, .int .i64 0, .int .i64 0] 103)).drew = w2 at *
 refine rP 0 ?_
 refine rT 1 ?_
 refine rP 2 ?_
 refine rT 3 ?_
 clear hHeld
 refine rP 4 ?_
 have x0 := (xaA B3.out 9).trans rfl
 have y0 := xaB B3.out 9
 refine rO 5 (fun K hK => ?_)
 refine skip_ (w1 := ?_) (by rfl) rfl ?_ ?_
 rotate_left
 ·
  go_simp
  rfl
 have r0 : (w2.setCell ⟨b3, 9, none⟩ (.int .i64 a9)).heap[b1]? = some (.cells #[.int .i64 8, .int .i64 a1, .int .i64 a2, .float .f64 a3, .float .f64 a4, .int .i64 a5, .int .i64 a6, .int .i64 a7, .int .i64 a8, .int .i64 a9, .int .i64 a10] 103 (0, 0)) := (Below.heap_setCell _ _ _ _ HNE.out.1).trans B1.out
 refine hK.out _ _ ⟨(xaA r0 9).trans rfl, (xaA r0 10).trans rfl⟩ (fun hHeld => ?_)
 clear hK K x0 y0 hHeld
 have p0 : (w2.setCell ⟨b3, 9, none⟩ (.int .i64 a9)).heap[b3]? = some (.cells #[.int .i64 8, .int .i64 a1, .int .i64 a2, .float .f64 0, .float .f64 0, .int .i64 0, .int .i64 0, .int .i64 0, .int .i64 0, .int .i64 a9, .int .i64 0] 103 (0, 0)) := xaS B3.out 9 _ rfl
 refine rP 6 ?_
 have x1 := (xaA p0 10).trans rfl
 have y1 := xaB p0 10
 refine rO 7 (fun K hK => ?_)
 refine skip_ (w1 := ?_) (by rfl) rfl ?_ ?_
 rotate_left
 ·
  go_simp
  rfl
 have r1 : ((w2.setCell ⟨b3, 9, none⟩ (.int .i64 a9)).setCell ⟨b3, 10, none⟩ (.int .i64 a10)).heap[b1]? = some (.cells #[.int .i64 8, .int .i64 a1, .int .i64 a2, .float .f64 a3, .float .f64 a4, .int .i64 a5, .int .i64 a6, .int .i64 a7, .int .i64 a8, .int .i64 a9, .int .i64 a10] 103 (0, 0)) := (Below.heap_setCell _ _ _ _ HNE.out.1).trans r0
 refine hK.out _ _ ⟨(xaA r1 9).trans rfl, (xaA r1 10).trans rfl⟩ (fun hHeld => ?_)
 clear hK K x1 y1 hHeld
 have p1 : ((w2.setCell ⟨b3, 9, none⟩ (.int .i64 a9)).setCell ⟨b3, 10, none⟩ (.int .i64 a10)).heap[b3]? = some (.cells #[.int .i64 8, .int .i64 a1, .int .i64 a2, .float .f64 0, .float .f64 0, .int .i64 0, .int .i64 0, .int .i64 0, .int .i64 0, .int .i64 a9, .int .i64 a10] 103 (0, 0)) := xaS p0 10 _ rfl
 refine rD ?_
 have BB1 : Aside0 (((w2.setCell ⟨b3, 9, none⟩ (.int .i64 a9)).setCell ⟨b3, 10, none⟩ (.int .i64 a10)).heap[b1]? = some (.cells #[.int .i64 8, .int .i64 a1, .int .i64 a2, .float .f64 a3, .float .f64 a4, .int .i64 a5, .int .i64 a6, .int .i64 a7, .int .i64 a8, .int .i64 a9, .int .i64 a10] 103 (0, 0))) := ⟨r1⟩
 have HBB : Aside0 (Below w.heap.size w ((w2.setCell ⟨b3, 9, none⟩ (.int .i64 a9)).setCell ⟨b3, 10, none⟩ (.int .i64 a10))) := ⟨xbA (xbA HB.out HNE.out.2) HNE.out.2⟩
 have BB3 := Aside0.mk p1;clear p0 r0 p1 r1
 generalize ((w2.setCell ⟨b3, 9, none⟩ (.int .i64 a9)).setCell ⟨b3, 10, none⟩ (.int .i64 a10)) = w5 at *
 obtain ⟨⟨c0, c1, c2, c3, c4, c5, c6, c7, c8, c9, c10⟩, z_⟩ := blk11 BB1
 obtain ⟨⟨d0, d1, d2, d3, d4, d5, d6, d7, d8, d9, d10⟩, y_⟩ := blk11 BB3
 clear z_ y_
 by_cases q0 : inB a9 1 4096 = true
 ·
  by_cases q1 : inB a10 1 1200 = true
  ·
   go_wp2_with (first | (go_at_call 92; (with_reducible refine (xcT _ _).mono ?_); rintro e w' ⟨rfl, hw_⟩; obtain rfl := hw_.symm) | (go_at_call 93; (with_reducible refine (xcH _ _ _ _).mono ?_); rintro e w' ⟨rfl, hw_⟩; obtain rfl := hw_.symm) | (go_at_call 94; (with_reducible refine (is_c _ _).mono ?_); rintro e w' ⟨rfl, hw_⟩; obtain rfl := hw_.symm) | (go_at_call 95; go_loud ((with_reducible refine (xbS _ _ _ _ _ _ _ _ _ _ _ _ _ _ _ _ _ _ _ _ _ _ _).mono ?_); rintro e w9 ⟨rfl, hb9⟩; have HB9 := Aside0.mk hb9; clear hb9)))
   go_ret
   exact ⟨congrArg (fun b => Ending.returned (.bool b)) (by simp [fieldsB, okT, keptT, sameT, q0, q1]), HBB.out.trans (HB9.out.mono HBB.out.size)⟩
  ·
   replace q1 := Bool.eq_false_iff.2 q1
   go_wp2_with (first | (go_at_call 92; (with_reducible refine (xcT _ _).mono ?_); rintro e w' ⟨rfl, hw_⟩; obtain rfl := hw_.symm) | (go_at_call 93; (with_reducible refine (xcH _ _ _ _).mono ?_); rintro e w' ⟨rfl, hw_⟩; obtain rfl := hw_.symm) | (go_at_call 94; (with_reducible refine (is_c _ _).mono ?_); rintro e w' ⟨rfl, hw_⟩; obtain rfl := hw_.symm) | (go_at_call 95; go_loud ((with_reducible refine (xbS _ _ _ _ _ _ _ _ _ _ _ _ _ _ _ _ _ _ _ _ _ _ _).mono ?_); rintro e w9 ⟨rfl, hb9⟩; have HB9 := Aside0.mk hb9; clear hb9)))
   go_ret
   exact ⟨congrArg (fun b => Ending.returned (.bool b)) (by simp [fieldsB, okT, keptT, sameT, q0, q1]), HBB.out⟩
 ·
  replace q0 := Bool.eq_false_iff.2 q0
  go_wp2_with (first | (go_at_call 92; (with_reducible refine (xcT _ _).mono ?_); rintro e w' ⟨rfl, hw_⟩; obtain rfl := hw_.symm) | (go_at_call 93; (with_reducible refine (xcH _ _ _ _).mono ?_); rintro e w' ⟨rfl, hw_⟩; obtain rfl := hw_.symm) | (go_at_call 94; (with_reducible refine (is_c _ _).mono ?_); rintro e w' ⟨rfl, hw_⟩; obtain rfl := hw_.symm) | (go_at_call 95; go_loud ((with_reducible refine (xbS _ _ _ _ _ _ _ _ _ _ _ _ _ _ _ _ _ _ _ _ _ _ _).mono ?_); rintro e w9 ⟨rfl, hb9⟩; have HB9 := Aside0.mk hb9; clear hb9)))
  go_ret
  exact ⟨congrArg (fun b => Ending.returned (.bool b)) (by simp [fieldsB, okT, keptT, sameT, q0]), HBB.out⟩
theorem fields_no (a0 a1 a2 : Int) (a3 a4 : Nat) (a5 a6 a7 a8 a9 a10 : Int) (w : World) (h : a0 < 1 ∨ 8 < a0) : Calls Tryz.prog 69 #[.agg #[.int .i64 a0, .int .i64 a1, .int .i64 a2, .float .f64 a3, .float .f64 a4, .int .i64 a5, .int .i64 a6, .int .i64 a7, .int .i64 a8, .int .i64 a9, .int .i64 a10]] w fun e w' => e = .returned (.bool false) ∧ Below w.heap.size w w' := by
 have t1 : (a0 == 1) = false := by rw [beq_eq_false_iff_ne]; omega
 have t2 : (a0 == 2) = false := by rw [beq_eq_false_iff_ne]; omega
 have t3 : (a0 == 3) = false := by rw [beq_eq_false_iff_ne]; omega
 have t4 : (a0 == 4) = false := by rw [beq_eq_false_iff_ne]; omega
 have t5 : (a0 == 5) = false := by rw [beq_eq_false_iff_ne]; omega
 have t6 : (a0 == 6) = false := by rw [beq_eq_false_iff_ne]; omega
 have t7 : (a0 == 7) = false := by rw [beq_eq_false_iff_ne]; omega
 have t8 : (a0 == 8) = false := by rw [beq_eq_false_iff_ne]; omega
 clear h
 go_enter Tryz.func69, Tryz.ntmps69
 go_wp2_with (go_at_call 91; go_loud ((with_reducible refine (bare_c _ _ _ _ _ _ _ _ _ _ _ _).mono ?_); rintro e w1 ⟨rfl, hb⟩; have B1 := Aside0.mk (xaE (xaK (xbB w (.cells #[.int .i64 a0, .int .i64 a1, .int .i64 a2, .float .f64 a3, .float .f64 a4, .int .i64 a5, .int .i64 a6, .int .i64 a7, .int .i64 a8, .int .i64 a9, .int .i64 a10] 103)) hb) (.cells #[.int .i64 a0, .int .i64 a1, .int .i64 a2, .float .f64 0, .float .f64 0, .int .i64 0, .int .i64 0, .int .i64 0, .int .i64 0, .int .i64 0, .int .i64 0] 103)); have HB := Aside0.mk (xaC ((xaC (Below.refl w.heap.size w) _).trans (hb.mono (by simp))) (.cells #[.int .i64 a0, .int .i64 a1, .int .i64 a2, .float .f64 0, .float .f64 0, .int .i64 0, .int .i64 0, .int .i64 0, .int .i64 0, .int .i64 0, .int .i64 0] 103)); obtain ⟨⟨c0, c1, c2, c3, c4, c5, c6, c7, c8, c9, c10⟩, z_⟩ := blk11 B1))
 go_ret
 exact ⟨rfl, HB.out⟩
theorem fields_c (t : S103) (w : World) : Calls Tryz.prog 69 #[.agg #[.int .i64 t.f0, .int .i64 t.f1, .int .i64 t.f2, .float .f64 t.f3, .float .f64 t.f4, .int .i64 t.f5, .int .i64 t.f6, .int .i64 t.f7, .int .i64 t.f8, .int .i64 t.f9, .int .i64 t.f10]] w fun e w' => e = .returned (.bool (fieldsB t)) ∧ Below w.heap.size w w' := by
 obtain ⟨a0, a1, a2, a3, a4, a5, a6, a7, a8, a9, a10⟩ := t
 simp only
 by_cases h1 : a0 = 1
 ·
  subst h1; exact fields1 _ _ _ _ _ _ _ _ _ _ w
 by_cases h2 : a0 = 2
 ·
  subst h2; exact fields2 _ _ _ _ _ _ _ _ _ _ w
 by_cases h3 : a0 = 3
 ·
  subst h3; exact fields3 _ _ _ _ _ _ _ _ _ _ w
 by_cases h4 : a0 = 4
 ·
  subst h4; exact fields4 _ _ _ _ _ _ _ _ _ _ w
 by_cases h5 : a0 = 5
 ·
  subst h5; exact fields5 _ _ _ _ _ _ _ _ _ _ w
 by_cases h6 : a0 = 6
 ·
  subst h6; exact fields6 _ _ _ _ _ _ _ _ _ _ w
 by_cases h7 : a0 = 7
 ·
  subst h7; exact fields7 _ _ _ _ _ _ _ _ _ _ w
 by_cases h8 : a0 = 8
 ·
  subst h8; exact fields8 _ _ _ _ _ _ _ _ _ _ w
 have e : fieldsB ⟨a0, a1, a2, a3, a4, a5, a6, a7, a8, a9, a10⟩ = false := by
  unfold fieldsB
  rw [decide_eq_false (by simp only; omega), Bool.false_and]
 rw [e]
 exact fields_no _ _ _ _ _ _ _ _ _ _ _ w (by omega)
def IB (w : World) (b : Nat) (l : List Int) : Prop := w.heap[b]? = some (.cells (l.map (Value.int .i64)).toArray 3 (0, 0))
section
variable {w w1 : World} {b b' : Nat} {l : List Int}
theorem IB.cell (h : IB w b l) (j : Nat) (hj : j < l.length) : w.cell? ⟨b, j, none⟩ = some (.int .i64 l[j]) := (xaA h j).trans (by simp [hj])
theorem IB.frozen (h : IB w b l) (j : Nat) : w.frozen? ⟨b, j, none⟩ = false := xaB h j
theorem IB.put (h : IB w b l) (j : Nat) (v : Int) : IB (w.setCell ⟨b, j, none⟩ (.int .i64 v)) b (l.set j v) := xaS h j _ (by simp [List.map_set])
theorem IB.other (h : IB w b l) (hne : b ≠ b') (j : Nat) (u : Value) : IB (w.setCell ⟨b', j, none⟩ u) b l := (Below.heap_setCell _ _ _ _ hne).trans h
theorem IB.below (h : IB w b l) (hb : Below w.heap.size w w1) : IB w1 b l := xaK h hb
theorem IB.fr {G : Nat → Prop} (h : IB w b l) (hf : Fr G w w1) (hn : ¬ G b) : IB w1 b l := hf.blk h hn
theorem IB.lt (h : IB w b l) : b < w.heap.size := blk_lt h
end
def rdI (l : List Int) (i : Int) : Int := l.getD i.toNat 0
theorem IB.rd {w : World} {b : Nat} {l : List Int} (h : IB w b l) (z : Int) (h0 : 0 ≤ z) (h1 : z < l.length) : w.cell? ⟨b, z.toNat, none⟩ = some (.int .i64 (rdI l z)) := by
  have h2 : z.toNat < l.length := by omega
  rw [h.cell _ h2]; unfold rdI; rw [List.getD_eq_getElem?_getD, List.getElem?_eq_getElem h2]; rfl
def partsP (k : Int) : Int := if k = 1 ∨ k = 2 ∨ k = 3 then 0 else if k = 5 then 2 else 1
theorem xdL (k : Int) (w : World) : Calls Tryz.prog 47 #[.int .i64 k] w fun e w' => e = .returned (.int .i64 (partsP k)) ∧ w' = w := by
 by_cases h1 : k = 1
 ·
  subst h1
  go_enter Tryz.func47, Tryz.ntmps47
  go_wp2
  go_ret
  exact ⟨rfl, rfl⟩
 have t1 : (k == 1) = false := by rw [beq_eq_false_iff_ne]; exact h1
 by_cases h2 : k = 2
 ·
  subst h2
  go_enter Tryz.func47, Tryz.ntmps47
  go_wp2
  go_ret
  exact ⟨rfl, rfl⟩
 have t2 : (k == 2) = false := by rw [beq_eq_false_iff_ne]; exact h2
 by_cases h3 : k = 3
 ·
  subst h3
  go_enter Tryz.func47, Tryz.ntmps47
  go_wp2
  go_ret
  exact ⟨rfl, rfl⟩
 have t3 : (k == 3) = false := by rw [beq_eq_false_iff_ne]; exact h3
 by_cases h5 : k = 5
 ·
  subst h5
  go_enter Tryz.func47, Tryz.ntmps47
  go_wp2
  go_ret
  exact ⟨rfl, rfl⟩
 have t5 : (k == 5) = false := by rw [beq_eq_false_iff_ne]; exact h5
 have e : partsP k = 1 := by unfold partsP; rw [if_neg (by omega), if_neg h5]
 rw [e]
 clear h1 h2 h3 h5 e
 go_enter Tryz.func47, Tryz.ntmps47
 go_wp2
 go_ret
 exact ⟨rfl, rfl⟩
def fitsP (k a b : Int) (i : Nat) (first deep : List Int) : Bool × List Int × List Int :=
 if partsP k = 0 then (a == 0 && b == 0, first, deep)
 else if partsP k = 1 then (if i = 0 ∨ a ≠ (i : Int) - 1 ∨ b ≠ 0 then (false, first, deep) else (true, first.set i (rdI first ((i : Int) - 1)), deep.set i (rdI deep ((i : Int) - 1) + 1)))
 else if i = 0 ∨ b ≠ (i : Int) - 1 ∨ rdI first ((i : Int) - 1) = 0 ∨ a ≠ rdI first ((i : Int) - 1) - 1 then (false, first, deep)
 else (true, first.set i (rdI first a), deep.set i (max (rdI deep a) (rdI deep b) + 1))
structure Rows2 (n i : Nat) (first deep : List Int) : Prop where
 lf : first.length = n
 ld : deep.length = n
 f : ∀ j, j < i → 0 ≤ first.getD j 0 ∧ first.getD j 0 ≤ (j : Int)
 d : ∀ j, j < i → 0 ≤ deep.getD j 0 ∧ deep.getD j 0 ≤ (j : Int) + 1
end Go.Proofs.YtkabcgmegljebaaGreatDoor.H
