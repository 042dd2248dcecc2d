/- Contracts and facts of functions of the program, joined in one text. -/
import Derived.Test.YtkabcgmegljebaaGreatDoorRGJ
import Derived.Test.YtkabcgmegljebaaGreatDoorRGK
set_option maxHeartbeats 8000000
set_option maxRecDepth 100000
set_option linter.unusedVariables false
set_option linter.unusedSimpArgs false
namespace Go.Proofs.YtkabcgmegljebaaGreatDoor.H
open Go.RowKit Go.Proofs.YtkabcgmegljebaaGreatDoorW.PrintWords Go.Proofs.YtkabcgmegljebaaGreatDoorW.PrintLast Go.Proofs.YtkabcgmegljebaaGreatDoorW.PrintMore
open Go.Proofs.YtkabcgmegljebaaGreatDoor.Q
def okT (t : S103) : Bool :=
  if t.f0 = 2 then numB t.f3 && inB t.f7 1 8 && inB t.f5 0 109572 else if t.f0 = 3 then numB t.f3 && numB t.f4 && inB t.f8 1 5 && inB t.f5 0 109572 && inB t.f6 0 109572 && decide (t.f5 < t.f6) && inB t.f9 1 1200 && inB t.f7 1 8 else if t.f0 = 6 then numB t.f3 else if t.f0 = 7 then inB t.f5 0 109572 && inB t.f6 0 109572 else if t.f0 = 8 then inB t.f9 1 4096 && inB t.f10 1 1200 else true
def keptT (t : S103) : S103 :=
  if t.f0 = 2 then ⟨t.f0, t.f1, t.f2, t.f3, 0, t.f5, 0, t.f7, 0, 0, 0⟩ else if t.f0 = 3 then ⟨t.f0, t.f1, t.f2, t.f3, t.f4, t.f5, t.f6, t.f7, t.f8, t.f9, 0⟩ else if t.f0 = 6 then ⟨t.f0, t.f1, t.f2, t.f3, 0, 0, 0, 0, 0, 0, 0⟩ else if t.f0 = 7 then ⟨t.f0, t.f1, t.f2, 0, 0, t.f5, t.f6, 0, 0, 0, 0⟩ else if t.f0 = 8 then ⟨t.f0, t.f1, t.f2, 0, 0, 0, 0, 0, 0, t.f9, t.f10⟩ else ⟨t.f0, t.f1, t.f2, 0, 0, 0, 0, 0, 0, 0, 0⟩
def sameT (a b : S103) : Bool := sameB a.f0 a.f1 a.f2 a.f3 a.f4 a.f5 a.f6 a.f7 a.f8 a.f9 a.f10 b.f0 b.f1 b.f2 b.f3 b.f4 b.f5 b.f6 b.f7 b.f8 b.f9 b.f10
def fieldsB (t : S103) : Bool := decide (1 ≤ t.f0 ∧ t.f0 ≤ 8) && (okT t && sameT (keptT t) t)
theorem xfV {w w1 : World} {A B : Array Value} {t : TypeId} (hb : Below (w.alloc (.cells A t)).heap.size (w.alloc (.cells A t)) w1) : xaA ((w1.alloc (.cells B t)).heap[w.heap.size]? = some (.cells A t (0, 0))) ∧ xaA ((w1.alloc (.cells B t)).heap[w1.heap.size]? = some (.cells B t (0, 0))) ∧ xaA (Below w.heap.size w (w1.alloc (.cells B t))) ∧ xaA (w.heap.size < w1.heap.size) :=
  ⟨⟨xaT (xaD (xbF w _) hb) _⟩, ⟨xbF _ _⟩, ⟨xaH ((xaH (Below.refl w.heap.size w) _).trans (hb.mono (by simp))) _⟩, ⟨by have := hb.size; simp at this; omega⟩⟩
theorem fields1 (a1 a2 : Int) (a3 a4 : Nat) (a5 a6 a7 a8 a9 a10 : Int) (w : World) : Calls Tryz.prog 69 #[.agg #[.int .i64 1, .int .i64 a1, .int .i64 a2, .float .f64 a3, .float .f64 a4, .int .i64 a5, .int .i64 a6, .int .i64 a7, .int .i64 a8, .int .i64 a9, .int .i64 a10]] w fun e w' => e = .returned (.bool (fieldsB ⟨1, a1, a2, a3, a4, a5, a6, a7, a8, a9, a10⟩)) ∧ Below w.heap.size w w' := by
 go_enter Tryz.func69, Tryz.ntmps69
 go_wp2_with (first | (go_at_call 91; go_loud ((with_reducible refine (xgG _ _ _ _ _ _ _ _ _ _ _ _).mono ?_); rintro e w1 ⟨rfl, hb⟩; obtain ⟨B1, B3, HB, HZ⟩ := xfV (B := #[.int .i64 1, .int .i64 a1, .int .i64 a2, .float .f64 0, .float .f64 0, .int .i64 0, .int .i64 0, .int .i64 0, .int .i64 0, .int .i64 0, .int .i64 0]) hb; have c_ := blk11 B1; have d_ := blk11 B3)))
 refine (xdJ _ _ _ _ _ _ _ _ _ _ _ _ _ _ _ _ _ _ _ _ _ _ _).mono ?_
 rintro e w9 ⟨rfl, hb9⟩
 have HB9 := am hb9;clear hb9 c_ d_
 go_wp2_with fail
 go_ret
 exact ⟨congrArg (fun b => Ending.returned (.bool b)) (by simp [fieldsB, okT, keptT, sameT]), HB.out.trans (HB9.out.mono HB.out.size)⟩
theorem fields2 (a1 a2 : Int) (a3 a4 : Nat) (a5 a6 a7 a8 a9 a10 : Int) (w : World) : Calls Tryz.prog 69 #[.agg #[.int .i64 2, .int .i64 a1, .int .i64 a2, .float .f64 a3, .float .f64 a4, .int .i64 a5, .int .i64 a6, .int .i64 a7, .int .i64 a8, .int .i64 a9, .int .i64 a10]] w fun e w' => e = .returned (.bool (fieldsB ⟨2, a1, a2, a3, a4, a5, a6, a7, a8, a9, a10⟩)) ∧ Below w.heap.size w w' := by
 go_enter Tryz.func69, Tryz.ntmps69
 go_wp2_with (first | (go_at_call 91; go_loud ((with_reducible refine (xgG _ _ _ _ _ _ _ _ _ _ _ _).mono ?_); rintro e w1 ⟨rfl, hb⟩; obtain ⟨B1, B3, HB, HZ⟩ := xfV (B := #[.int .i64 2, .int .i64 a1, .int .i64 a2, .float .f64 0, .float .f64 0, .int .i64 0, .int .i64 0, .int .i64 0, .int .i64 0, .int .i64 0, .int .i64 0]) hb; have c_ := blk11 B1; have d_ := blk11 B3)))
 clear c_ d_
 obtain ⟨b1, hb1⟩ : ∃ b, b = w.heap.size := ⟨_, rfl⟩
 obtain ⟨b3, hb3⟩ : ∃ b, b = w1.heap.size := ⟨_, rfl⟩
 have HNE : xaA (b1 ≠ b3 ∧ w.heap.size ≤ b3) := ⟨by have := HZ.out; omega⟩
 rw [← hb1] at B1 ⊢
 rw [← hb3] at B3 ⊢
 clear hb1 hb3 HZ
 refine xcA ?_
 refine xbL (n := 12) (S := fun w' => w'.cell? ⟨b1, 3, none⟩ = some (.float .f64 a3) ∧ w'.cell? ⟨b1, 7, none⟩ = some (.int .i64 a7) ∧ w'.cell? ⟨b1, 5, none⟩ = some (.int .i64 a5)) (ds := []) #[false, false, false, false, false, false, false, false, false, false, false, false] (by kernel_rfl) rfl rfl ⟨(xaB (xaP B1.out) 3).trans rfl, (xaB (xaP B1.out) 7).trans rfl, (xaB (xaP B1.out) 5).trans rfl⟩ (fun hHeld => ?_)
 replace B1 := am (xaP B1.out)
 replace B3 := am (xaP B3.out)
 replace HB := am (xaK HB.out)
 generalize (w1.alloc (.cells #[.int .i64 2, .int .i64 a1, .int .i64 a2, .float .f64 0, .float .f64 0, .int .i64 0, .int .i64 0, .int .i64 0, .int .i64 0, .int .i64 0, .int .i64 0] 103)).drew = w2 at *
 refine rP 0 ?_
 refine rT 1 ?_
 refine rP 2 ?_
 refine rT 3 ?_
 refine rP 4 ?_
 refine rT 5 ?_
 clear hHeld
 refine rP 6 ?_
 have x := (xaB B3.out 3).trans rfl;have y := xaE B3.out 3
 refine rO 7 (fun K hK => ?_)
 refine skip_ (w1 := ?_) (by rfl) rfl ?_ ?_
 rotate_left
 ·
  go_simp
  rfl
 replace B1 := am ((Below.heap_setCell w2 ⟨b3, 3, none⟩ (.float .f64 a3) b1 HNE.out.1).trans B1.out)
 refine hK.out _ _ ⟨(xaB B1.out 3).trans rfl, (xaB B1.out 7).trans rfl, (xaB B1.out 5).trans rfl⟩ (fun hHeld => ?_)
 clear hK K x y hHeld
 replace B3 : xaA ((w2.setCell ⟨b3, 3, none⟩ (.float .f64 a3)).heap[b3]? = some (.cells #[.int .i64 2, .int .i64 a1, .int .i64 a2, .float .f64 a3, .float .f64 0, .int .i64 0, .int .i64 0, .int .i64 0, .int .i64 0, .int .i64 0, .int .i64 0] 103 (0, 0))) := ⟨xaN B3.out 3 _ rfl⟩
 replace HB := am (xaF (g := b3) (j := 3) (v := .float .f64 a3) HB.out HNE.out.2)
 generalize w2.setCell ⟨b3, 3, none⟩ (.float .f64 a3) = v0 at *
 refine rP 8 ?_
 have x := (xaB B3.out 7).trans rfl;have y := xaE B3.out 7
 refine rO 9 (fun K hK => ?_)
 refine skip_ (w1 := ?_) (by rfl) rfl ?_ ?_
 rotate_left
 ·
  go_simp
  rfl
 replace B1 := am ((Below.heap_setCell v0 ⟨b3, 7, none⟩ (.int .i64 a7) b1 HNE.out.1).trans B1.out)
 refine hK.out _ _ ⟨(xaB B1.out 3).trans rfl, (xaB B1.out 7).trans rfl, (xaB B1.out 5).trans rfl⟩ (fun hHeld => ?_)
 clear hK K x y hHeld
 replace B3 : xaA ((v0.setCell ⟨b3, 7, none⟩ (.int .i64 a7)).heap[b3]? = some (.cells #[.int .i64 2, .int .i64 a1, .int .i64 a2, .float .f64 a3, .float .f64 0, .int .i64 0, .int .i64 0, .int .i64 a7, .int .i64 0, .int .i64 0, .int .i64 0] 103 (0, 0))) := ⟨xaN B3.out 7 _ rfl⟩
 replace HB := am (xaF (g := b3) (j := 7) (v := .int .i64 a7) HB.out HNE.out.2)
 generalize v0.setCell ⟨b3, 7, none⟩ (.int .i64 a7) = v1 at *
 refine rP 10 ?_
 have x := (xaB B3.out 5).trans rfl;have y := xaE B3.out 5
 refine rO 11 (fun K hK => ?_)
 refine skip_ (w1 := ?_) (by rfl) rfl ?_ ?_
 rotate_left
 ·
  go_simp
  rfl
 replace B1 := am ((Below.heap_setCell v1 ⟨b3, 5, none⟩ (.int .i64 a5) b1 HNE.out.1).trans B1.out)
 refine hK.out _ _ ⟨(xaB B1.out 3).trans rfl, (xaB B1.out 7).trans rfl, (xaB B1.out 5).trans rfl⟩ (fun hHeld => ?_)
 clear hK K x y hHeld
 replace B3 : xaA ((v1.setCell ⟨b3, 5, none⟩ (.int .i64 a5)).heap[b3]? = some (.cells #[.int .i64 2, .int .i64 a1, .int .i64 a2, .float .f64 a3, .float .f64 0, .int .i64 a5, .int .i64 0, .int .i64 a7, .int .i64 0, .int .i64 0, .int .i64 0] 103 (0, 0))) := ⟨xaN B3.out 5 _ rfl⟩
 replace HB := am (xaF (g := b3) (j := 5) (v := .int .i64 a5) HB.out HNE.out.2)
 generalize v1.setCell ⟨b3, 5, none⟩ (.int .i64 a5) = w5 at *
 refine rD ?_
 have BB1 := B1;have HBB := HB;have BB3 := B3
 have c_ := blk11 BB1;have d_ := blk11 BB3
 go_wp2_with (first | (go_at_call 92; (with_reducible refine (xgQ _ _).mono ?_); rintro e w' ⟨rfl, hw_⟩; obtain rfl := hw_.symm) | (go_at_call 93; (with_reducible refine (xfK _ _ _ _).mono ?_); rintro e w' ⟨rfl, hw_⟩; obtain rfl := hw_.symm) | (go_at_call 94; (with_reducible refine (is_c _ _).mono ?_); rintro e w' ⟨rfl, hw_⟩; obtain rfl := hw_.symm) | (go_at_call 95; go_loud ((with_reducible refine (xdJ _ _ _ _ _ _ _ _ _ _ _ _ _ _ _ _ _ _ _ _ _ _ _).mono ?_); rintro e w9 ⟨rfl, hb9⟩; have HB9 := am hb9; clear hb9)))
 all_goals
  go_ret
  exact ⟨congrArg (fun b => Ending.returned (.bool b)) (by simp [fieldsB, okT, keptT, sameT, *]), by first | exact HBB.out.trans (HB9.out.mono HBB.out.size) | exact HBB.out⟩
theorem fields3 (a1 a2 : Int) (a3 a4 : Nat) (a5 a6 a7 a8 a9 a10 : Int) (w : World) : Calls Tryz.prog 69 #[.agg #[.int .i64 3, .int .i64 a1, .int .i64 a2, .float .f64 a3, .float .f64 a4, .int .i64 a5, .int .i64 a6, .int .i64 a7, .int .i64 a8, .int .i64 a9, .int .i64 a10]] w fun e w' => e = .returned (.bool (fieldsB ⟨3, a1, a2, a3, a4, a5, a6, a7, a8, a9, a10⟩)) ∧ Below w.heap.size w w' := by
 go_enter Tryz.func69, Tryz.ntmps69
 go_wp2_with (first | (go_at_call 91; go_loud ((with_reducible refine (xgG _ _ _ _ _ _ _ _ _ _ _ _).mono ?_); rintro e w1 ⟨rfl, hb⟩; obtain ⟨B1, B3, HB, HZ⟩ := xfV (B := #[.int .i64 3, .int .i64 a1, .int .i64 a2, .float .f64 0, .float .f64 0, .int .i64 0, .int .i64 0, .int .i64 0, .int .i64 0, .int .i64 0, .int .i64 0]) hb; have c_ := blk11 B1; have d_ := blk11 B3)))
 clear c_ d_
 obtain ⟨b1, hb1⟩ : ∃ b, b = w.heap.size := ⟨_, rfl⟩
 obtain ⟨b3, hb3⟩ : ∃ b, b = w1.heap.size := ⟨_, rfl⟩
 have HNE : xaA (b1 ≠ b3 ∧ w.heap.size ≤ b3) := ⟨by have := HZ.out; omega⟩
 rw [← hb1] at B1 ⊢
 rw [← hb3] at B3 ⊢
 clear hb1 hb3 HZ
 refine xcA ?_
 refine xbL (n := 28) (S := fun w' => w'.cell? ⟨b1, 3, none⟩ = some (.float .f64 a3) ∧ w'.cell? ⟨b1, 4, none⟩ = some (.float .f64 a4) ∧ w'.cell? ⟨b1, 8, none⟩ = some (.int .i64 a8) ∧ w'.cell? ⟨b1, 5, none⟩ = some (.int .i64 a5) ∧ w'.cell? ⟨b1, 6, none⟩ = some (.int .i64 a6) ∧ w'.cell? ⟨b1, 9, none⟩ = some (.int .i64 a9) ∧ w'.cell? ⟨b1, 7, none⟩ = some (.int .i64 a7)) (ds := []) #[false, false, false, false, false, false, false, false, false, false, false, false, false, false, false, false, false, false, false, false, false, false, false, false, false, false, false, false] (by kernel_rfl) rfl rfl ⟨(xaB (xaP B1.out) 3).trans rfl, (xaB (xaP B1.out) 4).trans rfl, (xaB (xaP B1.out) 8).trans rfl, (xaB (xaP B1.out) 5).trans rfl, (xaB (xaP B1.out) 6).trans rfl, (xaB (xaP B1.out) 9).trans rfl, (xaB (xaP B1.out) 7).trans rfl⟩ (fun hHeld => ?_)
 replace B1 := am (xaP B1.out)
 replace B3 := am (xaP B3.out)
 replace HB := am (xaK HB.out)
 generalize (w1.alloc (.cells #[.int .i64 3, .int .i64 a1, .int .i64 a2, .float .f64 0, .float .f64 0, .int .i64 0, .int .i64 0, .int .i64 0, .int .i64 0, .int .i64 0, .int .i64 0] 103)).drew = w2 at *
 refine rP 0 ?_
 refine rT 1 ?_
 refine rP 2 ?_
 refine rT 3 ?_
 refine rP 4 ?_
 refine rT 5 ?_
 refine rP 6 ?_
 refine rT 7 ?_
 refine rP 8 ?_
 refine rT 9 ?_
 refine rP 10 ?_
 refine rT 11 ?_
 refine rP 12 ?_
 refine rT 13 ?_
 clear hHeld
 refine rP 14 ?_
 have x := (xaB B3.out 3).trans rfl;have y := xaE B3.out 3
 refine rO 15 (fun K hK => ?_)
 refine skip_ (w1 := ?_) (by rfl) rfl ?_ ?_
 rotate_left
 ·
  go_simp
  rfl
 replace B1 := am ((Below.heap_setCell w2 ⟨b3, 3, none⟩ (.float .f64 a3) b1 HNE.out.1).trans B1.out)
 refine hK.out _ _ ⟨(xaB B1.out 3).trans rfl, (xaB B1.out 4).trans rfl, (xaB B1.out 8).trans rfl, (xaB B1.out 5).trans rfl, (xaB B1.out 6).trans rfl, (xaB B1.out 9).trans rfl, (xaB B1.out 7).trans rfl⟩ (fun hHeld => ?_)
 clear hK K x y hHeld
 replace B3 : xaA ((w2.setCell ⟨b3, 3, none⟩ (.float .f64 a3)).heap[b3]? = some (.cells #[.int .i64 3, .int .i64 a1, .int .i64 a2, .float .f64 a3, .float .f64 0, .int .i64 0, .int .i64 0, .int .i64 0, .int .i64 0, .int .i64 0, .int .i64 0] 103 (0, 0))) := ⟨xaN B3.out 3 _ rfl⟩
 replace HB := am (xaF (g := b3) (j := 3) (v := .float .f64 a3) HB.out HNE.out.2)
 generalize w2.setCell ⟨b3, 3, none⟩ (.float .f64 a3) = v0 at *
 refine rP 16 ?_
 have x := (xaB B3.out 4).trans rfl;have y := xaE B3.out 4
 refine rO 17 (fun K hK => ?_)
 refine skip_ (w1 := ?_) (by rfl) rfl ?_ ?_
 rotate_left
 ·
  go_simp
  rfl
 replace B1 := am ((Below.heap_setCell v0 ⟨b3, 4, none⟩ (.float .f64 a4) b1 HNE.out.1).trans B1.out)
 refine hK.out _ _ ⟨(xaB B1.out 3).trans rfl, (xaB B1.out 4).trans rfl, (xaB B1.out 8).trans rfl, (xaB B1.out 5).trans rfl, (xaB B1.out 6).trans rfl, (xaB B1.out 9).trans rfl, (xaB B1.out 7).trans rfl⟩ (fun hHeld => ?_)
 clear hK K x y hHeld
 replace B3 : xaA ((v0.setCell ⟨b3, 4, none⟩ (.float .f64 a4)).heap[b3]? = some (.cells #[.int .i64 3, .int .i64 a1, .int .i64 a2, .float .f64 a3, .float .f64 a4, .int .i64 0, .int .i64 0, .int .i64 0, .int .i64 0, .int .i64 0, .int .i64 0] 103 (0, 0))) := ⟨xaN B3.out 4 _ rfl⟩
 replace HB := am (xaF (g := b3) (j := 4) (v := .float .f64 a4) HB.out HNE.out.2)
 generalize v0.setCell ⟨b3, 4, none⟩ (.float .f64 a4) = v1 at *
 refine rP 18 ?_
 have x := (xaB B3.out 8).trans rfl;have y := xaE B3.out 8
 refine rO 19 (fun K hK => ?_)
 refine skip_ (w1 := ?_) (by rfl) rfl ?_ ?_
 rotate_left
 ·
  go_simp
  rfl
 replace B1 := am ((Below.heap_setCell v1 ⟨b3, 8, none⟩ (.int .i64 a8) b1 HNE.out.1).trans B1.out)
 refine hK.out _ _ ⟨(xaB B1.out 3).trans rfl, (xaB B1.out 4).trans rfl, (xaB B1.out 8).trans rfl, (xaB B1.out 5).trans rfl, (xaB B1.out 6).trans rfl, (xaB B1.out 9).trans rfl, (xaB B1.out 7).trans rfl⟩ (fun hHeld => ?_)
 clear hK K x y hHeld
 replace B3 : xaA ((v1.setCell ⟨b3, 8, none⟩ (.int .i64 a8)).heap[b3]? = some (.cells #[.int .i64 3, .int .i64 a1, .int .i64 a2, .float .f64 a3, .float .f64 a4, .int .i64 0, .int .i64 0, .int .i64 0, .int .i64 a8, .int .i64 0, .int .i64 0] 103 (0, 0))) := ⟨xaN B3.out 8 _ rfl⟩
 replace HB := am (xaF (g := b3) (j := 8) (v := .int .i64 a8) HB.out HNE.out.2)
 generalize v1.setCell ⟨b3, 8, none⟩ (.int .i64 a8) = v2 at *
 refine rP 20 ?_
 have x := (xaB B3.out 5).trans rfl;have y := xaE B3.out 5
 refine rO 21 (fun K hK => ?_)
 refine skip_ (w1 := ?_) (by rfl) rfl ?_ ?_
 rotate_left
 ·
  go_simp
  rfl
 replace B1 := am ((Below.heap_setCell v2 ⟨b3, 5, none⟩ (.int .i64 a5) b1 HNE.out.1).trans B1.out)
 refine hK.out _ _ ⟨(xaB B1.out 3).trans rfl, (xaB B1.out 4).trans rfl, (xaB B1.out 8).trans rfl, (xaB B1.out 5).trans rfl, (xaB B1.out 6).trans rfl, (xaB B1.out 9).trans rfl, (xaB B1.out 7).trans rfl⟩ (fun hHeld => ?_)
 clear hK K x y hHeld
 replace B3 : xaA ((v2.setCell ⟨b3, 5, none⟩ (.int .i64 a5)).heap[b3]? = some (.cells #[.int .i64 3, .int .i64 a1, .int .i64 a2, .float .f64 a3, .float .f64 a4, .int .i64 a5, .int .i64 0, .int .i64 0, .int .i64 a8, .int .i64 0, .int .i64 0] 103 (0, 0))) := ⟨xaN B3.out 5 _ rfl⟩
 replace HB := am (xaF (g := b3) (j := 5) (v := .int .i64 a5) HB.out HNE.out.2)
 generalize v2.setCell ⟨b3, 5, none⟩ (.int .i64 a5) = v3 at *
 refine rP 22 ?_
 have x := (xaB B3.out 6).trans rfl;have y := xaE B3.out 6
 refine rO 23 (fun K hK => ?_)
 refine skip_ (w1 := ?_) (by rfl) rfl ?_ ?_
 rotate_left
 ·
  go_simp
  rfl
 replace B1 := am ((Below.heap_setCell v3 ⟨b3, 6, none⟩ (.int .i64 a6) b1 HNE.out.1).trans B1.out)
 refine hK.out _ _ ⟨(xaB B1.out 3).trans rfl, (xaB B1.out 4).trans rfl, (xaB B1.out 8).trans rfl, (xaB B1.out 5).trans rfl, (xaB B1.out 6).trans rfl, (xaB B1.out 9).trans rfl, (xaB B1.out 7).trans rfl⟩ (fun hHeld => ?_)
 clear hK K x y hHeld
 replace B3 : xaA ((v3.setCell ⟨b3, 6, none⟩ (.int .i64 a6)).heap[b3]? = some (.cells #[.int .i64 3, .int .i64 a1, .int .i64 a2, .float .f64 a3, .float .f64 a4, .int .i64 a5, .int .i64 a6, .int .i64 0, .int .i64 a8, .int .i64 0, .int .i64 0] 103 (0, 0))) := ⟨xaN B3.out 6 _ rfl⟩
 replace HB := am (xaF (g := b3) (j := 6) (v := .int .i64 a6) HB.out HNE.out.2)
 generalize v3.setCell ⟨b3, 6, none⟩ (.int .i64 a6) = v4 at *
 refine rP 24 ?_
 have x := (xaB B3.out 9).trans rfl;have y := xaE B3.out 9
 refine rO 25 (fun K hK => ?_)
 refine skip_ (w1 := ?_) (by rfl) rfl ?_ ?_
 rotate_left
 ·
  go_simp
  rfl
 replace B1 := am ((Below.heap_setCell v4 ⟨b3, 9, none⟩ (.int .i64 a9) b1 HNE.out.1).trans B1.out)
 refine hK.out _ _ ⟨(xaB B1.out 3).trans rfl, (xaB B1.out 4).trans rfl, (xaB B1.out 8).trans rfl, (xaB B1.out 5).trans rfl, (xaB B1.out 6).trans rfl, (xaB B1.out 9).trans rfl, (xaB B1.out 7).trans rfl⟩ (fun hHeld => ?_)
 clear hK K x y hHeld
 replace B3 : xaA ((v4.setCell ⟨b3, 9, none⟩ (.int .i64 a9)).heap[b3]? = some (.cells #[.int .i64 3, .int .i64 a1, .int .i64 a2, .float .f64 a3, .float .f64 a4, .int .i64 a5, .int .i64 a6, .int .i64 0, .int .i64 a8, .int .i64 a9, .int .i64 0] 103 (0, 0))) := ⟨xaN B3.out 9 _ rfl⟩
 replace HB := am (xaF (g := b3) (j := 9) (v := .int .i64 a9) HB.out HNE.out.2)
 generalize v4.setCell ⟨b3, 9, none⟩ (.int .i64 a9) = v5 at *
 refine rP 26 ?_
 have x := (xaB B3.out 7).trans rfl;have y := xaE B3.out 7
 refine rO 27 (fun K hK => ?_)
 refine skip_ (w1 := ?_) (by rfl) rfl ?_ ?_
 rotate_left
 ·
  go_simp
  rfl
 replace B1 := am ((Below.heap_setCell v5 ⟨b3, 7, none⟩ (.int .i64 a7) b1 HNE.out.1).trans B1.out)
 refine hK.out _ _ ⟨(xaB B1.out 3).trans rfl, (xaB B1.out 4).trans rfl, (xaB B1.out 8).trans rfl, (xaB B1.out 5).trans rfl, (xaB B1.out 6).trans rfl, (xaB B1.out 9).trans rfl, (xaB B1.out 7).trans rfl⟩ (fun hHeld => ?_)
 clear hK K x y hHeld
 replace B3 : xaA ((v5.setCell ⟨b3, 7, none⟩ (.int .i64 a7)).heap[b3]? = some (.cells #[.int .i64 3, .int .i64 a1, .int .i64 a2, .float .f64 a3, .float .f64 a4, .int .i64 a5, .int .i64 a6, .int .i64 a7, .int .i64 a8, .int .i64 a9, .int .i64 0] 103 (0, 0))) := ⟨xaN B3.out 7 _ rfl⟩
 replace HB := am (xaF (g := b3) (j := 7) (v := .int .i64 a7) HB.out HNE.out.2)
 generalize v5.setCell ⟨b3, 7, none⟩ (.int .i64 a7) = w5 at *
 refine rD ?_
 have BB1 := B1;have HBB := HB;have BB3 := B3
 have c_ := blk11 BB1;have d_ := blk11 BB3
 obtain ⟨q, hq⟩ : ∃ q, decide (a5 < a6) = q := ⟨_, rfl⟩
 cases q
 all_goals
  go_wp2_with (first | (go_at_call 92; (with_reducible refine (xgQ _ _).mono ?_); rintro e w' ⟨rfl, hw_⟩; obtain rfl := hw_.symm) | (go_at_call 93; (with_reducible refine (xfK _ _ _ _).mono ?_); rintro e w' ⟨rfl, hw_⟩; obtain rfl := hw_.symm) | (go_at_call 94; (with_reducible refine (is_c _ _).mono ?_); rintro e w' ⟨rfl, hw_⟩; obtain rfl := hw_.symm) | (go_at_call 95; go_loud ((with_reducible refine (xdJ _ _ _ _ _ _ _ _ _ _ _ _ _ _ _ _ _ _ _ _ _ _ _).mono ?_); rintro e w9 ⟨rfl, hb9⟩; have HB9 := am hb9; clear hb9)))
 all_goals
  go_ret
  exact ⟨congrArg (fun b => Ending.returned (.bool b)) (by simp [fieldsB, okT, keptT, sameT, *]), by first | exact HBB.out.trans (HB9.out.mono HBB.out.size) | exact HBB.out⟩
theorem fields4 (a1 a2 : Int) (a3 a4 : Nat) (a5 a6 a7 a8 a9 a10 : Int) (w : World) : Calls Tryz.prog 69 #[.agg #[.int .i64 4, .int .i64 a1, .int .i64 a2, .float .f64 a3, .float .f64 a4, .int .i64 a5, .int .i64 a6, .int .i64 a7, .int .i64 a8, .int .i64 a9, .int .i64 a10]] w fun e w' => e = .returned (.bool (fieldsB ⟨4, a1, a2, a3, a4, a5, a6, a7, a8, a9, a10⟩)) ∧ Below w.heap.size w w' := by
 go_enter Tryz.func69, Tryz.ntmps69
 go_wp2_with (first | (go_at_call 91; go_loud ((with_reducible refine (xgG _ _ _ _ _ _ _ _ _ _ _ _).mono ?_); rintro e w1 ⟨rfl, hb⟩; obtain ⟨B1, B3, HB, HZ⟩ := xfV (B := #[.int .i64 4, .int .i64 a1, .int .i64 a2, .float .f64 0, .float .f64 0, .int .i64 0, .int .i64 0, .int .i64 0, .int .i64 0, .int .i64 0, .int .i64 0]) hb; have c_ := blk11 B1; have d_ := blk11 B3)))
 refine (xdJ _ _ _ _ _ _ _ _ _ _ _ _ _ _ _ _ _ _ _ _ _ _ _).mono ?_
 rintro e w9 ⟨rfl, hb9⟩
 have HB9 := am hb9;clear hb9 c_ d_
 go_wp2_with fail
 go_ret
 exact ⟨congrArg (fun b => Ending.returned (.bool b)) (by simp [fieldsB, okT, keptT, sameT]), HB.out.trans (HB9.out.mono HB.out.size)⟩
theorem fields5 (a1 a2 : Int) (a3 a4 : Nat) (a5 a6 a7 a8 a9 a10 : Int) (w : World) : Calls Tryz.prog 69 #[.agg #[.int .i64 5, .int .i64 a1, .int .i64 a2, .float .f64 a3, .float .f64 a4, .int .i64 a5, .int .i64 a6, .int .i64 a7, .int .i64 a8, .int .i64 a9, .int .i64 a10]] w fun e w' => e = .returned (.bool (fieldsB ⟨5, a1, a2, a3, a4, a5, a6, a7, a8, a9, a10⟩)) ∧ Below w.heap.size w w' := by
 go_enter Tryz.func69, Tryz.ntmps69
 go_wp2_with (first | (go_at_call 91; go_loud ((with_reducible refine (xgG _ _ _ _ _ _ _ _ _ _ _ _).mono ?_); rintro e w1 ⟨rfl, hb⟩; obtain ⟨B1, B3, HB, HZ⟩ := xfV (B := #[.int .i64 5, .int .i64 a1, .int .i64 a2, .float .f64 0, .float .f64 0, .int .i64 0, .int .i64 0, .int .i64 0, .int .i64 0, .int .i64 0, .int .i64 0]) hb; have c_ := blk11 B1; have d_ := blk11 B3)))
 refine (xdJ _ _ _ _ _ _ _ _ _ _ _ _ _ _ _ _ _ _ _ _ _ _ _).mono ?_
 rintro e w9 ⟨rfl, hb9⟩
 have HB9 := am hb9;clear hb9 c_ d_
 go_wp2_with fail
 go_ret
 exact ⟨congrArg (fun b => Ending.returned (.bool b)) (by simp [fieldsB, okT, keptT, sameT]), HB.out.trans (HB9.out.mono HB.out.size)⟩
theorem fields6 (a1 a2 : Int) (a3 a4 : Nat) (a5 a6 a7 a8 a9 a10 : Int) (w : World) : Calls Tryz.prog 69 #[.agg #[.int .i64 6, .int .i64 a1, .int .i64 a2, .float .f64 a3, .float .f64 a4, .int .i64 a5, .int .i64 a6, .int .i64 a7, .int .i64 a8, .int .i64 a9, .int .i64 a10]] w fun e w' => e = .returned (.bool (fieldsB ⟨6, a1, a2, a3, a4, a5, a6, a7, a8, a9, a10⟩)) ∧ Below w.heap.size w w' := by
 go_enter Tryz.func69, Tryz.ntmps69
 go_wp2_with (first | (go_at_call 91; go_loud ((with_reducible refine (xgG _ _ _ _ _ _ _ _ _ _ _ _).mono ?_); rintro e w1 ⟨rfl, hb⟩; obtain ⟨B1, B3, HB, HZ⟩ := xfV (B := #[.int .i64 6, .int .i64 a1, .int .i64 a2, .float .f64 0, .float .f64 0, .int .i64 0, .int .i64 0, .int .i64 0, .int .i64 0, .int .i64 0, .int .i64 0]) hb; have c_ := blk11 B1; have d_ := blk11 B3; obtain ⟨B16, B36, HB6, _⟩ := xfV (B := #[.int .i64 6, .int .i64 a1, .int .i64 a2, .float .f64 a3, .float .f64 0, .int .i64 0, .int .i64 0, .int .i64 0, .int .i64 0, .int .i64 0, .int .i64 0]) hb; have e_ := blk11 B16)))
 clear c_ d_ e_
 obtain ⟨b1, hb1⟩ : ∃ b, b = w.heap.size := ⟨_, rfl⟩
 obtain ⟨b3, hb3⟩ : ∃ b, b = w1.heap.size := ⟨_, rfl⟩
 have HNE : xaA (b1 ≠ b3 ∧ w.heap.size ≤ b3) := ⟨by have := HZ.out; omega⟩
 rw [← hb1] at B16 ⊢
 rw [← hb3] at B36 ⊢
 have BB1 := B16;have BB3 := B36;have HBB := HB6
 generalize w1.alloc (.cells #[.int .i64 6, .int .i64 a1, .int .i64 a2, .float .f64 a3, .float .f64 0, .int .i64 0, .int .i64 0, .int .i64 0, .int .i64 0, .int .i64 0, .int .i64 0] 103) = w5 at *
 clear B16 B36 HB6 B1 B3 hb1 hb3 HZ HB;have c_ := blk11 BB1;have d_ := blk11 BB3
 refine (xgQ _ _).mono ?_
 rintro e w' ⟨rfl, hw_⟩
 obtain rfl := hw_.symm
 go_wp2_with (first | (go_at_call 92; (with_reducible refine (xgQ _ _).mono ?_); rintro e w' ⟨rfl, hw_⟩; obtain rfl := hw_.symm) | (go_at_call 93; (with_reducible refine (xfK _ _ _ _).mono ?_); rintro e w' ⟨rfl, hw_⟩; obtain rfl := hw_.symm) | (go_at_call 94; (with_reducible refine (is_c _ _).mono ?_); rintro e w' ⟨rfl, hw_⟩; obtain rfl := hw_.symm) | (go_at_call 95; go_loud ((with_reducible refine (xdJ _ _ _ _ _ _ _ _ _ _ _ _ _ _ _ _ _ _ _ _ _ _ _).mono ?_); rintro e w9 ⟨rfl, hb9⟩; have HB9 := am hb9; clear hb9)))
 all_goals
  go_ret
  exact ⟨congrArg (fun b => Ending.returned (.bool b)) (by simp [fieldsB, okT, keptT, sameT, *]), by first | exact HBB.out.trans (HB9.out.mono HBB.out.size) | exact HBB.out⟩
theorem fields7 (a1 a2 : Int) (a3 a4 : Nat) (a5 a6 a7 a8 a9 a10 : Int) (w : World) : Calls Tryz.prog 69 #[.agg #[.int .i64 7, .int .i64 a1, .int .i64 a2, .float .f64 a3, .float .f64 a4, .int .i64 a5, .int .i64 a6, .int .i64 a7, .int .i64 a8, .int .i64 a9, .int .i64 a10]] w fun e w' => e = .returned (.bool (fieldsB ⟨7, a1, a2, a3, a4, a5, a6, a7, a8, a9, a10⟩)) ∧ Below w.heap.size w w' := by
 go_enter Tryz.func69, Tryz.ntmps69
 go_wp2_with (first | (go_at_call 91; go_loud ((with_reducible refine (xgG _ _ _ _ _ _ _ _ _ _ _ _).mono ?_); rintro e w1 ⟨rfl, hb⟩; obtain ⟨B1, B3, HB, HZ⟩ := xfV (B := #[.int .i64 7, .int .i64 a1, .int .i64 a2, .float .f64 0, .float .f64 0, .int .i64 0, .int .i64 0, .int .i64 0, .int .i64 0, .int .i64 0, .int .i64 0]) hb; have c_ := blk11 B1; have d_ := blk11 B3)))
 clear c_ d_
 obtain ⟨b1, hb1⟩ : ∃ b, b = w.heap.size := ⟨_, rfl⟩
 obtain ⟨b3, hb3⟩ : ∃ b, b = w1.heap.size := ⟨_, rfl⟩
 have HNE : xaA (b1 ≠ b3 ∧ w.heap.size ≤ b3) := ⟨by have := HZ.out; omega⟩
 rw [← hb1] at B1 ⊢
 rw [← hb3] at B3 ⊢
 clear hb1 hb3 HZ
 refine xcA ?_
 refine xbL (n := 8) (S := fun w' => w'.cell? ⟨b1, 5, none⟩ = some (.int .i64 a5) ∧ w'.cell? ⟨b1, 6, none⟩ = some (.int .i64 a6)) (ds := []) #[false, false, false, false, false, false, false, false] (by kernel_rfl) rfl rfl ⟨(xaB (xaP B1.out) 5).trans rfl, (xaB (xaP B1.out) 6).trans rfl⟩ (fun hHeld => ?_)
 replace B1 := am (xaP B1.out)
 replace B3 := am (xaP B3.out)
 replace HB := am (xaK HB.out)
 generalize (w1.alloc (.cells #[.int .i64 7, .int .i64 a1, .int .i64 a2, .float .f64 0, .float .f64 0, .int .i64 0, .int .i64 0, .int .i64 0, .int .i64 0, .int .i64 0, .int .i64 0] 103)).drew = w2 at *
 refine rP 0 ?_
 refine rT 1 ?_
 refine rP 2 ?_
 refine rT 3 ?_
 clear hHeld
 refine rP 4 ?_
 have x := (xaB B3.out 5).trans rfl;have y := xaE B3.out 5
 refine rO 5 (fun K hK => ?_)
 refine skip_ (w1 := ?_) (by rfl) rfl ?_ ?_
 rotate_left
 ·
  go_simp
  rfl
 replace B1 := am ((Below.heap_setCell w2 ⟨b3, 5, none⟩ (.int .i64 a5) b1 HNE.out.1).trans B1.out)
 refine hK.out _ _ ⟨(xaB B1.out 5).trans rfl, (xaB B1.out 6).trans rfl⟩ (fun hHeld => ?_)
 clear hK K x y hHeld
 replace B3 : xaA ((w2.setCell ⟨b3, 5, none⟩ (.int .i64 a5)).heap[b3]? = some (.cells #[.int .i64 7, .int .i64 a1, .int .i64 a2, .float .f64 0, .float .f64 0, .int .i64 a5, .int .i64 0, .int .i64 0, .int .i64 0, .int .i64 0, .int .i64 0] 103 (0, 0))) := ⟨xaN B3.out 5 _ rfl⟩
 replace HB := am (xaF (g := b3) (j := 5) (v := .int .i64 a5) HB.out HNE.out.2)
 generalize w2.setCell ⟨b3, 5, none⟩ (.int .i64 a5) = v0 at *
 refine rP 6 ?_
 have x := (xaB B3.out 6).trans rfl;have y := xaE B3.out 6
 refine rO 7 (fun K hK => ?_)
 refine skip_ (w1 := ?_) (by rfl) rfl ?_ ?_
 rotate_left
 ·
  go_simp
  rfl
 replace B1 := am ((Below.heap_setCell v0 ⟨b3, 6, none⟩ (.int .i64 a6) b1 HNE.out.1).trans B1.out)
 refine hK.out _ _ ⟨(xaB B1.out 5).trans rfl, (xaB B1.out 6).trans rfl⟩ (fun hHeld => ?_)
 clear hK K x y hHeld
 replace B3 : xaA ((v0.setCell ⟨b3, 6, none⟩ (.int .i64 a6)).heap[b3]? = some (.cells #[.int .i64 7, .int .i64 a1, .int .i64 a2, .float .f64 0, .float .f64 0, .int .i64 a5, .int .i64 a6, .int .i64 0, .int .i64 0, .int .i64 0, .int .i64 0] 103 (0, 0))) := ⟨xaN B3.out 6 _ rfl⟩
 replace HB := am (xaF (g := b3) (j := 6) (v := .int .i64 a6) HB.out HNE.out.2)
 generalize v0.setCell ⟨b3, 6, none⟩ (.int .i64 a6) = w5 at *
 refine rD ?_
 have BB1 := B1;have HBB := HB;have BB3 := B3
 have c_ := blk11 BB1;have d_ := blk11 BB3
 go_wp2_with (first | (go_at_call 92; (with_reducible refine (xgQ _ _).mono ?_); rintro e w' ⟨rfl, hw_⟩; obtain rfl := hw_.symm) | (go_at_call 93; (with_reducible refine (xfK _ _ _ _).mono ?_); rintro e w' ⟨rfl, hw_⟩; obtain rfl := hw_.symm) | (go_at_call 94; (with_reducible refine (is_c _ _).mono ?_); rintro e w' ⟨rfl, hw_⟩; obtain rfl := hw_.symm) | (go_at_call 95; go_loud ((with_reducible refine (xdJ _ _ _ _ _ _ _ _ _ _ _ _ _ _ _ _ _ _ _ _ _ _ _).mono ?_); rintro e w9 ⟨rfl, hb9⟩; have HB9 := am hb9; clear hb9)))
 all_goals
  go_ret
  exact ⟨congrArg (fun b => Ending.returned (.bool b)) (by simp [fieldsB, okT, keptT, sameT, *]), by first | exact HBB.out.trans (HB9.out.mono HBB.out.size) | exact HBB.out⟩
theorem fields8 (a1 a2 : Int) (a3 a4 : Nat) (a5 a6 a7 a8 a9 a10 : Int) (w : World) : Calls Tryz.prog 69 #[.agg #[.int .i64 8, .int .i64 a1, .int .i64 a2, .float .f64 a3, .float .f64 a4, .int .i64 a5, .int .i64 a6, .int .i64 a7, .int .i64 a8, .int .i64 a9, .int .i64 a10]] w fun e w' => e = .returned (.bool (fieldsB ⟨8, a1, a2, a3, a4, a5, a6, a7, a8, a9, a10⟩)) ∧ Below w.heap.size w w' := by
 go_enter Tryz.func69, Tryz.ntmps69
 go_wp2_with (first | (go_at_call 91; go_loud ((with_reducible refine (xgG _ _ _ _ _ _ _ _ _ _ _ _).mono ?_); rintro e w1 ⟨rfl, hb⟩; obtain ⟨B1, B3, HB, HZ⟩ := xfV (B := #[.int .i64 8, .int .i64 a1, .int .i64 a2, .float .f64 0, .float .f64 0, .int .i64 0, .int .i64 0, .int .i64 0, .int .i64 0, .int .i64 0, .int .i64 0]) hb; have c_ := blk11 B1; have d_ := blk11 B3)))
 clear c_ d_
 obtain ⟨b1, hb1⟩ : ∃ b, b = w.heap.size := ⟨_, rfl⟩
 obtain ⟨b3, hb3⟩ : ∃ b, b = w1.heap.size := ⟨_, rfl⟩
 have HNE : xaA (b1 ≠ b3 ∧ w.heap.size ≤ b3) := ⟨by have := HZ.out; omega⟩
 rw [← hb1] at B1 ⊢
 rw [← hb3] at B3 ⊢
 clear hb1 hb3 HZ
 refine xcA ?_
 refine xbL (n := 8) (S := fun w' => w'.cell? ⟨b1, 9, none⟩ = some (.int .i64 a9) ∧ w'.cell? ⟨b1, 10, none⟩ = some (.int .i64 a10)) (ds := []) #[false, false, false, false, false, false, false, false] (by kernel_rfl) rfl rfl ⟨(xaB (xaP B1.out) 9).trans rfl, (xaB (xaP B1.out) 10).trans rfl⟩ (fun hHeld => ?_)
 replace B1 := am (xaP B1.out)
 replace B3 := am (xaP B3.out)
 replace HB := am (xaK HB.out)
 generalize (w1.alloc (.cells #[.int .i64 8, .int .i64 a1, .int .i64 a2, .float .f64 0, .float .f64 0, .int .i64 0, .int .i64 0, .int .i64 0, .int .i64 0, .int .i64 0, .int .i64 0] 103)).drew = w2 at *
 refine rP 0 ?_
 refine rT 1 ?_
 refine rP 2 ?_
 refine rT 3 ?_
 clear hHeld
 refine rP 4 ?_
 have x := (xaB B3.out 9).trans rfl;have y := xaE B3.out 9
 refine rO 5 (fun K hK => ?_)
 refine skip_ (w1 := ?_) (by rfl) rfl ?_ ?_
 rotate_left
 ·
  go_simp
  rfl
 replace B1 := am ((Below.heap_setCell w2 ⟨b3, 9, none⟩ (.int .i64 a9) b1 HNE.out.1).trans B1.out)
 refine hK.out _ _ ⟨(xaB B1.out 9).trans rfl, (xaB B1.out 10).trans rfl⟩ (fun hHeld => ?_)
 clear hK K x y hHeld
 replace B3 : xaA ((w2.setCell ⟨b3, 9, none⟩ (.int .i64 a9)).heap[b3]? = some (.cells #[.int .i64 8, .int .i64 a1, .int .i64 a2, .float .f64 0, .float .f64 0, .int .i64 0, .int .i64 0, .int .i64 0, .int .i64 0, .int .i64 a9, .int .i64 0] 103 (0, 0))) := ⟨xaN B3.out 9 _ rfl⟩
 replace HB := am (xaF (g := b3) (j := 9) (v := .int .i64 a9) HB.out HNE.out.2)
 generalize w2.setCell ⟨b3, 9, none⟩ (.int .i64 a9) = v0 at *
 refine rP 6 ?_
 have x := (xaB B3.out 10).trans rfl;have y := xaE B3.out 10
 refine rO 7 (fun K hK => ?_)
 refine skip_ (w1 := ?_) (by rfl) rfl ?_ ?_
 rotate_left
 ·
  go_simp
  rfl
 replace B1 := am ((Below.heap_setCell v0 ⟨b3, 10, none⟩ (.int .i64 a10) b1 HNE.out.1).trans B1.out)
 refine hK.out _ _ ⟨(xaB B1.out 9).trans rfl, (xaB B1.out 10).trans rfl⟩ (fun hHeld => ?_)
 clear hK K x y hHeld
 replace B3 : xaA ((v0.setCell ⟨b3, 10, none⟩ (.int .i64 a10)).heap[b3]? = some (.cells #[.int .i64 8, .int .i64 a1, .int .i64 a2, .float .f64 0, .float .f64 0, .int .i64 0, .int .i64 0, .int .i64 0, .int .i64 0, .int .i64 a9, .int .i64 a10] 103 (0, 0))) := ⟨xaN B3.out 10 _ rfl⟩
 replace HB := am (xaF (g := b3) (j := 10) (v := .int .i64 a10) HB.out HNE.out.2)
 generalize v0.setCell ⟨b3, 10, none⟩ (.int .i64 a10) = w5 at *
 refine rD ?_
 have BB1 := B1;have HBB := HB;have BB3 := B3
 have c_ := blk11 BB1;have d_ := blk11 BB3
 go_wp2_with (first | (go_at_call 92; (with_reducible refine (xgQ _ _).mono ?_); rintro e w' ⟨rfl, hw_⟩; obtain rfl := hw_.symm) | (go_at_call 93; (with_reducible refine (xfK _ _ _ _).mono ?_); rintro e w' ⟨rfl, hw_⟩; obtain rfl := hw_.symm) | (go_at_call 94; (with_reducible refine (is_c _ _).mono ?_); rintro e w' ⟨rfl, hw_⟩; obtain rfl := hw_.symm) | (go_at_call 95; go_loud ((with_reducible refine (xdJ _ _ _ _ _ _ _ _ _ _ _ _ _ _ _ _ _ _ _ _ _ _ _).mono ?_); rintro e w9 ⟨rfl, hb9⟩; have HB9 := am hb9; clear hb9)))
 all_goals
  go_ret
  exact ⟨congrArg (fun b => Ending.returned (.bool b)) (by simp [fieldsB, okT, keptT, sameT, *]), by first | exact HBB.out.trans (HB9.out.mono HBB.out.size) | exact HBB.out⟩
theorem fields_no (a0 a1 a2 : Int) (a3 a4 : Nat) (a5 a6 a7 a8 a9 a10 : Int) (w : World) (h : a0 < 1 ∨ 8 < a0) : Calls Tryz.prog 69 #[.agg #[.int .i64 a0, .int .i64 a1, .int .i64 a2, .float .f64 a3, .float .f64 a4, .int .i64 a5, .int .i64 a6, .int .i64 a7, .int .i64 a8, .int .i64 a9, .int .i64 a10]] w fun e w' => e = .returned (.bool false) ∧ Below w.heap.size w w' := by
 have t1 : (a0 == 1) = false := by rw [beq_eq_false_iff_ne]; omega
 have t2 : (a0 == 2) = false := by rw [beq_eq_false_iff_ne]; omega
 have t3 : (a0 == 3) = false := by rw [beq_eq_false_iff_ne]; omega
 have t4 : (a0 == 4) = false := by rw [beq_eq_false_iff_ne]; omega
 have t5 : (a0 == 5) = false := by rw [beq_eq_false_iff_ne]; omega
 have t6 : (a0 == 6) = false := by rw [beq_eq_false_iff_ne]; omega
 have t7 : (a0 == 7) = false := by rw [beq_eq_false_iff_ne]; omega
 have t8 : (a0 == 8) = false := by rw [beq_eq_false_iff_ne]; omega
 clear h
 go_enter Tryz.func69, Tryz.ntmps69
 go_wp2_with (go_at_call 91; go_loud ((with_reducible refine (xgG _ _ _ _ _ _ _ _ _ _ _ _).mono ?_); rintro e w1 ⟨rfl, hb⟩; obtain ⟨B1, B3, HB, HZ⟩ := xfV (B := #[.int .i64 a0, .int .i64 a1, .int .i64 a2, .float .f64 0, .float .f64 0, .int .i64 0, .int .i64 0, .int .i64 0, .int .i64 0, .int .i64 0, .int .i64 0]) hb; have c_ := blk11 B1))
 go_ret
 exact ⟨rfl, HB.out⟩
theorem fields_c (t : S103) (w : World) : Calls Tryz.prog 69 #[.agg #[.int .i64 t.f0, .int .i64 t.f1, .int .i64 t.f2, .float .f64 t.f3, .float .f64 t.f4, .int .i64 t.f5, .int .i64 t.f6, .int .i64 t.f7, .int .i64 t.f8, .int .i64 t.f9, .int .i64 t.f10]] w fun e w' => e = .returned (.bool (fieldsB t)) ∧ Below w.heap.size w w' := by
 obtain ⟨a0, a1, a2, a3, a4, a5, a6, a7, a8, a9, a10⟩ := t
 simp only
 by_cases h1 : a0 = 1
 ·
  subst h1; exact fields1 _ _ _ _ _ _ _ _ _ _ w
 by_cases h2 : a0 = 2
 ·
  subst h2; exact fields2 _ _ _ _ _ _ _ _ _ _ w
 by_cases h3 : a0 = 3
 ·
  subst h3; exact fields3 _ _ _ _ _ _ _ _ _ _ w
 by_cases h4 : a0 = 4
 ·
  subst h4; exact fields4 _ _ _ _ _ _ _ _ _ _ w
 by_cases h5 : a0 = 5
 ·
  subst h5; exact fields5 _ _ _ _ _ _ _ _ _ _ w
 by_cases h6 : a0 = 6
 ·
  subst h6; exact fields6 _ _ _ _ _ _ _ _ _ _ w
 by_cases h7 : a0 = 7
 ·
  subst h7; exact fields7 _ _ _ _ _ _ _ _ _ _ w
 by_cases h8 : a0 = 8
 ·
  subst h8; exact fields8 _ _ _ _ _ _ _ _ _ _ w
 have e : fieldsB ⟨a0, a1, a2, a3, a4, a5, a6, a7, a8, a9, a10⟩ = false := by
  unfold fieldsB
  rw [decide_eq_false (by simp only; omega), Bool.false_and]
 rw [e]
 exact fields_no _ _ _ _ _ _ _ _ _ _ _ w (by omega)
def IB (w : World) (b : Nat) (l : List Int) : Prop := w.heap[b]? = some (.cells (l.map (Value.int .i64)).toArray 3 (0, 0))
section
variable {w w1 : World} {b b' : Nat} {l : List Int}
theorem IB.cell (h : IB w b l) (j : Nat) (hj : j < l.length) : w.cell? ⟨b, j, none⟩ = some (.int .i64 l[j]) := (xaB h j).trans (by simp [hj])
theorem IB.frozen (h : IB w b l) (j : Nat) : w.frozen? ⟨b, j, none⟩ = false := xaE h j
theorem IB.put (h : IB w b l) (j : Nat) (v : Int) : IB (w.setCell ⟨b, j, none⟩ (.int .i64 v)) b (l.set j v) := xaN h j _ (by simp [List.map_set])
theorem IB.other (h : IB w b l) (hne : b ≠ b') (j : Nat) (u : Value) : IB (w.setCell ⟨b', j, none⟩ u) b l := (Below.heap_setCell _ _ _ _ hne).trans h
theorem IB.below (h : IB w b l) (hb : Below w.heap.size w w1) : IB w1 b l := xaD h hb
theorem IB.fr {G : Nat → Prop} (h : IB w b l) (hf : Fr G w w1) (hn : ¬ G b) : IB w1 b l := hf.blk h hn
theorem IB.lt (h : IB w b l) : b < w.heap.size := xaM h
end
def rdI (l : List Int) (i : Int) : Int := l.getD i.toNat 0
theorem IB.rd {w : World} {b : Nat} {l : List Int} (h : IB w b l) (z : Int) (h0 : 0 ≤ z) (h1 : z < l.length) : w.cell? ⟨b, z.toNat, none⟩ = some (.int .i64 (rdI l z)) := by
  have h2 : z.toNat < l.length := by omega
  rw [h.cell _ h2]; unfold rdI; rw [List.getD_eq_getElem?_getD, List.getElem?_eq_getElem h2]; rfl
def xeJ (k : Int) : Int := if k = 1 ∨ k = 2 ∨ k = 3 then 0 else if k = 5 then 2 else 1
theorem xdY (k : Int) (w : World) : Calls Tryz.prog 47 #[.int .i64 k] w fun e w' => e = .returned (.int .i64 (xeJ k)) ∧ w' = w := by
 by_cases h1 : k = 1
 ·
  subst h1
  go_enter Tryz.func47, Tryz.ntmps47
  go_wp2
  go_ret
  exact ⟨rfl, rfl⟩
 have t1 : (k == 1) = false := by rw [beq_eq_false_iff_ne]; exact h1
 by_cases h2 : k = 2
 ·
  subst h2
  go_enter Tryz.func47, Tryz.ntmps47
  go_wp2
  go_ret
  exact ⟨rfl, rfl⟩
 have t2 : (k == 2) = false := by rw [beq_eq_false_iff_ne]; exact h2
 by_cases h3 : k = 3
 ·
  subst h3
  go_enter Tryz.func47, Tryz.ntmps47
  go_wp2
  go_ret
  exact ⟨rfl, rfl⟩
 have t3 : (k == 3) = false := by rw [beq_eq_false_iff_ne]; exact h3
 by_cases h5 : k = 5
 ·
  subst h5
  go_enter Tryz.func47, Tryz.ntmps47
  go_wp2
  go_ret
  exact ⟨rfl, rfl⟩
 have t5 : (k == 5) = false := by rw [beq_eq_false_iff_ne]; exact h5
 have e : xeJ k = 1 := by unfold xeJ; rw [if_neg (by omega), if_neg h5]
 rw [e]
 clear h1 h2 h3 h5 e
 go_enter Tryz.func47, Tryz.ntmps47
 go_wp2
 go_ret
 exact ⟨rfl, rfl⟩
def fitsP (k a b : Int) (i : Nat) (first deep : List Int) : Bool × List Int × List Int :=
 if xeJ k = 0 then (a == 0 && b == 0, first, deep)
 else if xeJ k = 1 then (if i = 0 ∨ a ≠ (i : Int) - 1 ∨ b ≠ 0 then (false, first, deep) else (true, first.set i (rdI first ((i : Int) - 1)), deep.set i (rdI deep ((i : Int) - 1) + 1)))
 else if i = 0 ∨ b ≠ (i : Int) - 1 ∨ rdI first ((i : Int) - 1) = 0 ∨ a ≠ rdI first ((i : Int) - 1) - 1 then (false, first, deep)
 else (true, first.set i (rdI first a), deep.set i (max (rdI deep a) (rdI deep b) + 1))
structure Rows2 (n i : Nat) (first deep : List Int) : Prop where
 lf : first.length = n
 ld : deep.length = n
 f : ∀ j, j < i → 0 ≤ first.getD j 0 ∧ first.getD j 0 ≤ (j : Int)
 d : ∀ j, j < i → 0 ≤ deep.getD j 0 ∧ deep.getD j 0 ≤ (j : Int) + 1
end Go.Proofs.YtkabcgmegljebaaGreatDoor.H
