/- Contracts and facts of functions of the program, joined in one text. -/
import Derived.Test.YtkabcgmegljebaaGreatDoorRGF
import Derived.Defers
set_option maxHeartbeats 8000000
set_option maxRecDepth 100000
set_option linter.unusedVariables false
set_option linter.unusedSimpArgs false
namespace Go.Proofs.YtkabcgmegljebaaGreatDoor.H
open Go.RowKit Go.Proofs.YtkabcgmegljebaaGreatDoorW.PrintWords Go.Proofs.YtkabcgmegljebaaGreatDoorW.PrintLast Go.Proofs.YtkabcgmegljebaaGreatDoorW.PrintMore
open Go.Proofs.YtkabcgmegljebaaGreatDoor.Q
theorem back_ok (b6 b7 b8 b3 : Nat) (u : FrameMode) (w : World) (h6 : w.cell? ⟨b6, 0, none⟩ = some (.int .i64 0)) :
  CallsD Tryz.prog 58 #[.pointer (some ⟨b6, 0, none⟩), .pointer (some ⟨b7, 0, none⟩), .pointer (some ⟨b8, 0, none⟩), .pointer (some ⟨b3, 0, none⟩)] u w fun e u' w' => u' = u ∧ (e = .returned (.tuple #[]) ∧ w' = w) := by
 go_enter_d Tryz.func58, Tryz.ntmps58
 go_wp2
 go_end0
 exact ⟨rfl, rfl⟩
theorem back_bad (b6 b7 b8 b3 g : Nat) (u : FrameMode) (w : World) (er : Int) (x7 x8 : Value) (he : er ≠ 0) (h6 : w.cell? ⟨b6, 0, none⟩ = some (.int .i64 er)) (h7 : w.cell? ⟨b7, 0, none⟩ = some x7) (h8 : w.cell? ⟨b8, 0, none⟩ = some x8) (h3 : w.cell? ⟨b3, 0, none⟩ = some (.pointer (some ⟨g, 0, none⟩)))
  (A7 : Option Addr) (l7 c7 : Nat) (A8 : Option Addr) (l8 c8 : Nat) (e7 : x7 = .slice A7 l7 c7) (e8 : x8 = .slice A8 l8 c8) (y2 y3 : Value) (g2 : w.cell? ⟨g, 2, none⟩ = some y2) (g3 : w.cell? ⟨g, 3, none⟩ = some y3) (z2 : w.frozen? ⟨g, 2, none⟩ = false) (z3 : w.frozen? ⟨g, 3, none⟩ = false) :
  CallsD Tryz.prog 58 #[.pointer (some ⟨b6, 0, none⟩), .pointer (some ⟨b7, 0, none⟩), .pointer (some ⟨b8, 0, none⟩), .pointer (some ⟨b3, 0, none⟩)] u w fun e u' w' => u' = u ∧ (e = .returned (.tuple #[]) ∧ w' = (w.setCell ⟨g, 2, none⟩ x7).setCell ⟨g, 3, none⟩ x8) := by
 subst e7 e8
 have t1 : (er != 0) = true := by rw [bne, beq_eq_false_iff_ne.2 he]; rfl
 clear he
 go_enter_d Tryz.func58, Tryz.ntmps58
 go_wp2
 go_end0
 exact ⟨rfl, rfl⟩
theorem Sl.xlB {α : Type} {d : Kd α} {e : TypeId} {w : World} {base base' : Nat} {F : Nat → Prop} {A : Option Addr} {c : Nat} {xs : List α} (h : Sl d e w base F A c xs) (hb : base' ≤ base) : Sl d e w base' F A c xs :=
  ⟨h.le, h.lim, h.row.imp_right (fun ⟨b, off, cur, inner, h1, h2, h3, h4⟩ => ⟨b, off, cur, inner, h1, h2, Nat.le_trans hb h3, h4⟩)⟩
theorem Mx.out {w : World} {base g : Nat} {F : Nat → Prop} {Ac : Option Addr} {cc : Nat} {Af : Option Addr} {cf : Nat} {Am : Option Addr} {cm : Nat} {s : St} (h : Mx w base g F Ac cc Af cf Am cm s) {b t : Nat} {cells : Array Value} (hb : w.heap[b]? = some (.cells cells t (0, 0))) (t1 : 85 ≠ t) (t2 : 37 ≠ t) (t3 : 48 ≠ t) (t4 : 3 ≠ t) (j : Nat) (u : Value) : Mx (w.setCell ⟨b, j, none⟩ u) base g F Ac cc Af cf Am cm s :=
 ⟨(Below.heap_setCell _ _ _ _ (fun e => by
  simp only at e
  have h1 := h.k
  rw [e, hb] at h1; injection h1 with h1; injection h1 with _ h1; exact t1 h1.symm)).trans h.k, h.c.set hb t2 j u, h.f.set hb t3 j u, h.m.set hb t4 j u, h.hg, fun k hk => by
  have h1 : (w.setCell ⟨b, j, none⟩ u).heap.size = w.heap.size := by simp
  rw [h1]; exact h.hF k hk, h.hc⟩
theorem xcA {P : Program} {c : Code} {K : Act → World → Prop} {Q : Exit → Act → World → Prop} {a : Act} {w : World} (h : c.wp P (Exit.then K (fun _ _ _ => False)) a w) : c.wp P (Exit.then K Q) a w :=
  Code.wp_mono (fun e a w h => by cases e <;> first | exact h | exact h.elim) h
structure J7 (w1 w' : World) (o7 o8 : Option Nat) (om : Option (Option Addr × Nat)) (ms : List Int) : Prop where
 hb : Below w1.heap.size w1 w'
 h7 : ∀ b, o7 = some b → w1.heap.size ≤ b ∧ w'.heap[b]? = some (.cells #[.slice none 0 0] 24 (0, 0))
 h8 : ∀ b, o8 = some b → w1.heap.size ≤ b ∧ w'.heap[b]? = some (.cells #[.slice none 0 0] 49 (0, 0))
 hm : ∀ p, om = some p → Sl (Kd.int .i64) 3 w' w1.heap.size (fun k => w1.heap.size ≤ k) p.1 p.2 ms
section
variable {w1 w' w2 : World} {o7 o8 : Option Nat} {om : Option (Option Addr × Nat)} {ms : List Int}
theorem J7.start (hb : Below w1.heap.size w1 w') : J7 w1 w' none none none ms := ⟨hb, fun _ h => (by cases h), fun _ h => (by cases h), fun _ h => (by cases h)⟩
theorem J7.below (h : J7 w1 w' o7 o8 om ms) (hb : Below w'.heap.size w' w2) : J7 w1 w2 o7 o8 om ms :=
  ⟨h.hb.trans (hb.mono h.hb.size), fun b e => ⟨(h.h7 b e).1, xaD (h.h7 b e).2 hb⟩, fun b e => ⟨(h.h8 b e).1, xaD (h.h8 b e).2 hb⟩, fun p e => (h.hm p e).below hb⟩
theorem J7.a7 (h : J7 w1 w' none o8 om ms) : J7 w1 (w'.alloc (.cells #[.slice none 0 0] 24)) (some w'.heap.size) o8 om ms :=
  have h1 := h.below (xaH (Below.refl _ _) (.cells #[.slice none 0 0] 24))
  ⟨h1.hb, fun b e => (by injection e with e; subst e; exact ⟨h.hb.size, xbF _ _⟩), h1.h8, h1.hm⟩
theorem J7.a8 (h : J7 w1 w' o7 none om ms) : J7 w1 (w'.alloc (.cells #[.slice none 0 0] 49)) o7 (some w'.heap.size) om ms :=
  have h1 := h.below (xaH (Below.refl _ _) (.cells #[.slice none 0 0] 49))
  ⟨h1.hb, h1.h7, fun b e => (by injection e with e; subst e; exact ⟨h.hb.size, xbF _ _⟩), h1.hm⟩
theorem J7.c {F : Nat → Prop} {A : Option Addr} {c : Nat} (h : J7 w1 w' o7 o8 none ms) (hb : Below w'.heap.size w' w2) (hs : Sl (Kd.int .i64) 3 w2 w'.heap.size F A c ms) : J7 w1 w2 o7 o8 (some (A, c)) ms :=
 have h1 := h.below hb
 ⟨h1.hb, h1.h7, h1.h8, fun p e => (by
  injection e with e; subst e
  exact ⟨hs.le, hs.lim, hs.row.imp_right (fun ⟨b, off, cur, inner, g1, g2, g3, g4, g5⟩ => ⟨b, off, cur, inner, g1, Nat.le_trans h.hb.size g3, Nat.le_trans h.hb.size g3, g4, g5⟩)⟩)⟩
end
def after (s : St) (r : List S48 × List Int × Int) : St := if r.2.2 = 0 then { s with flows := r.1, marks := r.2.1 } else s
section
variable {w : World} {base g : Nat} {F : Nat → Prop} {Ac : Option Addr} {cc : Nat} {Af : Option Addr} {cf : Nat} {Am : Option Addr} {cm : Nat} {s : St}
theorem do_ways (h : Mx w base g F Ac cc Af cf Am cm s) (hml : s.marks.length ≤ 10000) (fn : FuncId) (o0 : Int) (o1 o2 : Nat) (o3 o4 o5 o6 o7 o8 : Int) (r : List S48 × List Int × Int) (hen : ∀ (args : Array Value) (w : World), (callFunc fn args).run Tryz.prog w = .ok (.enter fn args) w) (hw : WayC fn ⟨o0, o1, o2, o3, o4, o5, o6, o7, o8⟩ base g Ac cc s r) :
  Calls Tryz.prog 34 #[.pointer (some ⟨g, 0, none⟩), .agg #[.int .i64 o0, .float .f64 o1, .float .f64 o2, .int .i64 o3, .int .i64 o4, .int .i64 o5, .int .i64 o6, .int .i64 o7, .int .i64 o8], .func (.func fn) #[.pointer (some ⟨g, 0, none⟩)] #[]] w fun e w' => e = .returned (.int .i64 r.2.2) ∧ Fr F w w' ∧ ∃ A1 c1 A2 c2, Mx w' base g (Gr F w.heap.size w'.heap.size) Ac cc A1 c1 A2 c2 (after s r) := by
 have HX := am h
 obtain ⟨fl', ms', er⟩ := r
 unfold WayC at hw
 simp only at hw ⊢
 have HW := am hw;have HEN := am hen
 have HML : xaA (s.marks.length * 8 ≤ 140737488355328) := ⟨by omega⟩
 clear h hw hml hen
 go_enter_defers Tryz.func34, Tryz.ntmps34
 go_wp2_with fail
 obtain ⟨b3, hb3⟩ : ∃ b, b = w.heap.size := ⟨_, rfl⟩
 have HX1 := am (((HX.out.alloc (.cells #[.pointer (some ⟨g, 0, none⟩)] 38)).alloc (.cells #[.int .i64 o0, .float .f64 o1, .float .f64 o2, .int .i64 o3, .int .i64 o4, .int .i64 o5, .int .i64 o6, .int .i64 o7, .int .i64 o8] 37)).alloc (.cells #[.int .i64 0] 25))
 have HF1 := am ((((Fr.refl F w).alloc (.cells #[.pointer (some ⟨g, 0, none⟩)] 38)).alloc (.cells #[.int .i64 o0, .float .f64 o1, .float .f64 o2, .int .i64 o3, .int .i64 o4, .int .i64 o5, .int .i64 o6, .int .i64 o7, .int .i64 o8] 37)).alloc (.cells #[.int .i64 0] 25))
 have B3 := am (xaT (xaT (xbF w (.cells #[.pointer (some ⟨g, 0, none⟩)] 38)) (.cells #[.int .i64 o0, .float .f64 o1, .float .f64 o2, .int .i64 o3, .int .i64 o4, .int .i64 o5, .int .i64 o6, .int .i64 o7, .int .i64 o8] 37)) (.cells #[.int .i64 0] 25))
 have B4 := am (xaT (xbF (w.alloc (.cells #[.pointer (some ⟨g, 0, none⟩)] 38)) (.cells #[.int .i64 o0, .float .f64 o1, .float .f64 o2, .int .i64 o3, .int .i64 o4, .int .i64 o5, .int .i64 o6, .int .i64 o7, .int .i64 o8] 37)) (.cells #[.int .i64 0] 25))
 have B6 := am (xbF ((w.alloc (.cells #[.pointer (some ⟨g, 0, none⟩)] 38)).alloc (.cells #[.int .i64 o0, .float .f64 o1, .float .f64 o2, .int .i64 o3, .int .i64 o4, .int .i64 o5, .int .i64 o6, .int .i64 o7, .int .i64 o8] 37)) (.cells #[.int .i64 0] 25))
 generalize hw1 : ((w.alloc (.cells #[.pointer (some ⟨g, 0, none⟩)] 38)).alloc (.cells #[.int .i64 o0, .float .f64 o1, .float .f64 o2, .int .i64 o3, .int .i64 o4, .int .i64 o5, .int .i64 o6, .int .i64 o7, .int .i64 o8] 37)).alloc (.cells #[.int .i64 0] 25) = w1 at *
 simp only [World.size_alloc] at B4 B6
 rw [← hb3] at B3 B4 B6 ⊢
 have HB3 := am hb3;clear hw1 hb3
 refine xcA ?_
 have hS : ∀ w' : World, Below w1.heap.size w1 w' → w'.cell? ⟨b3, 0, none⟩ = some (.pointer (some ⟨g, 0, none⟩)) ∧ w'.cell? ⟨g, 2, none⟩ = some (.slice Af s.flows.length cf) ∧ w'.cell? ⟨g, 3, none⟩ = some (.slice Am s.marks.length cm) := fun w' hb => ⟨(xaB (xaD B3.out hb) 0).trans rfl, (xaB (HX1.out.below hb).k 2).trans rfl, (xaB (HX1.out.below hb).k 3).trans rfl⟩
 refine xbL (n := 13) (S := fun w' => w'.cell? ⟨b3, 0, none⟩ = some (.pointer (some ⟨g, 0, none⟩)) ∧ w'.cell? ⟨g, 2, none⟩ = some (.slice Af s.flows.length cf) ∧ w'.cell? ⟨g, 3, none⟩ = some (.slice Am s.marks.length cm)) (ds := [11, 12]) #[false, false, false, false, false, false, false, false, false, false, false, false, false] (by kernel_rfl) rfl rfl (hS _ (xaK (Below.refl _ _))) (fun hHeld => ?_)
 have J := J7.start (ms := s.marks) (xaK (Below.refl w1.heap.size w1))
 generalize w1.drew = w2 at *
 refine rT 0 ?_
 refine rP 1 ?_
 refine rP 2 ?_
 refine rT 3 ?_
 refine rT 4 ?_
 refine rP 5 ?_
 refine rP 6 ?_
 refine rT 7 ?_
 clear hHeld
 refine join_ (σ := Nat × Nat × Option Addr × Nat) 2 #[true, true, true, true, true, true, true, true, true, true, true, false, false] (fun q => [(7, .pointer (some ⟨q.1, 0, none⟩)), (8, .pointer (some ⟨q.2.1, 0, none⟩)), (17, .slice q.2.2.1 s.marks.length q.2.2.2)]) (fun q w' => J7 w1 w' (some q.1) (some q.2.1) (some q.2.2) s.marks) ?_ (fun hcont => ?_)
 rotate_left
 ·
  refine three_ (i := 8) (Ni := some 17) (j := 9) (Nj := some 7) (k := 10) (Nk := some 8) #[true, true, true, true, true, true, true, true, true, false, false, false, false] #[true, true, true, true, true, true, true, true, false, true, false, false, false] #[true, true, true, true, true, true, true, true, false, false, true, false, false] rfl rfl rfl rfl rfl rfl (by kernel_rfl) (by decide) (by decide) (by decide) (fun K hK => ?_) (fun K hK => ?_) (fun K hK => ?_)
  ·
   refine goes_ Tryz.func38 (by kernel_rfl) rfl #[.slice Am s.marks.length cm] (by rfl) rfl rfl (by (try simp only [List.map_toArray, List.map_cons, List.map_nil]); first | done | rfl) ?_
   with_reducible refine (xeP _ _ _ _ (HX1.out.below J.hb).m.C HML.out).mono ?_
   rintro e u ⟨v, rfl, hr, hb⟩
   obtain ⟨A8, c8, rfl, hs⟩ := Sl.of_R hr
   refine ⟨_, rfl, ?_⟩
   have J' := J.c hb hs
   refine hK.out _ _ (hS _ J'.hb) (fun hHeld => ?_)
   clear hK K hHeld
   refine two_ (i := 9) (Ni := some 7) (j := 10) (Nj := some 8) #[true, true, true, true, true, true, true, true, true, true, false, false, false] #[true, true, true, true, true, true, true, true, true, false, true, false, false] rfl rfl rfl rfl (by kernel_rfl) (by decide) (by decide) (fun K hK => ?_) (fun K hK => ?_)
   ·
    refine xbP (w1 := ?_) (v := ?_) (by rfl) rfl ?_ ?_
    rotate_left 2
    ·
     go_simp
     constructor
     ·
      rfl
     ·
      rfl
    have J'' := J'.a7
    try simp only [World.size_alloc] at J''
    refine hK.out _ _ (hS _ J''.hb) (fun hHeld => ?_)
    clear hK K hHeld
    refine rO 10 (fun K hK => ?_)
    refine xbP (w1 := ?_) (v := ?_) (by rfl) rfl ?_ ?_
    rotate_left 2
    ·
     go_simp
     constructor
     ·
      rfl
     ·
      rfl
    have J''' := J''.a8
    try simp only [World.size_alloc] at J'''
    refine hK.out _ _ (hS _ J'''.hb) (fun hHeld => ?_)
    clear hK K hHeld
    exact norm_ (by simp only [xdK, Act.put, List.setIfInBounds_toArray, List.set_cons_zero, List.set_cons_succ, World.size_alloc]; rfl) (hcont ⟨_, _, _, _⟩ _ J''')
   ·
    refine xbP (w1 := ?_) (v := ?_) (by rfl) rfl ?_ ?_
    rotate_left 2
    ·
     go_simp
     constructor
     ·
      rfl
     ·
      rfl
    have J'' := J'.a8
    try simp only [World.size_alloc] at J''
    refine hK.out _ _ (hS _ J''.hb) (fun hHeld => ?_)
    clear hK K hHeld
    refine rO 9 (fun K hK => ?_)
    refine xbP (w1 := ?_) (v := ?_) (by rfl) rfl ?_ ?_
    rotate_left 2
    ·
     go_simp
     constructor
     ·
      rfl
     ·
      rfl
    have J''' := J''.a7
    try simp only [World.size_alloc] at J'''
    refine hK.out _ _ (hS _ J'''.hb) (fun hHeld => ?_)
    clear hK K hHeld
    exact norm_ (by simp only [xdK, Act.put, List.setIfInBounds_toArray, List.set_cons_zero, List.set_cons_succ, World.size_alloc]; rfl) (hcont ⟨_, _, _, _⟩ _ J''')
  ·
   refine xbP (w1 := ?_) (v := ?_) (by rfl) rfl ?_ ?_
   rotate_left 2
   ·
    go_simp
    constructor
    ·
     rfl
    ·
     rfl
   have J' := J.a7
   try simp only [World.size_alloc] at J'
   refine hK.out _ _ (hS _ J'.hb) (fun hHeld => ?_)
   clear hK K hHeld
   refine two_ (i := 8) (Ni := some 17) (j := 10) (Nj := some 8) #[true, true, true, true, true, true, true, true, true, true, false, false, false] #[true, true, true, true, true, true, true, true, false, true, true, false, false] rfl rfl rfl rfl (by kernel_rfl) (by decide) (by decide) (fun K hK => ?_) (fun K hK => ?_)
   ·
    refine goes_ Tryz.func38 (by kernel_rfl) rfl #[.slice Am s.marks.length cm] (by rfl) rfl rfl (by (try simp only [List.map_toArray, List.map_cons, List.map_nil]); first | done | rfl) ?_
    with_reducible refine (xeP _ _ _ _ (HX1.out.below J'.hb).m.C HML.out).mono ?_
    rintro e u ⟨v, rfl, hr, hb⟩
    obtain ⟨A8, c8, rfl, hs⟩ := Sl.of_R hr
    refine ⟨_, rfl, ?_⟩
    have J'' := J'.c hb hs
    refine hK.out _ _ (hS _ J''.hb) (fun hHeld => ?_)
    clear hK K hHeld
    refine rO 10 (fun K hK => ?_)
    refine xbP (w1 := ?_) (v := ?_) (by rfl) rfl ?_ ?_
    rotate_left 2
    ·
     go_simp
     constructor
     ·
      rfl
     ·
      rfl
    have J''' := J''.a8
    try simp only [World.size_alloc] at J'''
    refine hK.out _ _ (hS _ J'''.hb) (fun hHeld => ?_)
    clear hK K hHeld
    exact norm_ (by simp only [xdK, Act.put, List.setIfInBounds_toArray, List.set_cons_zero, List.set_cons_succ, World.size_alloc]; rfl) (hcont ⟨_, _, _, _⟩ _ J''')
   ·
    refine xbP (w1 := ?_) (v := ?_) (by rfl) rfl ?_ ?_
    rotate_left 2
    ·
     go_simp
     constructor
     ·
      rfl
     ·
      rfl
    have J'' := J'.a8
    try simp only [World.size_alloc] at J''
    refine hK.out _ _ (hS _ J''.hb) (fun hHeld => ?_)
    clear hK K hHeld
    refine rO 8 (fun K hK => ?_)
    refine goes_ Tryz.func38 (by kernel_rfl) rfl #[.slice Am s.marks.length cm] (by rfl) rfl rfl (by (try simp only [List.map_toArray, List.map_cons, List.map_nil]); first | done | rfl) ?_
    with_reducible refine (xeP _ _ _ _ (HX1.out.below J''.hb).m.C HML.out).mono ?_
    rintro e u ⟨v, rfl, hr, hb⟩
    obtain ⟨A8, c8, rfl, hs⟩ := Sl.of_R hr
    refine ⟨_, rfl, ?_⟩
    have J''' := J''.c hb hs
    refine hK.out _ _ (hS _ J'''.hb) (fun hHeld => ?_)
    clear hK K hHeld
    exact norm_ (by simp only [xdK, Act.put, List.setIfInBounds_toArray, List.set_cons_zero, List.set_cons_succ, World.size_alloc]; rfl) (hcont ⟨_, _, _, _⟩ _ J''')
  ·
   refine xbP (w1 := ?_) (v := ?_) (by rfl) rfl ?_ ?_
   rotate_left 2
   ·
    go_simp
    constructor
    ·
     rfl
    ·
     rfl
   have J' := J.a8
   try simp only [World.size_alloc] at J'
   refine hK.out _ _ (hS _ J'.hb) (fun hHeld => ?_)
   clear hK K hHeld
   refine two_ (i := 8) (Ni := some 17) (j := 9) (Nj := some 7) #[true, true, true, true, true, true, true, true, true, false, true, false, false] #[true, true, true, true, true, true, true, true, false, true, true, false, false] rfl rfl rfl rfl (by kernel_rfl) (by decide) (by decide) (fun K hK => ?_) (fun K hK => ?_)
   ·
    refine goes_ Tryz.func38 (by kernel_rfl) rfl #[.slice Am s.marks.length cm] (by rfl) rfl rfl (by (try simp only [List.map_toArray, List.map_cons, List.map_nil]); first | done | rfl) ?_
    with_reducible refine (xeP _ _ _ _ (HX1.out.below J'.hb).m.C HML.out).mono ?_
    rintro e u ⟨v, rfl, hr, hb⟩
    obtain ⟨A8, c8, rfl, hs⟩ := Sl.of_R hr
    refine ⟨_, rfl, ?_⟩
    have J'' := J'.c hb hs
    refine hK.out _ _ (hS _ J''.hb) (fun hHeld => ?_)
    clear hK K hHeld
    refine rO 9 (fun K hK => ?_)
    refine xbP (w1 := ?_) (v := ?_) (by rfl) rfl ?_ ?_
    rotate_left 2
    ·
     go_simp
     constructor
     ·
      rfl
     ·
      rfl
    have J''' := J''.a7
    try simp only [World.size_alloc] at J'''
    refine hK.out _ _ (hS _ J'''.hb) (fun hHeld => ?_)
    clear hK K hHeld
    exact norm_ (by simp only [xdK, Act.put, List.setIfInBounds_toArray, List.set_cons_zero, List.set_cons_succ, World.size_alloc]; rfl) (hcont ⟨_, _, _, _⟩ _ J''')
   ·
    refine xbP (w1 := ?_) (v := ?_) (by rfl) rfl ?_ ?_
    rotate_left 2
    ·
     go_simp
     constructor
     ·
      rfl
     ·
      rfl
    have J'' := J'.a7
    try simp only [World.size_alloc] at J''
    refine hK.out _ _ (hS _ J''.hb) (fun hHeld => ?_)
    clear hK K hHeld
    refine rO 8 (fun K hK => ?_)
    refine goes_ Tryz.func38 (by kernel_rfl) rfl #[.slice Am s.marks.length cm] (by rfl) rfl rfl (by (try simp only [List.map_toArray, List.map_cons, List.map_nil]); first | done | rfl) ?_
    with_reducible refine (xeP _ _ _ _ (HX1.out.below J''.hb).m.C HML.out).mono ?_
    rintro e u ⟨v, rfl, hr, hb⟩
    obtain ⟨A8, c8, rfl, hs⟩ := Sl.of_R hr
    refine ⟨_, rfl, ?_⟩
    have J''' := J''.c hb hs
    refine hK.out _ _ (hS _ J'''.hb) (fun hHeld => ?_)
    clear hK K hHeld
    exact norm_ (by simp only [xdK, Act.put, List.setIfInBounds_toArray, List.set_cons_zero, List.set_cons_succ, World.size_alloc]; rfl) (hcont ⟨_, _, _, _⟩ _ J''')
 rintro ⟨b7, b8, A8, c8⟩ w3 J3
 refine rN (a' := _) ?_ (by simp only [xdK, Act.put, List.setIfInBounds_toArray, List.set_cons_zero, List.set_cons_succ]; rfl)
 have h7 := (J3.h7 _ rfl).2
 refine rL 11 (fun K hK => ?_)
 refine skip_ (w1 := ?_) (by rfl) rfl ?_ ?_
 rotate_left
 ·
  have d0 : w3.cell? ⟨b7, 0, none⟩ = some (.slice none 0 0) := (xaB h7 0).trans rfl
  have z0 : w3.frozen? ⟨b7, 0, none⟩ = false := xaE h7 0
  go_simp
  rfl
 refine hK.out _ _ ?_
 clear hK K
 have h8 : (w3.setCell ⟨b7, 0, none⟩ (.slice Af s.flows.length cf)).heap[b8]? = some (.cells #[.slice none 0 0] 49 (0, 0)) := by
  refine (Below.heap_setCell _ _ _ _ (fun e => ?_)).trans (J3.h8 _ rfl).2
  simp only at e
  subst e
  have h1 := (J3.h8 _ rfl).2
  rw [h7] at h1; injection h1 with h1; injection h1 with _ h1; cases h1
 refine rL 12 (fun K hK => ?_)
 refine skip_ (w1 := ?_) (by rfl) rfl ?_ ?_
 rotate_left
 ·
  have d0 := (xaB h8 0).trans rfl
  have z0 := xaE h8 0
  go_simp
  rfl
 refine hK.out _ _ ?_
 clear hK K
 refine rD ?_
 have HS3 : xaA (w1.heap.size ≤ b7 ∧ w1.heap.size ≤ b8) := ⟨(J3.h7 _ rfl).1, (J3.h8 _ rfl).1⟩
 have hne : b8 ≠ b7 := fun e => by
  have h1 := (J3.h8 _ rfl).2
  rw [e, h7] at h1; injection h1 with h1; injection h1 with _ h1; cases h1
 have HN1 : Below w1.heap.size w1 ((w3.setCell ⟨b7, 0, none⟩ (.slice Af s.flows.length cf)).setCell ⟨b8, 0, none⟩ (.slice A8 s.marks.length c8)) := xaF (xaF J3.hb HS3.out.1) HS3.out.2
 have HX3 := am (HX1.out.below HN1)
 have HF3 := am (HF1.out.below HN1)
 have B33 := am (xaD B3.out HN1)
 have B43 := am (xaD B4.out HN1)
 have B63 := am (xaD B6.out HN1)
 have HM3 := am (((J3.hm _ rfl).set h7 (by decide) 0 (.slice Af s.flows.length cf)).set h8 (by decide) 0 (.slice A8 s.marks.length c8))
 have B83 := am (xaN h8 0 (.slice A8 s.marks.length c8) rfl)
 have B73 : xaA (((w3.setCell ⟨b7, 0, none⟩ (.slice Af s.flows.length cf)).setCell ⟨b8, 0, none⟩ (.slice A8 s.marks.length c8)).heap[b7]? = some (.cells #[.slice Af s.flows.length cf] 24 (0, 0))) := ⟨(Below.heap_setCell _ _ _ _ (fun e => hne e.symm)).trans (xaN h7 0 (.slice Af s.flows.length cf) rfl)⟩
 have HL1 : xaA (b3 + 1 + 1 < w1.heap.size) := ⟨xaM B6.out⟩
 generalize hw4 : ((w3.setCell ⟨b7, 0, none⟩ (.slice Af s.flows.length cf)).setCell ⟨b8, 0, none⟩ (.slice A8 s.marks.length c8)) = w4 at *
 have HZ := am HN1.size;clear hw4 h7 h8 J3 HN1 hS HX1 HF1 B3 B4 B6 hne
 have hmf : ∀ (fn : Fn) (first cap : Array Value) (w : World), (Instr.makeFunc fn first cap).run Tryz.prog w = .ok (.func fn first cap) w := fun _ _ _ _ => rfl
 obtain ⟨c0, c1, c2, c3, c4, c5, c6, c7, c8, z0, z1, z2, z3, z4, z5, z6, z7, z8⟩ := blk9 B43
 clear z0 z1 z2 z3 z4 z5 z6 z7 z8
 go_wp2_with fail
 rw [HEN.out, Oper.upon_enter]
 refine (HW.out w4 F Af cf Am cm HX3.out).mono ?_
 rintro e w5 ⟨rfl, hl⟩
 have HNF : xaA (∀ k, b3 ≤ k → ¬ F k) := ⟨fun k hk hF => by have h1 := (HX.out.hF k hF).2; have h2 := HB3.out; omega⟩
 have h3 := hl.fr.blk B33.out (HNF.out _ (Nat.le_refl _))
 have h6 := hl.fr.blk B63.out (HNF.out _ (by omega))
 have h7 := hl.fr.blk B73.out (HNF.out _ (by have := HS3.out; have := HL1.out; omega))
 have h8 := hl.fr.blk B83.out (HNF.out _ (by have := HS3.out; have := HL1.out; omega))
 have HL := am hl;have H3 := am h3;have H6 := am h6;have H7 := am h7;have H8 := am h8
 have e0 : w5.cell? ⟨b3 + 1 + 1, 0, none⟩ = some (.int .i64 0) := (xaB h6 0).trans rfl
 have y0 : w5.frozen? ⟨b3 + 1 + 1, 0, none⟩ = false := xaE h6 0
 clear hl h3 h6 h7 h8 c0 c1 c2 c3 c4 c5 c6 c7 c8
 go_wp2_with fail
 have hs5 := HL.out.fr.size
 have HF5 : xaA (Fr F w (w5.setCell ⟨b3 + 1 + 1, 0, none⟩ (.int .i64 er))) := ⟨(HF3.out.step HL.out.fr).set _ (Or.inr (by have := HB3.out; show w.heap.size ≤ b3 + 1 + 1; omega))⟩
 have e6 : ∀ u, (w5.setCell ⟨b3 + 1 + 1, 0, none⟩ u).heap.size = w5.heap.size := fun u => by simp
 have hz1 := HZ.out;have hb3 := HB3.out;have hl1 := HL1.out
 refine leaves_cons (f := 58) (args := #[.pointer (some ⟨b3 + 1 + 1, 0, none⟩), .pointer (some ⟨b7, 0, none⟩), .pointer (some ⟨b8, 0, none⟩), .pointer (some ⟨b3, 0, none⟩)]) (by simp) (by simp [go_sem]) ?_
 have h6 := xaN H6.out 0 (.int .i64 er) rfl
 by_cases he : er = 0
 ·
  subst he
  refine (back_ok _ _ _ _ .returning _ ((xaB h6 0).trans rfl)).mono ?_
  rintro e u' w'' ⟨rfl, rfl, rfl⟩
  refine ⟨.int .i64 0, ?_, rfl, HF5.out, ?_⟩
  ·
   have d6 : (w5.setCell ⟨b3 + 1 + 1, 0, none⟩ (.int .i64 0)).cell? ⟨b3 + 1 + 1, 0, none⟩ = some (.int .i64 0) := (xaB h6 0).trans rfl
   simp [results, Tryz.results34, go_sem, d6]
  ·
   obtain ⟨A1, c1, A2, c2, h1⟩ := HL.out.mx
   refine ⟨A1, c1, A2, c2, ?_⟩
   have h2 := h1.out H6.out (by decide) (by decide) (by decide) (by decide) 0 (.int .i64 0)
   rw [← e6] at h2
   exact h2.grow HF3.out.size (by rw [e6]; exact hs5) HX.out.xbJ HX.out.xbY
 ·
  obtain ⟨A1, c1, A2, c2, h1⟩ := HL.out.mx
  have h2 := h1.out H6.out (by decide) (by decide) (by decide) (by decide) 0 (.int .i64 er)
  rw [← e6] at h2
  replace h2 := h2.grow HF3.out.size (by rw [e6]; exact hs5) HX.out.xbJ HX.out.xbY
  have hne : ∀ k (o : Obj), w5.heap[k]? = some o → k ≠ b3 + 1 + 1 → (w5.setCell ⟨b3 + 1 + 1, 0, none⟩ (.int .i64 er)).heap[k]? = some o := fun k o h hk => (Below.heap_setCell _ _ _ _ hk).trans h
  have h3 := hne _ _ H3.out (by omega)
  have h7 := hne _ _ H7.out (by have := HS3.out; omega)
  have h8 := hne _ _ H8.out (by have := HS3.out; omega)
  have hold : Sl k48 48 (w5.setCell ⟨b3 + 1 + 1, 0, none⟩ (.int .i64 er)) base F Af cf s.flows := (HL.out.old he).set H6.out (by decide) _ _
  have hmk : Sl (Kd.int .i64) 3 (w5.setCell ⟨b3 + 1 + 1, 0, none⟩ (.int .i64 er)) base (fun k => w1.heap.size ≤ k ∧ k < w4.heap.size) A8 c8 s.marks :=
   (((Sl.new HM3.out).fr HL.out.fr (fun k hk => HNF.out k (by omega))).set H6.out (by decide) _ _).xlB (by have := HX.out.xbJ; omega)
  generalize hw6 : w5.setCell ⟨b3 + 1 + 1, 0, none⟩ (.int .i64 er) = w6 at *
  have hs6 : w6.heap.size = w5.heap.size := by rw [← hw6]; simp
  obtain ⟨g0, g1, g2, g3, g4, g5, z0, z1, z2, z3, z4, z5⟩ := blk6 h2.k
  refine (back_bad _ _ _ _ g .returning _ er _ _ he ((xaB h6 0).trans rfl) ((xaB h7 0).trans rfl) ((xaB h8 0).trans rfl) ((xaB h3 0).trans rfl) _ _ _ _ _ _ rfl rfl _ _ g2 g3 z2 z3).mono ?_
  rintro e u' w'' ⟨rfl, rfl, rfl⟩
  have hp1 := Mx.put (s' := { s with flows := s.flows, marks := ms' }) 2 (.slice Af s.flows.length cf) h2.k (by simp) h2.c (hold.mono (fun k hk _ => Or.inl hk)) h2.m h2.hg h2.hF h2.hc
  have hp2 := Mx.put (s' := s) (F := Gr F w.heap.size w6.heap.size) 3 (.slice A8 s.marks.length c8) hp1.k (by simp) hp1.c hp1.f ((hmk.set h2.k (by decide) 2 (.slice Af s.flows.length cf)).mono (fun k hk _ => Or.inr ⟨by omega, by omega⟩)) hp1.hg hp1.hF hp1.hc
  refine ⟨.int .i64 er, ?_, rfl, ?_, ?_⟩
  ·
   have h9 := hp2.k
   have d6 : ((w6.setCell ⟨g, 2, none⟩ (.slice Af s.flows.length cf)).setCell ⟨g, 3, none⟩ (.slice A8 s.marks.length c8)).cell? ⟨b3 + 1 + 1, 0, none⟩ = some (.int .i64 er) := by
    have h10 : b3 + 1 + 1 ≠ g := fun e => by
     have h11 := h2.k
     rw [← e, h6] at h11; injection h11 with h11; injection h11 with _ h11; cases h11
    have h12 := (Below.heap_setCell (w6.setCell ⟨g, 2, none⟩ (.slice Af s.flows.length cf)) ⟨g, 3, none⟩ (.slice A8 s.marks.length c8) _ h10).trans ((Below.heap_setCell w6 ⟨g, 2, none⟩ (.slice Af s.flows.length cf) _ h10).trans h6)
    exact (xaB h12 0).trans rfl
   simp [results, Tryz.results34, go_sem, d6]
  ·
   exact (HF5.out.set _ (Or.inl HX.out.hg)).set _ (Or.inl HX.out.hg)
  ·
   unfold after
   rw [if_neg he]
   have e7 : ((w6.setCell ⟨g, 2, none⟩ (.slice Af s.flows.length cf)).setCell ⟨g, 3, none⟩ (.slice A8 s.marks.length c8)).heap.size = w6.heap.size := by simp
   rw [← e7] at hp2
   exact ⟨_, _, _, _, hp2⟩
end
end Go.Proofs.YtkabcgmegljebaaGreatDoor.H
