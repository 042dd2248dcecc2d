/- Contracts and facts of functions of the program, joined in one text. -/
import Derived.Test.YtkabcgmegljebaaGreatDoorDGD
import Derived.Defers
import Derived.Laws.ResultCell
set_option maxHeartbeats 8000000
set_option maxRecDepth 100000
set_option linter.unusedVariables false
set_option linter.unusedSimpArgs false
namespace Go.Proofs.YtkabcgmegljebaaGreatDoor.H
open Go.RowKit Go.Proofs.YtkabcgmegljebaaGreatDoorW.PrintWords Go.Proofs.YtkabcgmegljebaaGreatDoorW.PrintLast Go.Proofs.YtkabcgmegljebaaGreatDoorW.PrintMore
open Go.Proofs.YtkabcgmegljebaaGreatDoor.Q
theorem back_ok (b6 b7 b8 b3 : Nat) (u : FrameMode) (w : World) (h6 : w.cell? ⟨b6, 0, none⟩ = some (.int .i64 0)) :
  CallsD Tryz.prog 58 #[.pointer (some ⟨b6, 0, none⟩), .pointer (some ⟨b7, 0, none⟩), .pointer (some ⟨b8, 0, none⟩), .pointer (some ⟨b3, 0, none⟩)] u w fun e u' w' => u' = u ∧ (e = .returned (.tuple #[]) ∧ w' = w) := by
 go_enter_d Tryz.func58, Tryz.ntmps58
 go_wp2
 go_end0
 exact ⟨rfl, rfl⟩
theorem back_bad (b6 b7 b8 b3 g : Nat) (u : FrameMode) (w : World) (er : Int) (x7 x8 : Value) (he : er ≠ 0) (h6 : w.cell? ⟨b6, 0, none⟩ = some (.int .i64 er)) (h7 : w.cell? ⟨b7, 0, none⟩ = some x7) (h8 : w.cell? ⟨b8, 0, none⟩ = some x8) (h3 : w.cell? ⟨b3, 0, none⟩ = some (.pointer (some ⟨g, 0, none⟩)))
  (A7 : Option Addr) (l7 c7 : Nat) (A8 : Option Addr) (l8 c8 : Nat) (e7 : x7 = .slice A7 l7 c7) (e8 : x8 = .slice A8 l8 c8) (y2 y3 : Value) (g2 : w.cell? ⟨g, 2, none⟩ = some y2) (g3 : w.cell? ⟨g, 3, none⟩ = some y3) (z2 : w.frozen? ⟨g, 2, none⟩ = false) (z3 : w.frozen? ⟨g, 3, none⟩ = false) :
  CallsD Tryz.prog 58 #[.pointer (some ⟨b6, 0, none⟩), .pointer (some ⟨b7, 0, none⟩), .pointer (some ⟨b8, 0, none⟩), .pointer (some ⟨b3, 0, none⟩)] u w fun e u' w' => u' = u ∧ (e = .returned (.tuple #[]) ∧ w' = (w.setCell ⟨g, 2, none⟩ x7).setCell ⟨g, 3, none⟩ x8) := by
 subst e7 e8
 have t1 : (er != 0) = true := by rw [bne, beq_eq_false_iff_ne.2 he]; rfl
 clear he
 go_enter_d Tryz.func58, Tryz.ntmps58
 go_wp2
 go_end0
 exact ⟨rfl, rfl⟩
theorem Sl.rebase {α : Type} {d : Kd α} {e : TypeId} {w : World} {base base' : Nat} {F : Nat → Prop} {A : Option Addr} {c : Nat} {xs : List α} (h : Sl d e w base F A c xs) (hb : base' ≤ base) : Sl d e w base' F A c xs :=
  ⟨h.le, h.lim, h.row.imp_right (fun ⟨b, off, cur, inner, h1, h2, h3, h4⟩ => ⟨b, off, cur, inner, h1, h2, Nat.le_trans hb h3, h4⟩)⟩
theorem Mx.out {w : World} {base g : Nat} {F : Nat → Prop} {Ac : Option Addr} {cc : Nat} {Af : Option Addr} {cf : Nat} {Am : Option Addr} {cm : Nat} {s : St} (h : Mx w base g F Ac cc Af cf Am cm s) {b t : Nat} {cells : Array Value} (hb : w.heap[b]? = some (.cells cells t (0, 0))) (t1 : 85 ≠ t) (t2 : 37 ≠ t) (t3 : 48 ≠ t) (t4 : 3 ≠ t) (j : Nat) (u : Value) : Mx (w.setCell ⟨b, j, none⟩ u) base g F Ac cc Af cf Am cm s :=
 ⟨(Below.heap_setCell _ _ _ _ (fun e => by
  simp only at e
  have h1 := h.k
  rw [e, hb] at h1; injection h1 with h1; injection h1 with _ h1; exact t1 h1.symm)).trans h.k, h.c.set hb t2 j u, h.f.set hb t3 j u, h.m.set hb t4 j u, h.hg, fun k hk => by
  have h1 : (w.setCell ⟨b, j, none⟩ u).heap.size = w.heap.size := by simp
  rw [h1]; exact h.hF k hk, h.hc⟩
theorem xdP {P : Program} {c : Code} {K : Act → World → Prop} {Q : Exit → Act → World → Prop} {a : Act} {w : World} (h : c.wp P (Exit.then K (fun _ _ _ => False)) a w) : c.wp P (Exit.then K Q) a w :=
  Code.wp_mono (fun e a w h => by cases e <;> first | exact h | exact h.elim) h
structure J7 (w1 w' : World) (o7 o8 : Option Nat) (om : Option (Option Addr × Nat)) (ms : List Int) : Prop where
 hb : Below w1.heap.size w1 w'
 h7 : ∀ b, o7 = some b → w1.heap.size ≤ b ∧ w'.heap[b]? = some (.cells #[.slice none 0 0] 24 (0, 0))
 h8 : ∀ b, o8 = some b → w1.heap.size ≤ b ∧ w'.heap[b]? = some (.cells #[.slice none 0 0] 49 (0, 0))
 hm : ∀ p, om = some p → Sl (Kd.int .i64) 3 w' w1.heap.size (fun k => w1.heap.size ≤ k) p.1 p.2 ms
section
variable {w1 w' w2 : World} {o7 o8 : Option Nat} {om : Option (Option Addr × Nat)} {ms : List Int}
theorem J7.start (hb : Below w1.heap.size w1 w') : J7 w1 w' none none none ms := ⟨hb, fun _ h => (by cases h), fun _ h => (by cases h), fun _ h => (by cases h)⟩
theorem J7.below (h : J7 w1 w' o7 o8 om ms) (hb : Below w'.heap.size w' w2) : J7 w1 w2 o7 o8 om ms :=
  ⟨h.hb.trans (hb.mono h.hb.size), fun b e => ⟨(h.h7 b e).1, xaK (h.h7 b e).2 hb⟩, fun b e => ⟨(h.h8 b e).1, xaK (h.h8 b e).2 hb⟩, fun p e => (h.hm p e).below hb⟩
theorem J7.a7 (h : J7 w1 w' none o8 om ms) : J7 w1 (w'.alloc (.cells #[.slice none 0 0] 24)) (some w'.heap.size) o8 om ms :=
  have h1 := h.below (xaC (Below.refl _ _) (.cells #[.slice none 0 0] 24))
  ⟨h1.hb, fun b e => (by injection e with e; subst e; exact ⟨h.hb.size, xbB _ _⟩), h1.h8, h1.hm⟩
theorem J7.a8 (h : J7 w1 w' o7 none om ms) : J7 w1 (w'.alloc (.cells #[.slice none 0 0] 49)) o7 (some w'.heap.size) om ms :=
  have h1 := h.below (xaC (Below.refl _ _) (.cells #[.slice none 0 0] 49))
  ⟨h1.hb, h1.h7, fun b e => (by injection e with e; subst e; exact ⟨h.hb.size, xbB _ _⟩), h1.hm⟩
theorem J7.c {F : Nat → Prop} {A : Option Addr} {c : Nat} (h : J7 w1 w' o7 o8 none ms) (hb : Below w'.heap.size w' w2) (hs : Sl (Kd.int .i64) 3 w2 w'.heap.size F A c ms) : J7 w1 w2 o7 o8 (some (A, c)) ms :=
 have h1 := h.below hb
 ⟨h1.hb, h1.h7, h1.h8, fun p e => (by
  injection e with e; subst e
  exact ⟨hs.le, hs.lim, hs.row.imp_right (fun ⟨b, off, cur, inner, g1, g2, g3, g4, g5⟩ => ⟨b, off, cur, inner, g1, Nat.le_trans h.hb.size g3, Nat.le_trans h.hb.size g3, g4, g5⟩)⟩)⟩
end
def after (s : St) (r : List S48 × List Int × Int) : St := if r.2.2 = 0 then { s with flows := r.1, marks := r.2.1 } else s
section
variable {w : World} {base g : Nat} {F : Nat → Prop} {Ac : Option Addr} {cc : Nat} {Af : Option Addr} {cf : Nat} {Am : Option Addr} {cm : Nat} {s : St}
theorem do_ways (h : Mx w base g F Ac cc Af cf Am cm s) (hml : s.marks.length ≤ 10000) (fn : FuncId) (o0 : Int) (o1 o2 : Nat) (o3 o4 o5 o6 o7 o8 : Int) (r : List S48 × List Int × Int) (hen : ∀ (args : Array Value) (w : World), (callFunc fn args).run Tryz.prog w = .ok (.enter fn args) w) (hw : WayC fn ⟨o0, o1, o2, o3, o4, o5, o6, o7, o8⟩ base g Ac cc s r) :
  Calls Tryz.prog 34 #[.pointer (some ⟨g, 0, none⟩), .agg #[.int .i64 o0, .float .f64 o1, .float .f64 o2, .int .i64 o3, .int .i64 o4, .int .i64 o5, .int .i64 o6, .int .i64 o7, .int .i64 o8], .func (.func fn) #[.pointer (some ⟨g, 0, none⟩)] #[]] w fun e w' => e = .returned (.int .i64 r.2.2) ∧ Fr F w w' ∧ ∃ A1 c1 A2 c2, Mx w' base g (Gr F w.heap.size w'.heap.size) Ac cc A1 c1 A2 c2 (after s r) := by
 have HX := Aside0.mk h
 obtain ⟨fl', ms', er⟩ := r
 unfold WayC at hw
 simp only at hw ⊢
 have HW := Aside0.mk hw;have HEN := Aside0.mk hen
 have HML : Aside0 (s.marks.length * 8 ≤ 140737488355328) := ⟨by omega⟩
 clear h hw hml hen
 go_enter_defers Tryz.func34, Tryz.ntmps34
 go_wp2_with fail
 obtain ⟨b3, hb3⟩ : ∃ b, b = w.heap.size := ⟨_, rfl⟩
 have HX1 := Aside0.mk (((HX.out.alloc (.cells #[.pointer (some ⟨g, 0, none⟩)] 38)).alloc (.cells #[.int .i64 o0, .float .f64 o1, .float .f64 o2, .int .i64 o3, .int .i64 o4, .int .i64 o5, .int .i64 o6, .int .i64 o7, .int .i64 o8] 37)).alloc (.cells #[.int .i64 0] 25))
 have HF1 := Aside0.mk ((((Fr.refl F w).alloc (.cells #[.pointer (some ⟨g, 0, none⟩)] 38)).alloc (.cells #[.int .i64 o0, .float .f64 o1, .float .f64 o2, .int .i64 o3, .int .i64 o4, .int .i64 o5, .int .i64 o6, .int .i64 o7, .int .i64 o8] 37)).alloc (.cells #[.int .i64 0] 25))
 have B3 := Aside0.mk (xaE (xaE (xbB w (.cells #[.pointer (some ⟨g, 0, none⟩)] 38)) (.cells #[.int .i64 o0, .float .f64 o1, .float .f64 o2, .int .i64 o3, .int .i64 o4, .int .i64 o5, .int .i64 o6, .int .i64 o7, .int .i64 o8] 37)) (.cells #[.int .i64 0] 25))
 have B4 := Aside0.mk (xaE (xbB (w.alloc (.cells #[.pointer (some ⟨g, 0, none⟩)] 38)) (.cells #[.int .i64 o0, .float .f64 o1, .float .f64 o2, .int .i64 o3, .int .i64 o4, .int .i64 o5, .int .i64 o6, .int .i64 o7, .int .i64 o8] 37)) (.cells #[.int .i64 0] 25))
 have B6 := Aside0.mk (xbB ((w.alloc (.cells #[.pointer (some ⟨g, 0, none⟩)] 38)).alloc (.cells #[.int .i64 o0, .float .f64 o1, .float .f64 o2, .int .i64 o3, .int .i64 o4, .int .i64 o5, .int .i64 o6, .int .i64 o7, .int .i64 o8] 37)) (.cells #[.int .i64 0] 25))
 generalize hw1 : ((w.alloc (.cells #[.pointer (some ⟨g, 0, none⟩)] 38)).alloc (.cells #[.int .i64 o0, .float .f64 o1, .float .f64 o2, .int .i64 o3, .int .i64 o4, .int .i64 o5, .int .i64 o6, .int .i64 o7, .int .i64 o8] 37)).alloc (.cells #[.int .i64 0] 25) = w1 at *
 simp only [World.size_alloc] at B4 B6
 rw [← hb3] at B3 B4 B6 ⊢
 have HB3 := Aside0.mk hb3;clear hw1 hb3
 refine xdP ?_
 have hS : ∀ w' : World, Below w1.heap.size w1 w' → w'.cell? ⟨b3, 0, none⟩ = some (.pointer (some ⟨g, 0, none⟩)) ∧ w'.cell? ⟨g, 2, none⟩ = some (.slice Af s.flows.length cf) ∧ w'.cell? ⟨g, 3, none⟩ = some (.slice Am s.marks.length cm) := fun w' hb => ⟨(xaA (xaK B3.out hb) 0).trans rfl, (xaA (HX1.out.below hb).k 2).trans rfl, (xaA (HX1.out.below hb).k 3).trans rfl⟩
 refine start_ (n := 13) (S := fun w' => w'.cell? ⟨b3, 0, none⟩ = some (.pointer (some ⟨g, 0, none⟩)) ∧ w'.cell? ⟨g, 2, none⟩ = some (.slice Af s.flows.length cf) ∧ w'.cell? ⟨g, 3, none⟩ = some (.slice Am s.marks.length cm)) (ds := [11, 12]) #[false, false, false, false, false, false, false, false, false, false, false, false, false] (by kernel_rfl) rfl rfl (hS _ (xaM (Below.refl _ _))) (fun hHeld => ?_)
 have J := J7.start (ms := s.marks) (xaM (Below.refl w1.heap.size w1))
 generalize w1.drew = w2 at *
 refine rT 0 ?_
 refine rP 1 ?_
 refine rP 2 ?_
 refine rT 3 ?_
 refine rT 4 ?_
 refine rP 5 ?_
 refine rP 6 ?_
 refine rT 7 ?_
 clear hHeld
 refine join_ (σ := Nat × Nat × Option Addr × Nat) 2 #[true, true, true, true, true, true, true, true, true, true, true, false, false] (fun q => [(7, .pointer (some ⟨q.1, 0, none⟩)), (8, .pointer (some ⟨q.2.1, 0, none⟩)), (17, .slice q.2.2.1 s.marks.length q.2.2.2)]) (fun q w' => J7 w1 w' (some q.1) (some q.2.1) (some q.2.2) s.marks) ?_ (fun hcont => ?_)
 rotate_left
 ·
  refine three_ (i := 8) (Ni := some 17) (j := 9) (Nj := some 7) (k := 10) (Nk := some 8) #[true, true, true, true, true, true, true, true, true, false, false, false, false] #[true, true, true, true, true, true, true, true, false, true, false, false, false] #[true, true, true, true, true, true, true, true, false, false, true, false, false] rfl rfl rfl rfl rfl rfl (by kernel_rfl) (by decide) (by decide) (by decide) (fun K hK => ?_) (fun K hK => ?_) (fun K hK => ?_)
  ·
   refine goes_ Tryz.func38 (by kernel_rfl) rfl #[.slice Am s.marks.length cm] (by rfl) rfl rfl (by (try simp only [List.map_toArray, List.map_cons, List.map_nil]); first | done | rfl) ?_
   with_reducible refine (xfM _ _ _ _ (HX1.out.below J.hb).m.C HML.out).mono ?_
   rintro e u ⟨v, rfl, hr, hb⟩
   obtain ⟨A8, c8, rfl, hs⟩ := Sl.of_R hr
   refine ⟨_, rfl, ?_⟩
   have J' := J.c hb hs
   refine hK.out _ _ (hS _ J'.hb) (fun hHeld => ?_)
   clear hK K hHeld
   refine two_ (i := 9) (Ni := some 7) (j := 10) (Nj := some 8) #[true, true, true, true, true, true, true, true, true, true, false, false, false] #[true, true, true, true, true, true, true, true, true, false, true, false, false] rfl rfl rfl rfl (by kernel_rfl) (by decide) (by decide) (fun K hK => ?_) (fun K hK => ?_)
   ·
    refine value_ (w1 := ?_) (v := ?_) (by rfl) rfl ?_ ?_
    rotate_left 2
    ·
     go_simp
     constructor
     ·
      rfl
     ·
      rfl
    have J'' := J'.a7
    try simp only [World.size_alloc] at J''
    refine hK.out _ _ (hS _ J''.hb) (fun hHeld => ?_)
    clear hK K hHeld
    refine rO 10 (fun K hK => ?_)
    refine value_ (w1 := ?_) (v := ?_) (by rfl) rfl ?_ ?_
    rotate_left 2
    ·
     go_simp
     constructor
     ·
      rfl
     ·
      rfl
    have J''' := J''.a8
    try simp only [World.size_alloc] at J'''
    refine hK.out _ _ (hS _ J'''.hb) (fun hHeld => ?_)
    clear hK K hHeld
    exact norm_ (by simp only [putAll, Act.put, List.setIfInBounds_toArray, List.set_cons_zero, List.set_cons_succ, World.size_alloc]; rfl) (hcont ⟨_, _, _, _⟩ _ J''')
   ·
    refine value_ (w1 := ?_) (v := ?_) (by rfl) rfl ?_ ?_
    rotate_left 2
    ·
     go_simp
     constructor
     ·
      rfl
     ·
      rfl
    have J'' := J'.a8
    try simp only [World.size_alloc] at J''
    refine hK.out _ _ (hS _ J''.hb) (fun hHeld => ?_)
    clear hK K hHeld
    refine rO 9 (fun K hK => ?_)
    refine value_ (w1 := ?_) (v := ?_) (by rfl) rfl ?_ ?_
    rotate_left 2
    ·
     go_simp
     constructor
     ·
      rfl
     ·
      rfl
    have J''' := J''.a7
    try simp only [World.size_alloc] at J'''
    refine hK.out _ _ (hS _ J'''.hb) (fun hHeld => ?_)
    clear hK K hHeld
    exact norm_ (by simp only [putAll, Act.put, List.setIfInBounds_toArray, List.set_cons_zero, List.set_cons_succ, World.size_alloc]; rfl) (hcont ⟨_, _, _, _⟩ _ J''')
  ·
   refine value_ (w1 := ?_) (v := ?_) (by rfl) rfl ?_ ?_
   rotate_left 2
   ·
    go_simp
    constructor
    ·
     rfl
    ·
     rfl
   have J' := J.a7
   try simp only [World.size_alloc] at J'
   refine hK.out _ _ (hS _ J'.hb) (fun hHeld => ?_)
   clear hK K hHeld
   refine two_ (i := 8) (Ni := some 17) (j := 10) (Nj := some 8) #[true, true, true, true, true, true, true, true, true, true, false, false, false] #[true, true, true, true, true, true, true, true, false, true, true, false, false] rfl rfl rfl rfl (by kernel_rfl) (by decide) (by decide) (fun K hK => ?_) (fun K hK => ?_)
   ·
    refine goes_ Tryz.func38 (by kernel_rfl) rfl #[.slice Am s.marks.length cm] (by rfl) rfl rfl (by (try simp only [List.map_toArray, List.map_cons, List.map_nil]); first | done | rfl) ?_
    with_reducible refine (xfM _ _ _ _ (HX1.out.below J'.hb).m.C HML.out).mono ?_
    rintro e u ⟨v, rfl, hr, hb⟩
    obtain ⟨A8, c8, rfl, hs⟩ := Sl.of_R hr
    refine ⟨_, rfl, ?_⟩
    have J'' := J'.c hb hs
    refine hK.out _ _ (hS _ J''.hb) (fun hHeld => ?_)
    clear hK K hHeld
    refine rO 10 (fun K hK => ?_)
    refine value_ (w1 := ?_) (v := ?_) (by rfl) rfl ?_ ?_
    rotate_left 2
    ·
     go_simp
     constructor
     ·
      rfl
     ·
      rfl
    have J''' := J''.a8
    try simp only [World.size_alloc] at J'''
    refine hK.out _ _ (hS _ J'''.hb) (fun hHeld => ?_)
    clear hK K hHeld
    exact norm_ (by simp only [putAll, Act.put, List.setIfInBounds_toArray, List.set_cons_zero, List.set_cons_succ, World.size_alloc]; rfl) (hcont ⟨_, _, _, _⟩ _ J''')
   ·
    refine value_ (w1 := ?_) (v := ?_) (by rfl) rfl ?_ ?_
    rotate_left 2
    ·
     go_simp
     constructor
     ·
      rfl
     ·
      rfl
    have J'' := J'.a8
    try simp only [World.size_alloc] at J''
    refine hK.out _ _ (hS _ J''.hb) (fun hHeld => ?_)
    clear hK K hHeld
    refine rO 8 (fun K hK => ?_)
    refine goes_ Tryz.func38 (by kernel_rfl) rfl #[.slice Am s.marks.length cm] (by rfl) rfl rfl (by (try simp only [List.map_toArray, List.map_cons, List.map_nil]); first | done | rfl) ?_
    with_reducible refine (xfM _ _ _ _ (HX1.out.below J''.hb).m.C HML.out).mono ?_
    rintro e u ⟨v, rfl, hr, hb⟩
    obtain ⟨A8, c8, rfl, hs⟩ := Sl.of_R hr
    refine ⟨_, rfl, ?_⟩
    have J''' := J''.c hb hs
    refine hK.out _ _ (hS _ J'''.hb) (fun hHeld => ?_)
    clear hK K hHeld
    exact norm_ (by simp only [putAll, Act.put, List.setIfInBounds_toArray, List.set_cons_zero, List.set_cons_succ, World.size_alloc]; rfl) (hcont ⟨_, _, _, _⟩ _ J''')
  ·
   refine value_ (w1 := ?_) (v := ?_) (by rfl) rfl ?_ ?_
   rotate_left 2
   ·
    go_simp
    constructor
    ·
     rfl
    ·
     rfl
   have J' := J.a8
   try simp only [World.size_alloc] at J'
   refine hK.out _ _ (hS _ J'.hb) (fun hHeld => ?_)
   clear hK K hHeld
   refine two_ (i := 8) (Ni := some 17) (j := 9) (Nj := some 7) #[true, true, true, true, true, true, true, true, true, false, true, false, false] #[true, true, true, true, true, true, true, true, false, true, true, false, false] rfl rfl rfl rfl (by kernel_rfl) (by decide) (by decide) (fun K hK => ?_) (fun K hK => ?_)
   ·
    refine goes_ Tryz.func38 (by kernel_rfl) rfl #[.slice Am s.marks.length cm] (by rfl) rfl rfl (by (try simp only [List.map_toArray, List.map_cons, List.map_nil]); first | done | rfl) ?_
    with_reducible refine (xfM _ _ _ _ (HX1.out.below J'.hb).m.C HML.out).mono ?_
    rintro e u ⟨v, rfl, hr, hb⟩
    obtain ⟨A8, c8, rfl, hs⟩ := Sl.of_R hr
    refine ⟨_, rfl, ?_⟩
    have J'' := J'.c hb hs
    refine hK.out _ _ (hS _ J''.hb) (fun hHeld => ?_)
    clear hK K hHeld
    refine rO 9 (fun K hK => ?_)
    refine value_ (w1 := ?_) (v := ?_) (by rfl) rfl ?_ ?_
    rotate_left 2
    ·
     go_simp
     constructor
     ·
      rfl
     ·
      rfl
    have J''' := J''.a7
    try simp only [World.size_alloc] at J'''
    refine hK.out _ _ (hS _ J'''.hb) (fun hHeld => ?_)
    clear hK K hHeld
    exact norm_ (by simp only [putAll, Act.put, List.setIfInBounds_toArray, List.set_cons_zero, List.set_cons_succ, World.size_alloc]; rfl) (hcont ⟨_, _, _, _⟩ _ J''')
   ·
    refine value_ (w1 := ?_) (v := ?_) (by rfl) rfl ?_ ?_
    rotate_left 2
    ·
     go_simp
     constructor
     ·
      rfl
     ·
      rfl
    have J'' := J'.a7
    try simp only [World.size_alloc] at J''
    refine hK.out _ _ (hS _ J''.hb) (fun hHeld => ?_)
    clear hK K hHeld
    refine rO 8 (fun K hK => ?_)
    refine goes_ Tryz.func38 (by kernel_rfl) rfl #[.slice Am s.marks.length cm] (by rfl) rfl rfl (by (try simp only [List.map_toArray, List.map_cons, List.map_nil]); first | done | rfl) ?_
    with_reducible refine (xfM _ _ _ _ (HX1.out.below J''.hb).m.C HML.out).mono ?_
    rintro e u ⟨v, rfl, hr, hb⟩
    obtain ⟨A8, c8, rfl, hs⟩ := Sl.of_R hr
    refine ⟨_, rfl, ?_⟩
    have J''' := J''.c hb hs
    refine hK.out _ _ (hS _ J'''.hb) (fun hHeld => ?_)
    clear hK K hHeld
    exact norm_ (by simp only [putAll, Act.put, List.setIfInBounds_toArray, List.set_cons_zero, List.set_cons_succ, World.size_alloc]; rfl) (hcont ⟨_, _, _, _⟩ _ J''')
 rintro ⟨b7, b8, A8, c8⟩ w3 J3
 refine rN (a' := _) ?_ (by simp only [putAll, Act.put, List.setIfInBounds_toArray, List.set_cons_zero, List.set_cons_succ]; rfl)
 have h7 := (J3.h7 _ rfl).2
 refine rL 11 (fun K hK => ?_)
 refine skip_ (w1 := ?_) (by rfl) rfl ?_ ?_
 rotate_left
 ·
  have d0 : w3.cell? ⟨b7, 0, none⟩ = some (.slice none 0 0) := (xaA h7 0).trans rfl
  have z0 : w3.frozen? ⟨b7, 0, none⟩ = false := xaB h7 0
  go_simp
  rfl
 refine hK.out _ _ ?_
 clear hK K
 have h8 : (w3.setCell ⟨b7, 0, none⟩ (.slice Af s.flows.length cf)).heap[b8]? = some (.cells #[.slice none 0 0] 49 (0, 0)) := by
  refine (Below.heap_setCell _ _ _ _ (fun e => ?_)).trans (J3.h8 _ rfl).2
  simp only at e
  subst e
  have h1 := (J3.h8 _ rfl).2
  rw [h7] at h1; injection h1 with h1; injection h1 with _ h1; cases h1
 refine rL 12 (fun K hK => ?_)
 refine skip_ (w1 := ?_) (by rfl) rfl ?_ ?_
 rotate_left
 ·
  have d0 := (xaA h8 0).trans rfl
  have z0 := xaB h8 0
  go_simp
  rfl
 refine hK.out _ _ ?_
 clear hK K
 refine rD ?_
 have HS3 : Aside0 (w1.heap.size ≤ b7 ∧ w1.heap.size ≤ b8) := ⟨(J3.h7 _ rfl).1, (J3.h8 _ rfl).1⟩
 have hne : b8 ≠ b7 := fun e => by
  have h1 := (J3.h8 _ rfl).2
  rw [e, h7] at h1; injection h1 with h1; injection h1 with _ h1; cases h1
 have HN1 : Below w1.heap.size w1 ((w3.setCell ⟨b7, 0, none⟩ (.slice Af s.flows.length cf)).setCell ⟨b8, 0, none⟩ (.slice A8 s.marks.length c8)) := xbA (xbA J3.hb HS3.out.1) HS3.out.2
 have HX3 := Aside0.mk (HX1.out.below HN1)
 have HF3 := Aside0.mk (HF1.out.below HN1)
 have B33 := Aside0.mk (xaK B3.out HN1)
 have B43 := Aside0.mk (xaK B4.out HN1)
 have B63 := Aside0.mk (xaK B6.out HN1)
 have HM3 := Aside0.mk (((J3.hm _ rfl).set h7 (by decide) 0 (.slice Af s.flows.length cf)).set h8 (by decide) 0 (.slice A8 s.marks.length c8))
 have B83 := Aside0.mk (xaS h8 0 (.slice A8 s.marks.length c8) rfl)
 have B73 : Aside0 (((w3.setCell ⟨b7, 0, none⟩ (.slice Af s.flows.length cf)).setCell ⟨b8, 0, none⟩ (.slice A8 s.marks.length c8)).heap[b7]? = some (.cells #[.slice Af s.flows.length cf] 24 (0, 0))) := ⟨(Below.heap_setCell _ _ _ _ (fun e => hne e.symm)).trans (xaS h7 0 (.slice Af s.flows.length cf) rfl)⟩
 have HL1 : Aside0 (b3 + 1 + 1 < w1.heap.size) := ⟨blk_lt B6.out⟩
 generalize hw4 : ((w3.setCell ⟨b7, 0, none⟩ (.slice Af s.flows.length cf)).setCell ⟨b8, 0, none⟩ (.slice A8 s.marks.length c8)) = w4 at *
 have HZ := Aside0.mk HN1.size;clear hw4 h7 h8 J3 HN1 hS HX1 HF1 B3 B4 B6 hne
 have hmf : ∀ (fn : Fn) (first cap : Array Value) (w : World), (Instr.makeFunc fn first cap).run Tryz.prog w = .ok (.func fn first cap) w := fun _ _ _ _ => rfl
 obtain ⟨c0, c1, c2, c3, c4, c5, c6, c7, c8, z0, z1, z2, z3, z4, z5, z6, z7, z8⟩ := blk9 B43
 clear z0 z1 z2 z3 z4 z5 z6 z7 z8
 go_wp2_with fail
 rw [HEN.out, Oper.upon_enter]
 refine (HW.out w4 F Af cf Am cm HX3.out).mono ?_
 rintro e w5 ⟨rfl, hl⟩
 have HNF : Aside0 (∀ k, b3 ≤ k → ¬ F k) := ⟨fun k hk hF => by have h1 := (HX.out.hF k hF).2; have h2 := HB3.out; omega⟩
 have h3 := hl.fr.blk B33.out (HNF.out _ (Nat.le_refl _))
 have h6 := hl.fr.blk B63.out (HNF.out _ (by omega))
 have h7 := hl.fr.blk B73.out (HNF.out _ (by have := HS3.out; have := HL1.out; omega))
 have h8 := hl.fr.blk B83.out (HNF.out _ (by have := HS3.out; have := HL1.out; omega))
 have HL := Aside0.mk hl;have H3 := Aside0.mk h3;have H6 := Aside0.mk h6;have H7 := Aside0.mk h7;have H8 := Aside0.mk h8
 have e0 : w5.cell? ⟨b3 + 1 + 1, 0, none⟩ = some (.int .i64 0) := (xaA h6 0).trans rfl
 have y0 : w5.frozen? ⟨b3 + 1 + 1, 0, none⟩ = false := xaB h6 0
 clear hl h3 h6 h7 h8 c0 c1 c2 c3 c4 c5 c6 c7 c8
 go_wp2_with fail
 have hs5 := HL.out.fr.size
 have HF5 : Aside0 (Fr F w (w5.setCell ⟨b3 + 1 + 1, 0, none⟩ (.int .i64 er))) := ⟨(HF3.out.step HL.out.fr).set _ (Or.inr (by have := HB3.out; show w.heap.size ≤ b3 + 1 + 1; omega))⟩
 have e6 : ∀ u, (w5.setCell ⟨b3 + 1 + 1, 0, none⟩ u).heap.size = w5.heap.size := fun u => by simp
 have hz1 := HZ.out;have hb3 := HB3.out;have hl1 := HL1.out
 refine leaves_cons (f := 58) (args := #[.pointer (some ⟨b3 + 1 + 1, 0, none⟩), .pointer (some ⟨b7, 0, none⟩), .pointer (some ⟨b8, 0, none⟩), .pointer (some ⟨b3, 0, none⟩)]) (by simp) (by simp [go_sem]) ?_
 have h6 := xaS H6.out 0 (.int .i64 er) rfl
 by_cases he : er = 0
 ·
  subst he
  refine (back_ok _ _ _ _ .returning _ ((xaA h6 0).trans rfl)).mono ?_
  rintro e u' w'' ⟨rfl, rfl, rfl⟩
  refine ⟨.int .i64 0, ?_, rfl, HF5.out, ?_⟩
  ·
   have d6 : (w5.setCell ⟨b3 + 1 + 1, 0, none⟩ (.int .i64 0)).cell? ⟨b3 + 1 + 1, 0, none⟩ = some (.int .i64 0) := (xaA h6 0).trans rfl
   simp [results, Tryz.results34, go_sem, d6]
  ·
   obtain ⟨A1, c1, A2, c2, h1⟩ := HL.out.mx
   refine ⟨A1, c1, A2, c2, ?_⟩
   have h2 := h1.out H6.out (by decide) (by decide) (by decide) (by decide) 0 (.int .i64 0)
   rw [← e6] at h2
   exact h2.grow HF3.out.size (by rw [e6]; exact hs5) HX.out.xbY HX.out.own_lt
 ·
  obtain ⟨A1, c1, A2, c2, h1⟩ := HL.out.mx
  have h2 := h1.out H6.out (by decide) (by decide) (by decide) (by decide) 0 (.int .i64 er)
  rw [← e6] at h2
  replace h2 := h2.grow HF3.out.size (by rw [e6]; exact hs5) HX.out.xbY HX.out.own_lt
  have hne : ∀ k (o : Obj), w5.heap[k]? = some o → k ≠ b3 + 1 + 1 → (w5.setCell ⟨b3 + 1 + 1, 0, none⟩ (.int .i64 er)).heap[k]? = some o := fun k o h hk => (Below.heap_setCell _ _ _ _ hk).trans h
  have h3 := hne _ _ H3.out (by omega)
  have h7 := hne _ _ H7.out (by have := HS3.out; omega)
  have h8 := hne _ _ H8.out (by have := HS3.out; omega)
  have hold : Sl k48 48 (w5.setCell ⟨b3 + 1 + 1, 0, none⟩ (.int .i64 er)) base F Af cf s.flows := (HL.out.old he).set H6.out (by decide) _ _
  have hmk : Sl (Kd.int .i64) 3 (w5.setCell ⟨b3 + 1 + 1, 0, none⟩ (.int .i64 er)) base (fun k => w1.heap.size ≤ k ∧ k < w4.heap.size) A8 c8 s.marks :=
   (((Sl.new HM3.out).fr HL.out.fr (fun k hk => HNF.out k (by omega))).set H6.out (by decide) _ _).rebase (by have := HX.out.xbY; omega)
  generalize hw6 : w5.setCell ⟨b3 + 1 + 1, 0, none⟩ (.int .i64 er) = w6 at *
  have hs6 : w6.heap.size = w5.heap.size := by rw [← hw6]; simp
  obtain ⟨g0, g1, g2, g3, g4, g5, z0, z1, z2, z3, z4, z5⟩ := blk6 h2.k
  refine (back_bad _ _ _ _ g .returning _ er _ _ he ((xaA h6 0).trans rfl) ((xaA h7 0).trans rfl) ((xaA h8 0).trans rfl) ((xaA h3 0).trans rfl) _ _ _ _ _ _ rfl rfl _ _ g2 g3 z2 z3).mono ?_
  rintro e u' w'' ⟨rfl, rfl, rfl⟩
  have hp1 := Mx.put (s' := { s with flows := s.flows, marks := ms' }) 2 (.slice Af s.flows.length cf) h2.k (by simp) h2.c (hold.mono (fun k hk _ => Or.inl hk)) h2.m h2.hg h2.hF h2.hc
  have hp2 := Mx.put (s' := s) (F := Gr F w.heap.size w6.heap.size) 3 (.slice A8 s.marks.length c8) hp1.k (by simp) hp1.c hp1.f ((hmk.set h2.k (by decide) 2 (.slice Af s.flows.length cf)).mono (fun k hk _ => Or.inr ⟨by omega, by omega⟩)) hp1.hg hp1.hF hp1.hc
  refine ⟨.int .i64 er, ?_, rfl, ?_, ?_⟩
  ·
   have h9 := hp2.k
   have d6 : ((w6.setCell ⟨g, 2, none⟩ (.slice Af s.flows.length cf)).setCell ⟨g, 3, none⟩ (.slice A8 s.marks.length c8)).cell? ⟨b3 + 1 + 1, 0, none⟩ = some (.int .i64 er) := by
    have h10 : b3 + 1 + 1 ≠ g := fun e => by
     have h11 := h2.k
     rw [← e, h6] at h11; injection h11 with h11; injection h11 with _ h11; cases h11
    have h12 := (Below.heap_setCell (w6.setCell ⟨g, 2, none⟩ (.slice Af s.flows.length cf)) ⟨g, 3, none⟩ (.slice A8 s.marks.length c8) _ h10).trans ((Below.heap_setCell w6 ⟨g, 2, none⟩ (.slice Af s.flows.length cf) _ h10).trans h6)
    exact (xaA h12 0).trans rfl
   simp [results, Tryz.results34, go_sem, d6]
  ·
   exact (HF5.out.set _ (Or.inl HX.out.hg)).set _ (Or.inl HX.out.hg)
  ·
   unfold after
   rw [if_neg he]
   have e7 : ((w6.setCell ⟨g, 2, none⟩ (.slice Af s.flows.length cf)).setCell ⟨g, 3, none⟩ (.slice A8 s.marks.length c8)).heap.size = w6.heap.size := by simp
   rw [← e7] at hp2
   exact ⟨_, _, _, _, hp2⟩
end
def wayV (g : Nat) (fn : FuncId) : Value := .func (.func fn) #[.pointer (some ⟨g, 0, none⟩)] #[]
theorem ways_ok (g : Nat) (w : World) : Calls Tryz.prog 33 #[.pointer (some ⟨g, 0, none⟩)] w fun e w' => e = .returned (.slice (some ⟨w.heap.size, 0, none⟩) 8 8) ∧ w' = w.alloc (.cells #[.nilFunc, wayV g 51, wayV g 52, wayV g 53, wayV g 54, wayV g 55, wayV g 56, wayV g 57] 89) := by
 have hmf : ∀ (fn : Fn) (first cap : Array Value) (w : World), (Instr.makeFunc fn first cap).run Tryz.prog w = .ok (.func fn first cap) w := fun _ _ _ _ => rfl
 go_enter Tryz.func33, Tryz.ntmps33
 go_wp2
 go_ret
 exact ⟨rfl, rfl⟩
section
variable {w : World} {base g : Nat} {F : Nat → Prop} {Ac : Option Addr} {cc : Nat} {Af : Option Addr} {cf : Nat} {Am : Option Addr} {cm : Nat} {s : St}
theorem size_ok (h : Mx w base g F Ac cc Af cf Am cm s) : Calls Tryz.prog 21 #[.pointer (some ⟨g, 0, none⟩)] w fun e w' => e = .returned (.tuple #[.int .i64 (s.flows.length : Int), .int .i64 (s.marks.length : Int)]) ∧ ∃ k, w' = w.drewN k := by
 obtain ⟨c0, c1, c2, c3, c4, c5, z0, z1, z2, z3, z4, z5⟩ := blk6 h.k
 clear h
 go_enter Tryz.func21, Tryz.ntmps21
 go_wp2
 go_quiet (fail)
 go_wp2
 go_ret2
 exact ⟨rfl, _, rfl⟩
def flowsT (s : St) : List S48 × Int := if s.ended = true then (if s.fault = 0 then (s.flows, 0) else ([], s.fault)) else ([], 190)
theorem flows_ok (h : Mx w base g F Ac cc Af cf Am cm s) (hl : s.flows.length ≤ 4096) : Calls Tryz.prog 17 #[.pointer (some ⟨g, 0, none⟩)] w fun e w' => ∃ A c, e = .returned (.tuple #[.slice A (flowsT s).1.length c, .int .i64 (flowsT s).2]) ∧ Sl k48 48 w' w.heap.size (fun _ => True) A c (flowsT s).1 ∧ Below w.heap.size w w' := by
 obtain ⟨c0, c1, c2, c3, c4, c5, z0, z1, z2, z3, z4, z5⟩ := blk6 h.k
 have HX := Aside0.mk h;have HL := Aside0.mk hl;clear h hl
 by_cases he : s.ended = true
 ·
  by_cases hf : s.fault = 0
  ·
   have e1 : flowsT s = (s.flows, 0) := by unfold flowsT; rw [if_pos he, if_pos hf]
   rw [e1]
   rw [he] at c4
   rw [hf] at c5
   clear he hf e1
   go_enter Tryz.func17, Tryz.ntmps17
   go_wp2_with (first | (go_at_call 36; go_loud ((with_reducible refine (clone_flow _ _ _ _ HX.out.f.C (by have := HL.out; omega)).mono ?_); rintro e w1 ⟨v, rfl, hr, hb⟩; obtain ⟨A1, k1, rfl, hs⟩ := Sl.of_R hr; have HS := Aside0.mk hs; have HB := Aside0.mk hb; clear hr hs hb)) | (go_at_call 35; go_loud ((with_reducible refine (xgF _ _ _ _ HS.out.le HS.out.lim).mono ?_); rintro e w2 ⟨rfl, hw_⟩; obtain rfl := hw_.symm)))
   go_ret2
   refine ⟨A1, _, rfl, ?_, HB.out⟩
   have h1 := HS.out.head s.flows.length s.flows.length (Nat.le_refl _) (Nat.le_refl _) HS.out.le
   rwa [List.take_length] at h1
  ·
   have e1 : flowsT s = ([], s.fault) := by unfold flowsT; rw [if_pos he, if_neg hf]
   have t1 : (s.fault == 0) = false := by rw [beq_eq_false_iff_ne]; exact hf
   have t2 : (s.fault != 0) = true := by rw [bne, t1]; rfl
   rw [e1]
   rw [he] at c4
   clear he hf e1
   go_enter Tryz.func17, Tryz.ntmps17
   go_wp2_with fail
   go_quiet (fail)
   go_wp2_with fail
   go_ret2
   exact ⟨none, 0, rfl, Sl.nil _ _ _ _ _, xaJ (Below.refl _ _) _⟩
 ·
  have e1 : flowsT s = ([], 190) := by unfold flowsT; rw [if_neg he]
  rw [Bool.not_eq_true] at he
  rw [he] at c4
  rw [e1]
  clear he e1
  go_enter Tryz.func17, Tryz.ntmps17
  go_wp2_with fail
  go_ret2
  exact ⟨none, 0, rfl, Sl.nil _ _ _ _ _, Below.refl _ _⟩
end
def dOf (o : S37) : Int := if o.f0 = 1 then 1 else if 4 ≤ o.f0 then -1 else 0
def depthL (l : List S37) : Int := (l.map dOf).sum
theorem xgY {l : List S37} {i : Nat} (h : i < l.length) : depthL (l.take (i + 1)) = depthL (l.take i) + dOf l[i] := by
  unfold depthL
  rw [List.take_succ_eq_append_getElem h, List.map_append, List.sum_append]; simp
structure Good (fxs : S37 → List S48 × Int) (l : List S37) : Prop where
 len : l.length ≤ 8192
 op : ∀ o ∈ l, OkO (fxs o) o
 fix : ∀ o ∈ l, o.f0 = 3 → FixC o (fxs o) ∧ (fxs o).1.length ≤ 100000
 dep : ∀ (i : Nat) (h : i < l.length), 4 ≤ l[i].f0 → 0 < depthL (l.take i)
 up : ∀ i, i ≤ l.length → depthL (l.take i) ≤ 63
structure Inv (s : St) : Prop where
 ok : OkS s.flows s.marks
 loc : 0 ≤ s.loc ∧ s.loc ≤ (s.code.length : Int)
 md : s.fault = 0 → (s.marks.length : Int) = depthL (s.code.take s.loc.toNat)
 ml : s.marks.length ≤ 63
def opAt (s : St) : S37 := rd_T37 s.code s.loc
def one (fxs : S37 → List S48 × Int) (s : St) : St :=
  { s with flows := (doOp (fxs (opAt s)) (opAt s) s.flows s.marks).1, marks := (doOp (fxs (opAt s)) (opAt s) s.flows s.marks).2.1, fault := (doOp (fxs (opAt s)) (opAt s) s.flows s.marks).2.2, loc := s.loc + 1 }
def goes (s : St) : Bool := decide (s.loc < (s.code.length : Int)) && decide (s.fault = 0)
def runN (fxs : S37 → List S48 × Int) : Nat → St → Nat × St
  | 0, s => (0, s)
  | n + 1, s => if goes s = true then ((runN fxs n (one fxs s)).1 + 1, (runN fxs n (one fxs s)).2) else (0, s)
def ends (s : St) : St := { s with ended := decide (s.loc = (s.code.length : Int)) || decide (s.fault ≠ 0) }
structure Prog where
 done : Int
 ended : Bool
 fault : Int
def stepM (fxs : S37 → List S48 × Int) (s : St) (n : Int) : Prog × Int × St :=
  if s.ended = true then (⟨0, false, 0⟩, 190, s) else if n < 1 then (⟨0, false, 0⟩, 1, s)
  else (⟨(runN fxs n.toNat s).1, (ends (runN fxs n.toNat s).2).ended, (runN fxs n.toNat s).2.fault⟩, 0, ends (runN fxs n.toNat s).2)
theorem act_marks {fx : List S48 × Int} {o : S37} {fl : List S48} {ms : List Int} (hk : 1 ≤ o.f0 ∧ o.f0 ≤ 7) (hne : 4 ≤ o.f0 → ms ≠ []) (he : (act fx o fl ms).2.2 = 0) : ((act fx o fl ms).2.1.length : Int) = ms.length + dOf o := by
 have hd : ms ≠ [] → ((ms.dropLast).length : Int) = ms.length + -1 := fun h => by
  have := List.length_pos_iff.2 h
  rw [List.length_dropLast]; omega
 unfold act at he ⊢
 unfold dOf
 by_cases h1 : o.f0 = 1
 ·
  rw [if_pos h1, if_pos h1]; simp
 rw [if_neg h1] at he ⊢
 by_cases h2 : o.f0 = 2
 ·
  rw [if_pos h2, if_neg h1, if_neg (show ¬ (4 : Int) ≤ o.f0 by omega)]; split <;> simp
 rw [if_neg h2] at he ⊢
 by_cases h3 : o.f0 = 3
 ·
  rw [if_pos h3, if_neg h1, if_neg (show ¬ (4 : Int) ≤ o.f0 by omega)]; split <;> simp
 rw [if_neg h3] at he ⊢
 rw [if_neg h1, if_pos (show 4 ≤ o.f0 by omega)]
 have hne := hne (by omega)
 by_cases h4 : o.f0 = 4
 ·
  rw [if_pos h4]; exact hd hne
 rw [if_neg h4] at he ⊢
 by_cases h5 : o.f0 = 5
 ·
  rw [if_pos h5]; split
  ·
   exact hd hne
  ·
   exact hd hne
 rw [if_neg h5] at he ⊢
 by_cases h6 : o.f0 = 6
 ·
  rw [if_pos h6]; exact hd hne
 rw [if_neg h6]; exact hd hne
theorem opAt_eq {s : St} (h0 : 0 ≤ s.loc) (h : s.loc.toNat < s.code.length) : opAt s = s.code[s.loc.toNat] := by
  unfold opAt rd_T37; rw [List.getD_eq_getElem?_getD, List.getElem?_eq_getElem h]; rfl
theorem xfC {s : St} : goes s = true ↔ s.loc < (s.code.length : Int) ∧ s.fault = 0 := by unfold goes; simp
theorem op_known {fxs : S37 → List S48 × Int} {s : St} (hg : Good fxs s.code) (hi : Inv s) (h : goes s = true) : OkO (fxs (opAt s)) (opAt s) ∧ (4 ≤ (opAt s).f0 → s.marks ≠ []) ∧ opAt s ∈ s.code := by
 obtain ⟨h1, h2⟩ := xfC.1 h
 have h3 : s.loc.toNat < s.code.length := by have := hi.loc; omega
 have e := opAt_eq hi.loc.1 h3
 have hm : opAt s ∈ s.code := by rw [e]; exact List.getElem_mem h3
 refine ⟨hg.op _ hm, fun h4 hn => ?_, hm⟩
 rw [e] at h4
 have h5 := hg.dep _ h3 h4
 rw [← hi.md h2, hn] at h5
 exact absurd h5 (by decide)
theorem one_inv {fxs : S37 → List S48 × Int} {s : St} (hg : Good fxs s.code) (hi : Inv s) (h : goes s = true) : Inv (one fxs s) := by
 obtain ⟨h1, h2⟩ := xfC.1 h
 obtain ⟨ho, hne, hm⟩ := op_known hg hi h
 have h3 : s.loc.toNat < s.code.length := by have := hi.loc; omega
 have e := opAt_eq hi.loc.1 h3
 have hd : (one fxs s).fault = 0 → ((one fxs s).marks.length : Int) = depthL (s.code.take (s.loc.toNat + 1)) := fun hf => by
  have hf' : (doOp (fxs (opAt s)) (opAt s) s.flows s.marks).2.2 = 0 := hf
  show (((doOp (fxs (opAt s)) (opAt s) s.flows s.marks).2.1.length : Nat) : Int) = _
  unfold doOp at hf' ⊢
  by_cases he : (act (fxs (opAt s)) (opAt s) s.flows s.marks).2.2 = 0
  ·
   rw [if_pos he, act_marks ho.kind hne he, hi.md h2, xgY h3, e]
  ·
   rw [if_neg he] at hf'; exact absurd hf' he
 have ht : (one fxs s).loc.toNat = s.loc.toNat + 1 := by
  show (s.loc + 1).toNat = _; have := hi.loc; omega
 refine ⟨do_ok hi.ok ho hne, ?_, fun hf => ?_, ?_⟩
 ·
  show 0 ≤ s.loc + 1 ∧ s.loc + 1 ≤ (s.code.length : Int); have := hi.loc; omega
 ·
  rw [ht]; exact hd hf
 ·
  by_cases hf : (one fxs s).fault = 0
  ·
   have h4 := hd hf
   have h5 := hg.up (s.loc.toNat + 1) (by omega)
   omega
  ·
   have hf' : ¬ (doOp (fxs (opAt s)) (opAt s) s.flows s.marks).2.2 = 0 := hf
   show (doOp (fxs (opAt s)) (opAt s) s.flows s.marks).2.1.length ≤ 63
   unfold doOp at hf' ⊢
   by_cases he : (act (fxs (opAt s)) (opAt s) s.flows s.marks).2.2 = 0
   ·
    rw [if_pos he] at hf'; exact absurd he hf'
   ·
    rw [if_neg he]; exact hi.ml
theorem one_code (fxs : S37 → List S48 × Int) (s : St) : (one fxs s).code = s.code := rfl
theorem run_inv {fxs : S37 → List S48 × Int} : ∀ (n : Nat) (s : St), Good fxs s.code → Inv s → Inv (runN fxs n s).2 ∧ (runN fxs n s).2.code = s.code ∧ (runN fxs n s).2.ended = s.ended ∧ (runN fxs n s).1 ≤ n ∧ (runN fxs n s).2.loc = s.loc + (runN fxs n s).1
 | 0, s, _, hi => ⟨hi, rfl, rfl, Nat.le_refl _, by simp [runN]⟩
 | n + 1, s, hg, hi => by
  unfold runN
  by_cases h : goes s = true
  ·
   rw [if_pos h]
   obtain ⟨h1, h2, h3, h4, h5⟩ := run_inv n (one fxs s) hg (one_inv hg hi h)
   refine ⟨h1, h2, h3, by simp only; omega, ?_⟩
   have h6 : (one fxs s).loc = s.loc + 1 := rfl
   simp only
   rw [h5, h6]; omega
  ·
   rw [if_neg h]; exact ⟨hi, rfl, rfl, Nat.zero_le _, by simp⟩
theorem ends_inv {s : St} (h : Inv s) : Inv (ends s) := ⟨h.ok, h.loc, h.md, h.ml⟩
theorem Mx.flat {w1 : World} {base g : Nat} {F : Nat → Prop} {Ac : Option Addr} {cc : Nat} {Af : Option Addr} {cf : Nat} {Am : Option Addr} {cm : Nat} {s : St} {n m m1 : Nat} (h : Mx w1 base g (Gr (Gr F n m) m1 w1.heap.size) Ac cc Af cf Am cm s) (h1 : n ≤ m) (h2 : m ≤ m1) (h3 : m1 ≤ w1.heap.size) (hb : base ≤ n) (hc : ∀ k, own Ac k → k < n) : Mx w1 base g (Gr F n w1.heap.size) Ac cc Af cf Am cm s :=
 h.mono (Gr.flat h1 (Nat.le_trans h2 h3) (Nat.le_trans h1 h2)) (fun k hk => by
  rcases hk with hk | hk
  ·
   exact h.hF k (Or.inl (Or.inl hk))
  ·
   omega) (fun k hk hg => by
  rcases hg with h4 | h4
  ·
   exact h.hc k hk (Or.inl (Or.inl h4))
  ·
   have := hc k hk; omega)
theorem way_all {base g : Nat} {Ac : Option Addr} {cc : Nat} {s : St} {fx : List S48 × Int} {o : S37} (h : OkS s.flows s.marks) (ho : OkO fx o) (hfx : o.f0 = 3 → FixC o fx ∧ fx.1.length ≤ 100000) (hne : 4 ≤ o.f0 → s.marks ≠ []) (hl : s.marks.length < 10000) :
  ∃ fn : FuncId, WayC fn o base g Ac cc s (act fx o s.flows s.marks) ∧ (∀ (args : Array Value) (w : World), (callFunc fn args).run Tryz.prog w = .ok (.enter fn args) w) ∧
   ∀ (w : World) (gw : Nat), w.heap[gw]? = some (.cells #[.nilFunc, wayV g 51, wayV g 52, wayV g 53, wayV g 54, wayV g 55, wayV g 56, wayV g 57] 89 (0, 0)) → w.cell? ⟨gw, o.f0.toNat, none⟩ = some (.func (.func fn) #[.pointer (some ⟨g, 0, none⟩)] #[]) := by
 have hk := ho.kind
 have hc : o.f0 = 1 ∨ o.f0 = 2 ∨ o.f0 = 3 ∨ o.f0 = 4 ∨ o.f0 = 5 ∨ o.f0 = 6 ∨ o.f0 = 7 := by omega
 rcases hc with hc | hc | hc | hc | hc | hc | hc
 ·
  exact ⟨51, way1 h hc hl, xfE Tryz.func51 (by kernel_rfl) rfl, fun w gw hw => by rw [hc]; exact (xaA hw 1).trans rfl⟩
 ·
  exact ⟨52, way2 h hc, xfE Tryz.func52 (by kernel_rfl) rfl, fun w gw hw => by rw [hc]; exact (xaA hw 2).trans rfl⟩
 ·
  exact ⟨53, way3 h hc (hfx hc).1 (hfx hc).2, xfE Tryz.func53 (by kernel_rfl) rfl, fun w gw hw => by rw [hc]; exact (xaA hw 3).trans rfl⟩
 ·
  exact ⟨54, way4 h hc (hne (by omega)) hl, xfE Tryz.func54 (by kernel_rfl) rfl, fun w gw hw => by rw [hc]; exact (xaA hw 4).trans rfl⟩
 ·
  exact ⟨55, way5 h hc (ho.x (Or.inr hc)) (hne (by omega)) hl, xfE Tryz.func55 (by kernel_rfl) rfl, fun w gw hw => by rw [hc]; exact (xaA hw 5).trans rfl⟩
 ·
  exact ⟨56, way6 h hc (hne (by omega)) hl, xfE Tryz.func56 (by kernel_rfl) rfl, fun w gw hw => by rw [hc]; exact (xaA hw 6).trans rfl⟩
 ·
  exact ⟨57, way7 h hc (ho.rep hc) (hne (by omega)) hl, xfE Tryz.func57 (by kernel_rfl) rfl, fun w gw hw => by rw [hc]; exact (xaA hw 7).trans rfl⟩
theorem put9 {w : World} {b : Nat} {t : TypeId} {z0 z1 z2 z3 z4 z5 z6 z7 z8 : Value} (x0 x1 x2 x3 x4 x5 x6 x7 x8 : Value) (h : w.heap[b]? = some (.cells #[z0, z1, z2, z3, z4, z5, z6, z7, z8] t (0, 0))) : (((((((((w.setCell ⟨b, 0, none⟩ x0).setCell ⟨b, 1, none⟩ x1).setCell ⟨b, 2, none⟩ x2).setCell ⟨b, 3, none⟩ x3).setCell ⟨b, 4, none⟩ x4).setCell ⟨b, 5, none⟩ x5).setCell ⟨b, 6, none⟩ x6).setCell ⟨b, 7, none⟩ x7).setCell ⟨b, 8, none⟩ x8).heap[b]? = some (.cells #[x0, x1, x2, x3, x4, x5, x6, x7, x8] t (0, 0)) := by
 have q0 : (w.setCell ⟨b, 0, none⟩ x0).heap[b]? = some (.cells #[x0, z1, z2, z3, z4, z5, z6, z7, z8] t (0, 0)) := xaS h 0 x0 rfl
 have q1 : ((w.setCell ⟨b, 0, none⟩ x0).setCell ⟨b, 1, none⟩ x1).heap[b]? = some (.cells #[x0, x1, z2, z3, z4, z5, z6, z7, z8] t (0, 0)) := xaS q0 1 x1 rfl
 have q2 : (((w.setCell ⟨b, 0, none⟩ x0).setCell ⟨b, 1, none⟩ x1).setCell ⟨b, 2, none⟩ x2).heap[b]? = some (.cells #[x0, x1, x2, z3, z4, z5, z6, z7, z8] t (0, 0)) := xaS q1 2 x2 rfl
 have q3 : ((((w.setCell ⟨b, 0, none⟩ x0).setCell ⟨b, 1, none⟩ x1).setCell ⟨b, 2, none⟩ x2).setCell ⟨b, 3, none⟩ x3).heap[b]? = some (.cells #[x0, x1, x2, x3, z4, z5, z6, z7, z8] t (0, 0)) := xaS q2 3 x3 rfl
 have q4 : (((((w.setCell ⟨b, 0, none⟩ x0).setCell ⟨b, 1, none⟩ x1).setCell ⟨b, 2, none⟩ x2).setCell ⟨b, 3, none⟩ x3).setCell ⟨b, 4, none⟩ x4).heap[b]? = some (.cells #[x0, x1, x2, x3, x4, z5, z6, z7, z8] t (0, 0)) := xaS q3 4 x4 rfl
 have q5 : ((((((w.setCell ⟨b, 0, none⟩ x0).setCell ⟨b, 1, none⟩ x1).setCell ⟨b, 2, none⟩ x2).setCell ⟨b, 3, none⟩ x3).setCell ⟨b, 4, none⟩ x4).setCell ⟨b, 5, none⟩ x5).heap[b]? = some (.cells #[x0, x1, x2, x3, x4, x5, z6, z7, z8] t (0, 0)) := xaS q4 5 x5 rfl
 have q6 : (((((((w.setCell ⟨b, 0, none⟩ x0).setCell ⟨b, 1, none⟩ x1).setCell ⟨b, 2, none⟩ x2).setCell ⟨b, 3, none⟩ x3).setCell ⟨b, 4, none⟩ x4).setCell ⟨b, 5, none⟩ x5).setCell ⟨b, 6, none⟩ x6).heap[b]? = some (.cells #[x0, x1, x2, x3, x4, x5, x6, z7, z8] t (0, 0)) := xaS q5 6 x6 rfl
 have q7 : ((((((((w.setCell ⟨b, 0, none⟩ x0).setCell ⟨b, 1, none⟩ x1).setCell ⟨b, 2, none⟩ x2).setCell ⟨b, 3, none⟩ x3).setCell ⟨b, 4, none⟩ x4).setCell ⟨b, 5, none⟩ x5).setCell ⟨b, 6, none⟩ x6).setCell ⟨b, 7, none⟩ x7).heap[b]? = some (.cells #[x0, x1, x2, x3, x4, x5, x6, x7, z8] t (0, 0)) := xaS q6 7 x7 rfl
 have q8 : (((((((((w.setCell ⟨b, 0, none⟩ x0).setCell ⟨b, 1, none⟩ x1).setCell ⟨b, 2, none⟩ x2).setCell ⟨b, 3, none⟩ x3).setCell ⟨b, 4, none⟩ x4).setCell ⟨b, 5, none⟩ x5).setCell ⟨b, 6, none⟩ x6).setCell ⟨b, 7, none⟩ x7).setCell ⟨b, 8, none⟩ x8).heap[b]? = some (.cells #[x0, x1, x2, x3, x4, x5, x6, x7, x8] t (0, 0)) := xaS q7 8 x8 rfl
 exact q8
theorem put9_below {w0 w : World} {b : Nat} (x0 x1 x2 x3 x4 x5 x6 x7 x8 : Value) (hb : w0.heap.size ≤ b) (h : Below w0.heap.size w0 w) : Below w0.heap.size w0 (((((((((w.setCell ⟨b, 0, none⟩ x0).setCell ⟨b, 1, none⟩ x1).setCell ⟨b, 2, none⟩ x2).setCell ⟨b, 3, none⟩ x3).setCell ⟨b, 4, none⟩ x4).setCell ⟨b, 5, none⟩ x5).setCell ⟨b, 6, none⟩ x6).setCell ⟨b, 7, none⟩ x7).setCell ⟨b, 8, none⟩ x8) :=
  xbA (xbA (xbA (xbA (xbA (xbA (xbA (xbA (xbA h hb) hb) hb) hb) hb) hb) hb) hb) hb
theorem after_one (fxs : S37 → List S48 × Int) (s : St) : ({ after s (act (fxs (opAt s)) (opAt s) s.flows s.marks) with fault := (act (fxs (opAt s)) (opAt s) s.flows s.marks).2.2, loc := s.loc + 1 } : St) = one fxs s := by
 unfold after one doOp
 by_cases he : (act (fxs (opAt s)) (opAt s) s.flows s.marks).2.2 = 0
 ·
  simp only [if_pos he]
 ·
  simp only [if_neg he]
theorem after_loc (s : St) (r : List S48 × List Int × Int) : (after s r).loc = s.loc := by unfold after; split <;> rfl
theorem after_code (s : St) (r : List S48 × List Int × Int) : (after s r).code = s.code := by unfold after; split <;> rfl
theorem after_ended (s : St) (r : List S48 × List Int × Int) : (after s r).ended = s.ended := by unfold after; split <;> rfl
theorem run_step {fxs : S37 → List S48 × Int} {s s' : St} {n : Int} {d : Nat} (hg : goes s' = true) (hd : (d : Int) < n) (h : runN fxs n.toNat s = (d + (runN fxs (n.toNat - d) s').1, (runN fxs (n.toNat - d) s').2)) :
  runN fxs n.toNat s = (d + 1 + (runN fxs (n.toNat - (d + 1)) (one fxs s')).1, (runN fxs (n.toNat - (d + 1)) (one fxs s')).2) := by
 obtain ⟨k, hk⟩ : ∃ k, n.toNat - d = k + 1 := ⟨n.toNat - d - 1, by omega⟩
 rw [h, hk, show n.toNat - (d + 1) = k by omega, runN, if_pos hg]
 simp only [Prod.mk.injEq, and_true]
 omega
section
variable {P : Program} {md : Region.Mode} {ops : Array Oper} {Q : Exit → Act → World → Prop} {S : World → Prop} {ds : List Nat}
theorem rF (i : Nat) {N : Option Tmp} {oi : Oper} {fuel : Nat} {l l' : Array Bool} {a a' : Act} {w : World}
  (h : xaX P md ops Q S ds fuel l' a' w) (hi : ops[i]? = some oi := by rfl) (hN : oi.dst = N := by first | exact (rfl : _ = some _) | exact (rfl : _ = none))
  (hl : l.setIfInBounds i true = l' := by simp only [List.setIfInBounds_toArray, List.set_cons_zero, List.set_cons_succ]; rfl) (hc : anyB md ops l l' i = true := by kernel_rfl)
  (hQ : ∀ c a w, Q (.panic c) (a.put oi.dst undef) w → Q (.panic c) a w := by exact fun _ _ _ h => h)
  (hw : Region.wanted oi (yielded ops a.tmps) = false := by rfl)
  (ha : a.put N undef = a' := by simp only [Act.put, List.setIfInBounds_toArray, List.set_cons_zero, List.set_cons_succ, i64_w, i32_w]; rfl) : xaX P md ops Q S ds (fuel + 1) l a w := pure_ l' hi hN hc hQ (Or.inr ⟨hw, rfl⟩) ha h
end
def StepI (fxs : S37 → List S48 × Int) (w2 w' : World) (base g : Nat) (F : Nat → Prop) (Ac : Option Addr) (cc : Nat) (s s' : St) (n : Int) (d : Nat) : Prop :=
  Fr F w2 w' ∧ (∃ A1 c1 A2 c2, Mx w' base g (Gr F w2.heap.size w'.heap.size) Ac cc A1 c1 A2 c2 s') ∧ Inv s' ∧ s'.code = s.code ∧ s'.ended = s.ended ∧ d ≤ n.toNat ∧ s'.loc = s.loc + d ∧ runN fxs n.toNat s = (d + (runN fxs (n.toNat - d) s').1, (runN fxs (n.toNat - d) s').2)
section
variable {w : World} {base g : Nat} {F : Nat → Prop} {Ac : Option Addr} {cc : Nat} {Af : Option Addr} {cf : Nat} {Am : Option Addr} {cm : Nat} {s : St} {fxs : S37 → List S48 × Int}
theorem step_run (h : Mx w base g F Ac cc Af cf Am cm s) (hg : Good fxs s.code) (hi : Inv s) (n : Int) (hn : 1 ≤ n) (hn1 : n ≤ 9223372036854775807) (he : s.ended = false) :
  Calls Tryz.prog 16 #[.pointer (some ⟨g, 0, none⟩), .int .i64 n] w fun e w' => e = .returned (.tuple #[.agg #[.int .i64 ((runN fxs n.toNat s).1 : Int), .bool (ends (runN fxs n.toNat s).2).ended, .int .i64 (runN fxs n.toNat s).2.fault], .int .i64 0]) ∧ Fr F w w' ∧ ∃ A1 c1 A2 c2, Mx w' base g (Gr F w.heap.size w'.heap.size) Ac cc A1 c1 A2 c2 (ends (runN fxs n.toNat s).2) := by
 have HX := Aside0.mk h;have HGD := Aside0.mk hg;have HI := Aside0.mk hi
 have HX1 := Aside0.mk (HX.out.alloc (.cells #[.int .i64 0, .bool false, .int .i64 0] 43))
 have HF1 := Aside0.mk ((Fr.refl F w).alloc (.cells #[.int .i64 0, .bool false, .int .i64 0] 43))
 have B4 := Aside0.mk (xbB w (.cells #[.int .i64 0, .bool false, .int .i64 0] 43))
 obtain ⟨c0, c1, c2, c3, c4, c5, z0, z1, z2, z3, z4, z5⟩ := blk6 HX1.out.k
 rw [he] at c4
 have t0 : decide (n < 1) = false := decide_eq_false (by omega)
 clear h hg hi
 go_enter Tryz.func16, Tryz.ntmps16
 go_wp2_with (go_at_call 33; go_loud ((with_reducible refine (ways_ok g _).mono ?_); rintro e w' ⟨rfl, hw_⟩; obtain rfl := hw_))
 clear c0 c1 c2 c3 c4 c5 z0 z1 z2 z3 z4 z5
 have HX2 := Aside0.mk (HX1.out.alloc (.cells #[.nilFunc, wayV g 51, wayV g 52, wayV g 53, wayV g 54, wayV g 55, wayV g 56, wayV g 57] 89))
 have HF2 := Aside0.mk (HF1.out.alloc (.cells #[.nilFunc, wayV g 51, wayV g 52, wayV g 53, wayV g 54, wayV g 55, wayV g 56, wayV g 57] 89))
 have B42 := Aside0.mk (xaE B4.out (.cells #[.nilFunc, wayV g 51, wayV g 52, wayV g 53, wayV g 54, wayV g 55, wayV g 56, wayV g 57] 89))
 have BW := Aside0.mk (xbB (w.alloc (.cells #[.int .i64 0, .bool false, .int .i64 0] 43)) (.cells #[.nilFunc, wayV g 51, wayV g 52, wayV g 53, wayV g 54, wayV g 55, wayV g 56, wayV g 57] 89))
 obtain ⟨b4, hb4⟩ : ∃ b, b = w.heap.size := ⟨_, rfl⟩
 obtain ⟨gw, hgw⟩ : ∃ b, b = (w.alloc (.cells #[.int .i64 0, .bool false, .int .i64 0] 43)).heap.size := ⟨_, rfl⟩
 have HNF : Aside0 (¬ F b4 ∧ ¬ F gw ∧ b4 ≠ gw) := ⟨fun h => by have := (HX.out.hF _ h).2; omega, fun h => by have := (HX.out.hF _ h).2; simp at hgw; omega, by simp at hgw; omega⟩
 simp only [World.size_alloc] at hgw BW ⊢
 rw [← hb4] at hgw B42 ⊢ BW
 rw [← hgw] at BW ⊢
 have HB4 := Aside0.mk hb4;clear hb4 hgw B4 HX1 HF1
 generalize hw2 : (w.alloc (.cells #[.int .i64 0, .bool false, .int .i64 0] 43)).alloc (.cells #[.nilFunc, wayV g 51, wayV g 52, wayV g 53, wayV g 54, wayV g 55, wayV g 56, wayV g 57] 89) = w2 at *
 clear hw2
 have HLE : Aside0 (s.loc.toNat ≤ s.code.length ∧ s.code.length ≤ 8192 ∧ 0 ≤ s.loc) := ⟨by have := HI.out.loc; have := HGD.out.len; omega⟩
 have HJ : Aside0 (StepI fxs w2 w2 base g F Ac cc s s n 0) := ⟨Fr.refl _ _, ⟨Af, cf, Am, cm, HX2.out.mono (fun k hk => Or.inl hk) (gr_bd HX2.out.hF HX2.out.xbY (Nat.le_refl _)) (HX2.out.hc_gr _)⟩, HI.out, rfl, rfl, Nat.zero_le _, by simp, by simp⟩
 go_loopg [7] (s.code.length - s.loc.toNat) (fun kq v7 w' => ∃ (d : Nat) (s' : St), v7 = .int .i64 (d : Int) ∧ kq + s'.loc.toNat = s.code.length ∧ Aside0 (StepI fxs w2 w' base g F Ac cc s s' n d))
 case atStart => exact ⟨0, s, rfl, by have := HLE.out; omega, HJ⟩
 case round =>
  obtain ⟨d, s', rfl, hk, HJ⟩ := hrel
  obtain ⟨HFr, ⟨A1, n1, A2, n2, hxm⟩, hinv, hcode, hend, hd, hloc, hrun⟩ := HJ.out
  have HXM := Aside0.mk hxm
  obtain ⟨c0, c1, c2, c3, c4, c5, z0, z1, z2, z3, z4, z5⟩ := blk6 hxm.k
  clear c2 c3 c4 z0 z1 z2 z3 z4 z5;have HINV := Aside0.mk hinv;have HCODE := Aside0.mk hcode;have HD := Aside0.mk hd;have HLOC := Aside0.mk hloc;have HRUN := Aside0.mk hrun;have HE := Aside0.mk hend;have HFR := Aside0.mk HFr
  have hl0 : (0 : Int) ≤ s'.loc := hinv.loc.1
  clear hinv hcode hend hloc hrun hxm HFr
  by_cases hgo : (d : Int) < n ∧ goes s' = true
  ·
   obtain ⟨g1, g2⟩ := hgo
   have HG2 := Aside0.mk g2
   obtain ⟨g3, g4⟩ := xfC.1 g2
   have t1 : decide ((d : Int) < n) = true := decide_eq_true g1
   have t2 : decide (s'.loc < (s'.code.length : Int)) = true := decide_eq_true g3
   rw [g4] at c5
   clear g2 g4
   go_wp2_with fail
   go_quiet (fail)
   go_wp2_with fail
   obtain ⟨ad, had, p0, p1, p2, p3, p4, p5, p6, p7, p8⟩ := at_T37 HXM.out.c.C s'.loc hl0 g3
   subst had
   have HO : Aside0 (opAt s' = rd_T37 s'.code s'.loc) := ⟨rfl⟩
   generalize rd_T37 s'.code s'.loc = o at HO p0 p1 p2 p3 p4 p5 p6 p7 p8
   obtain ⟨o0, o1, o2, o3, o4, o5, o6, o7, o8⟩ := o
   simp only at p0 p1 p2 p3 p4 p5 p6 p7 p8
   have hgl : g < wr.heap.size := blk_lt HXM.out.k
   have hadl : (ad.add (s'.loc.toNat * 9)).block < wr.heap.size := HXM.out.own_lt _ ⟨ad, rfl, by unfold Addr.add; split <;> rfl⟩
   have hS : ∀ w' : World, Below wr.heap.size wr w' → w'.cell? ⟨g, 0, none⟩ = some (.slice (some ad) s'.code.length cc) ∧ w'.cell? ⟨g, 1, none⟩ = some (.int .i64 s'.loc) ∧ w'.cell? (ad.add (s'.loc.toNat * 9)) = some (.int .i64 o0) ∧ w'.cell? ⟨(ad.add (s'.loc.toNat * 9)).block, (ad.add (s'.loc.toNat * 9)).off + 1, none⟩ = some (.float .f64 o1) ∧ w'.cell? ⟨(ad.add (s'.loc.toNat * 9)).block, (ad.add (s'.loc.toNat * 9)).off + 2, none⟩ = some (.float .f64 o2) ∧ w'.cell? ⟨(ad.add (s'.loc.toNat * 9)).block, (ad.add (s'.loc.toNat * 9)).off + 3, none⟩ = some (.int .i64 o3) ∧ w'.cell? ⟨(ad.add (s'.loc.toNat * 9)).block, (ad.add (s'.loc.toNat * 9)).off + 4, none⟩ = some (.int .i64 o4) ∧ w'.cell? ⟨(ad.add (s'.loc.toNat * 9)).block, (ad.add (s'.loc.toNat * 9)).off + 5, none⟩ = some (.int .i64 o5) ∧ w'.cell? ⟨(ad.add (s'.loc.toNat * 9)).block, (ad.add (s'.loc.toNat * 9)).off + 6, none⟩ = some (.int .i64 o6) ∧ w'.cell? ⟨(ad.add (s'.loc.toNat * 9)).block, (ad.add (s'.loc.toNat * 9)).off + 7, none⟩ = some (.int .i64 o7) ∧ w'.cell? ⟨(ad.add (s'.loc.toNat * 9)).block, (ad.add (s'.loc.toNat * 9)).off + 8, none⟩ = some (.int .i64 o8) := fun w' hb => ⟨(hb.cell (p := ⟨g, 0, none⟩) hgl).trans c0, (hb.cell (p := ⟨g, 1, none⟩) hgl).trans c1, (hb.cell (p := ad.add (s'.loc.toNat * 9)) hadl).trans p0, (hb.cell (p := ⟨(ad.add (s'.loc.toNat * 9)).block, (ad.add (s'.loc.toNat * 9)).off + 1, none⟩) hadl).trans p1, (hb.cell (p := ⟨(ad.add (s'.loc.toNat * 9)).block, (ad.add (s'.loc.toNat * 9)).off + 2, none⟩) hadl).trans p2, (hb.cell (p := ⟨(ad.add (s'.loc.toNat * 9)).block, (ad.add (s'.loc.toNat * 9)).off + 3, none⟩) hadl).trans p3, (hb.cell (p := ⟨(ad.add (s'.loc.toNat * 9)).block, (ad.add (s'.loc.toNat * 9)).off + 4, none⟩) hadl).trans p4, (hb.cell (p := ⟨(ad.add (s'.loc.toNat * 9)).block, (ad.add (s'.loc.toNat * 9)).off + 5, none⟩) hadl).trans p5, (hb.cell (p := ⟨(ad.add (s'.loc.toNat * 9)).block, (ad.add (s'.loc.toNat * 9)).off + 6, none⟩) hadl).trans p6, (hb.cell (p := ⟨(ad.add (s'.loc.toNat * 9)).block, (ad.add (s'.loc.toNat * 9)).off + 7, none⟩) hadl).trans p7, (hb.cell (p := ⟨(ad.add (s'.loc.toNat * 9)).block, (ad.add (s'.loc.toNat * 9)).off + 8, none⟩) hadl).trans p8⟩
   refine xdP ?_
   refine start_ (n := 12) (S := fun w' => w'.cell? ⟨g, 0, none⟩ = some (.slice (some ad) s'.code.length cc) ∧ w'.cell? ⟨g, 1, none⟩ = some (.int .i64 s'.loc) ∧ w'.cell? (ad.add (s'.loc.toNat * 9)) = some (.int .i64 o0) ∧ w'.cell? ⟨(ad.add (s'.loc.toNat * 9)).block, (ad.add (s'.loc.toNat * 9)).off + 1, none⟩ = some (.float .f64 o1) ∧ w'.cell? ⟨(ad.add (s'.loc.toNat * 9)).block, (ad.add (s'.loc.toNat * 9)).off + 2, none⟩ = some (.float .f64 o2) ∧ w'.cell? ⟨(ad.add (s'.loc.toNat * 9)).block, (ad.add (s'.loc.toNat * 9)).off + 3, none⟩ = some (.int .i64 o3) ∧ w'.cell? ⟨(ad.add (s'.loc.toNat * 9)).block, (ad.add (s'.loc.toNat * 9)).off + 4, none⟩ = some (.int .i64 o4) ∧ w'.cell? ⟨(ad.add (s'.loc.toNat * 9)).block, (ad.add (s'.loc.toNat * 9)).off + 5, none⟩ = some (.int .i64 o5) ∧ w'.cell? ⟨(ad.add (s'.loc.toNat * 9)).block, (ad.add (s'.loc.toNat * 9)).off + 6, none⟩ = some (.int .i64 o6) ∧ w'.cell? ⟨(ad.add (s'.loc.toNat * 9)).block, (ad.add (s'.loc.toNat * 9)).off + 7, none⟩ = some (.int .i64 o7) ∧ w'.cell? ⟨(ad.add (s'.loc.toNat * 9)).block, (ad.add (s'.loc.toNat * 9)).off + 8, none⟩ = some (.int .i64 o8)) (ds := [11]) #[false, false, false, false, false, false, false, false, false, false, false, false] (by kernel_rfl) rfl rfl ⟨c0, c1, p0, p1, p2, p3, p4, p5, p6, p7, p8⟩ (fun hHeld => ?_)
   have hbd : Below wr.heap.size wr (wr.drewN nq).drew := xaM (xaJ (Below.refl _ _) _)
   generalize (wr.drewN nq).drew = wd at *
   refine rP 0 ?_
   refine rP 1 ?_
   refine rP 2 ?_
   refine rT 3 ?_
   refine rP 4 ?_
   refine rP 5 ?_
   refine rP 6 ?_
   refine rT 7 ?_
   refine rP 8 ?_
   refine rT 9 ?_
   refine rO 10 (fun K hK => ?_)
   refine value_ (w1 := ?_) (v := ?_) (by rfl) rfl ?_ ?_
   rotate_left 2
   ·
    go_simp
    constructor
    ·
     rfl
    ·
     rfl
   have hb1 : Below wr.heap.size wr (wd.alloc (.cells #[.int .i64 0, .float .f64 0, .float .f64 0, .int .i64 0, .int .i64 0, .int .i64 0, .int .i64 0, .int .i64 0, .int .i64 0] 37)) := xaC hbd _
   refine hK.out _ _ (hS _ hb1) (fun hHeld => ?_)
   clear hK K hHeld
   refine rN ?_
   obtain ⟨b8, hb8⟩ : ∃ b, b = wd.heap.size := ⟨_, rfl⟩
   have BZ : Aside0 ((wd.alloc (.cells #[.int .i64 0, .float .f64 0, .float .f64 0, .int .i64 0, .int .i64 0, .int .i64 0, .int .i64 0, .int .i64 0, .int .i64 0] 37)).heap[wd.heap.size]? = some (.cells #[.int .i64 0, .float .f64 0, .float .f64 0, .int .i64 0, .int .i64 0, .int .i64 0, .int .i64 0, .int .i64 0, .int .i64 0] 37)) := ⟨xbB _ _⟩
   rw [← hb8] at BZ ⊢
   have HB8 : Aside0 (wr.heap.size ≤ b8) := ⟨by rw [hb8]; exact hbd.size⟩
   clear hb8
   generalize wd.alloc (.cells #[.int .i64 0, .float .f64 0, .float .f64 0, .int .i64 0, .int .i64 0, .int .i64 0, .int .i64 0, .int .i64 0, .int .i64 0] 37) = w8 at *
   obtain ⟨x0, x1, x2, x3, x4, x5, x6, x7, x8, y0, y1, y2, y3, y4, y5, y6, y7, y8⟩ := blk9 BZ
   refine rL 11 (fun K hK => ?_)
   refine skip_ (w1 := ?_) (by rfl) rfl ?_ ?_
   rotate_left
   ·
    go_simp
    rfl
   refine hK.out _ _ ?_
   clear hK K
   refine rD ?_
   have BO : Aside0 ((((((((((w8.setCell ⟨b8, 0, none⟩ (.int .i64 o0)).setCell ⟨b8, 1, none⟩ (.float .f64 o1)).setCell ⟨b8, 2, none⟩ (.float .f64 o2)).setCell ⟨b8, 3, none⟩ (.int .i64 o3)).setCell ⟨b8, 4, none⟩ (.int .i64 o4)).setCell ⟨b8, 5, none⟩ (.int .i64 o5)).setCell ⟨b8, 6, none⟩ (.int .i64 o6)).setCell ⟨b8, 7, none⟩ (.int .i64 o7)).setCell ⟨b8, 8, none⟩ (.int .i64 o8)).heap[b8]? = some (.cells #[.int .i64 o0, .float .f64 o1, .float .f64 o2, .int .i64 o3, .int .i64 o4, .int .i64 o5, .int .i64 o6, .int .i64 o7, .int .i64 o8] 37 (0, 0))) := ⟨put9 _ _ _ _ _ _ _ _ _ BZ.out⟩
   have HB9 : Aside0 (Below wr.heap.size wr (((((((((w8.setCell ⟨b8, 0, none⟩ (.int .i64 o0)).setCell ⟨b8, 1, none⟩ (.float .f64 o1)).setCell ⟨b8, 2, none⟩ (.float .f64 o2)).setCell ⟨b8, 3, none⟩ (.int .i64 o3)).setCell ⟨b8, 4, none⟩ (.int .i64 o4)).setCell ⟨b8, 5, none⟩ (.int .i64 o5)).setCell ⟨b8, 6, none⟩ (.int .i64 o6)).setCell ⟨b8, 7, none⟩ (.int .i64 o7)).setCell ⟨b8, 8, none⟩ (.int .i64 o8))) := ⟨put9_below _ _ _ _ _ _ _ _ _ HB8.out hb1⟩
   clear x0 x1 x2 x3 x4 x5 x6 x7 x8 y0 y1 y2 y3 y4 y5 y6 y7 y8 BZ hb1 hbd hS p0 p1 p2 p3 p4 p5 p6 p7 p8 c0 c1 c5
   generalize (((((((((w8.setCell ⟨b8, 0, none⟩ (.int .i64 o0)).setCell ⟨b8, 1, none⟩ (.float .f64 o1)).setCell ⟨b8, 2, none⟩ (.float .f64 o2)).setCell ⟨b8, 3, none⟩ (.int .i64 o3)).setCell ⟨b8, 4, none⟩ (.int .i64 o4)).setCell ⟨b8, 5, none⟩ (.int .i64 o5)).setCell ⟨b8, 6, none⟩ (.int .i64 o6)).setCell ⟨b8, 7, none⟩ (.int .i64 o7)).setCell ⟨b8, 8, none⟩ (.int .i64 o8)) = w9 at *
   obtain ⟨hok, hne, hmem⟩ := op_known (HCODE.out ▸ HGD.out) HINV.out HG2.out
   rw [HO.out] at hok hne hmem
   obtain ⟨fn, hway, hent, hcell⟩ := way_all (base := base) (g := g) (Ac := some ad) (cc := cc) (s := s') HINV.out.ok hok (fun h3 => HGD.out.fix _ (HCODE.out ▸ hmem) h3) hne (by have := HINV.out.ml; omega)
   have hk0 := hok.kind
   simp only at hk0 hcell
   have hk1 : 0 ≤ o0 := by omega
   have hk2 : o0 < 8 := by omega
   have HW := Aside0.mk hway;have HEN := Aside0.mk hent;have HCELL := Aside0.mk hcell;have HOK := Aside0.mk hok;have HNE := Aside0.mk hne;clear hok hne hmem hway hent hcell
   have HX9 := Aside0.mk (HXM.out.below HB9.out)
   have hS : ∀ w' : World, Below w9.heap.size w9 w' ∨ Fr (Gr F w2.heap.size wr.heap.size) w9 w' → w'.cell? ⟨b8, 0, none⟩ = some (.int .i64 o0) ∧ w'.cell? ⟨b8, 1, none⟩ = some (.float .f64 o1) ∧ w'.cell? ⟨b8, 2, none⟩ = some (.float .f64 o2) ∧ w'.cell? ⟨b8, 3, none⟩ = some (.int .i64 o3) ∧ w'.cell? ⟨b8, 4, none⟩ = some (.int .i64 o4) ∧ w'.cell? ⟨b8, 5, none⟩ = some (.int .i64 o5) ∧ w'.cell? ⟨b8, 6, none⟩ = some (.int .i64 o6) ∧ w'.cell? ⟨b8, 7, none⟩ = some (.int .i64 o7) ∧ w'.cell? ⟨b8, 8, none⟩ = some (.int .i64 o8) ∧ w'.cell? ⟨gw, o0.toNat, none⟩ = some (.func (.func fn) #[.pointer (some ⟨g, 0, none⟩)] #[]) := fun w' hb => by
    have hbo : w'.heap[b8]? = some (.cells #[.int .i64 o0, .float .f64 o1, .float .f64 o2, .int .i64 o3, .int .i64 o4, .int .i64 o5, .int .i64 o6, .int .i64 o7, .int .i64 o8] 37 (0, 0)) := by
     rcases hb with hb | hb
     ·
      exact xaK BO.out hb
     ·
      exact hb.blk BO.out (fun hG => by
       rcases hG with hG | hG
       ·
        have := (HX.out.hF _ hG).2; have := HFR.out.size; have := HF2.out.size; have := HB8.out; omega
       ·
        have := HB8.out; omega)
    have hbw : w'.heap[gw]? = some (.cells #[.nilFunc, wayV g 51, wayV g 52, wayV g 53, wayV g 54, wayV g 55, wayV g 56, wayV g 57] 89 (0, 0)) := by
     have h1 := xaK (HFR.out.blk BW.out HNF.out.2.1) HB9.out
     rcases hb with hb | hb
     ·
      exact xaK h1 hb
     ·
      exact hb.blk h1 (fun hG => by
       rcases hG with hG | hG
       ·
        exact HNF.out.2.1 hG
       ·
        have := blk_lt BW.out; omega)
    exact ⟨(xaA hbo 0).trans rfl, (xaA hbo 1).trans rfl, (xaA hbo 2).trans rfl, (xaA hbo 3).trans rfl, (xaA hbo 4).trans rfl, (xaA hbo 5).trans rfl, (xaA hbo 6).trans rfl, (xaA hbo 7).trans rfl, (xaA hbo 8).trans rfl, HCELL.out _ _ hbw⟩
   go_wp2_with fail
   refine start_ (n := 12) (S := fun w' => w'.cell? ⟨b8, 0, none⟩ = some (.int .i64 o0) ∧ w'.cell? ⟨b8, 1, none⟩ = some (.float .f64 o1) ∧ w'.cell? ⟨b8, 2, none⟩ = some (.float .f64 o2) ∧ w'.cell? ⟨b8, 3, none⟩ = some (.int .i64 o3) ∧ w'.cell? ⟨b8, 4, none⟩ = some (.int .i64 o4) ∧ w'.cell? ⟨b8, 5, none⟩ = some (.int .i64 o5) ∧ w'.cell? ⟨b8, 6, none⟩ = some (.int .i64 o6) ∧ w'.cell? ⟨b8, 7, none⟩ = some (.int .i64 o7) ∧ w'.cell? ⟨b8, 8, none⟩ = some (.int .i64 o8) ∧ w'.cell? ⟨gw, o0.toNat, none⟩ = some (.func (.func fn) #[.pointer (some ⟨g, 0, none⟩)] #[])) (ds := [11]) #[false, false, false, false, false, false, false, false, false, false, false, false] (by kernel_rfl) rfl rfl (hS _ (Or.inl (xaM (Below.refl _ _)))) (fun hHeld => ?_)
   refine rP 0 ?_
   refine rP 1 ?_
   refine rT 2 ?_
   refine rP 3 ?_
   refine rP 4 ?_
   refine rT 5 ?_
   refine rP 6 ?_
   refine rT 7 ?_
   refine rO 8 (fun K hK => ?_)
   refine goes_ Tryz.func34 (by kernel_rfl) rfl #[.pointer (some ⟨g, 0, none⟩), .agg #[.int .i64 o0, .float .f64 o1, .float .f64 o2, .int .i64 o3, .int .i64 o4, .int .i64 o5, .int .i64 o6, .int .i64 o7, .int .i64 o8], .func (.func fn) #[.pointer (some ⟨g, 0, none⟩)] #[]] (by rfl) rfl rfl (by (try simp only [List.map_toArray, List.map_cons, List.map_nil]); first | done | rfl) ?_
   have HX10 := Aside0.mk (HX9.out.drew)
   with_reducible refine (do_ways HX10.out (by have := HINV.out.ml; omega) fn _ _ _ _ _ _ _ _ _ _ HEN.out HW.out).mono ?_
   rintro e w11 ⟨rfl, hf, hm⟩
   refine ⟨_, rfl, ?_⟩
   have HF11 := Aside0.mk (show Fr (Gr F w2.heap.size wr.heap.size) w9 w11 from (Fr.refl _ w9).drew.step hf)
   obtain ⟨A3, n3, A4, n4, hm⟩ := hm
   have HM := Aside0.mk hm;have HFD := Aside0.mk hf;clear hm hf
   refine hK.out _ _ (hS _ (Or.inr HF11.out)) (fun hHeld => ?_)
   clear hK K hHeld
   refine rN ?_
   refine rP 9 ?_
   refine rP 10 ?_
   obtain ⟨d0, d1, d2, d3, d4, d5, z0, z1, z2, z3, z4, z5⟩ := blk6 HM.out.k
   refine rL 11 (fun K hK => ?_)
   refine skip_ (w1 := ?_) (by rfl) rfl ?_ ?_
   rotate_left
   ·
    go_simp
    rfl
   refine hK.out _ _ ?_
   clear hK K
   refine rD ?_
   clear d0 d1 d2 d3 d4 d5 z0 z1 z2 z3 z4 z5 hS
   have hro : act (fxs ⟨o0, o1, o2, o3, o4, o5, o6, o7, o8⟩) ⟨o0, o1, o2, o3, o4, o5, o6, o7, o8⟩ s'.flows s'.marks = act (fxs (opAt s')) (opAt s') s'.flows s'.marks := by rw [HO.out]
   rw [hro] at HM ⊢
   have HA1 := Aside0.mk (after_one fxs s')
   generalize act (fxs (opAt s')) (opAt s') s'.flows s'.marks = r at HM HA1 ⊢
   have HAL := Aside0.mk (after_loc s' r)
   have HAC := Aside0.mk (after_code s' r)
   have HAE := Aside0.mk (after_ended s' r)
   generalize after s' r = sa at *
   have hp1 := Mx.put (s' := { sa with fault := r.2.2 }) 5 (.int .i64 r.2.2) HM.out.k (by simp) HM.out.c HM.out.f HM.out.m HM.out.hg HM.out.hF HM.out.hc
   obtain ⟨d0, d1, d2, d3, d4, d5, z0, z1, z2, z3, z4, z5⟩ := blk6 hp1.k
   have HP1 := Aside0.mk hp1
   simp only at d1
   rw [HAL.out] at d1
   clear hp1 hro d0 d2 d3 d4 d5 z0 z2 z3 z4 z5
   have hmx : s'.loc + 1 ≤ 9223372036854775807 := by have := HLE.out; have := HCODE.out; have e := congrArg List.length this; omega
   have hmd : (d : Int) + 1 ≤ 9223372036854775807 := by have := HLE.out; have := HLOC.out; omega
   go_wp2_with fail
   go_roundg (gk - 1)
   case measure => have h2 := congrArg List.length HCODE.out; omega
   case rel =>
    have h2 := congrArg List.length HCODE.out
    have hp2 := Mx.put (s' := one fxs s') (cc := cc) (Af := A3) (cf := n3) (Am := A4) (cm := n4) 1 (.int .i64 (s'.loc + 1)) HP1.out.k (by rw [← HA1.out]; simp [HAC.out, HAE.out]) (by rw [one_code, ← HAC.out]; exact HP1.out.c) (by rw [← HA1.out]; exact HP1.out.f) (by rw [← HA1.out]; exact HP1.out.m) HP1.out.hg HP1.out.hF HP1.out.hc
    have hs9 := HB9.out.size;have hs11 := HFD.out.size;have hsr := HFR.out.size
    have e7 : ((w11.setCell ⟨g, 5, none⟩ (.int .i64 r.2.2)).setCell ⟨g, 1, none⟩ (.int .i64 (s'.loc + 1))).heap.size = w11.heap.size := by simp
    rw [← e7] at hp2
    refine ⟨d + 1, one fxs s', by go_num, ?_, ⟨?_, ⟨A3, n3, A4, n4, hp2.flat hsr (by simpa using hs9) (by rw [e7]; exact hs11) HX2.out.xbY HX2.out.own_lt⟩, one_inv (HCODE.out ▸ HGD.out) HINV.out HG2.out, HCODE.out, HE.out, by omega, ?_, run_step HG2.out g1 HRUN.out⟩⟩
    ·
     show gk - 1 + (s'.loc + 1).toNat = _; omega
    ·
     refine ((Fr.set ?_ _ (Or.inl HX2.out.hg)).set _ (Or.inl HX2.out.hg))
     exact (HFR.out.below HB9.out).trans (HF11.out.mono (fun k _ hk => by
      rcases hk with hk | hk
      ·
       exact Or.inl hk
      ·
       exact Or.inr ⟨hk.1, by omega⟩))
    ·
     show s'.loc + 1 = _; have := HLOC.out; omega
  ·
   have hrun0 : runN fxs n.toNat s = (d, s') := by
    rw [HRUN.out]
    by_cases hdn : (d : Int) < n
    ·
     have hng : ¬ goes s' = true := fun h => hgo ⟨hdn, h⟩
     obtain ⟨k, hk2⟩ : ∃ k, n.toNat - d = k + 1 := ⟨n.toNat - d - 1, by omega⟩
     rw [hk2, runN, if_neg hng]; rfl
    ·
     rw [show n.toNat - d = 0 by have := HD.out; omega]; rfl
   have HR0 := Aside0.mk hrun0;clear hrun0
   have hcases : decide ((d : Int) < n) = false ∨ (decide ((d : Int) < n) = true ∧ decide (s'.loc < (s'.code.length : Int)) = false) ∨ (decide ((d : Int) < n) = true ∧ decide (s'.loc < (s'.code.length : Int)) = true ∧ (s'.fault == 0) = false) := by
    by_cases h1 : (d : Int) < n
    ·
     by_cases h2 : s'.loc < (s'.code.length : Int)
     ·
      refine Or.inr (Or.inr ⟨decide_eq_true h1, decide_eq_true h2, ?_⟩)
      rw [beq_eq_false_iff_ne]; exact fun h3 => hgo ⟨h1, xfC.2 ⟨h2, h3⟩⟩
     ·
      exact Or.inr (Or.inl ⟨decide_eq_true h1, decide_eq_false h2⟩)
    ·
     exact Or.inl (decide_eq_false h1)
   clear hgo
   obtain ⟨be, hbe, hmode⟩ : ∃ be, (ends s').ended = be ∧ (((s'.loc == (s'.code.length : Int)) = true ∧ be = true) ∨ ((s'.loc == (s'.code.length : Int)) = false ∧ (s'.fault != 0) = be)) := by
    refine ⟨_, rfl, ?_⟩
    by_cases h1 : s'.loc = (s'.code.length : Int)
    ·
     refine Or.inl ⟨by rw [beq_iff_eq]; exact h1, ?_⟩
     show (decide (s'.loc = (s'.code.length : Int)) || decide (s'.fault ≠ 0)) = true
     simp [h1]
    ·
     refine Or.inr ⟨by rw [beq_eq_false_iff_ne]; exact h1, ?_⟩
     show (s'.fault != 0) = (decide (s'.loc = (s'.code.length : Int)) || decide (s'.fault ≠ 0))
     simp only [h1, decide_false, Bool.false_or]
     by_cases h2 : s'.fault = 0
     ·
      simp [h2]
     ·
      simp [h2]
   have HBE := Aside0.mk hbe;have HMODE := Aside0.mk hmode;clear hbe hmode
   rcases hcases with q1 | ⟨q1, q2⟩ | ⟨q1, q2, q3⟩
   all_goals
    go_wp2_with fail
    go_quiet (fail)
    go_wp2_with fail
    clear q1
    first | clear q2 | skip
    first | clear q3 | skip
    have hbd : Below wr.heap.size wr (wr.drewN nq) := xaJ (Below.refl _ _) _
    have HXN := Aside0.mk (HXM.out.below (xaM hbd))
    have HBN := Aside0.mk (xaM hbd)
    refine start_ (n := 21) (S := fun w' => w'.cell? ⟨g, 0, none⟩ = some (.slice Ac s'.code.length cc) ∧ w'.cell? ⟨g, 1, none⟩ = some (.int .i64 s'.loc) ∧ w'.cell? ⟨g, 5, none⟩ = some (.int .i64 s'.fault)) (ds := [20]) #[false, false, false, false, false, false, false, false, false, false, false, false, false, false, false, false, false, false, false, false, false] (by kernel_rfl) rfl rfl ⟨c0, c1, c5⟩ (fun hHeld => ?_)
    generalize (wr.drewN nq).drew = wd at *
    rcases HMODE.out with ⟨m1, m2⟩ | ⟨m1, m2⟩
    ·
     subst m2
     refine rP 0 ?_
     refine rP 1 ?_
     refine rP 2 ?_
     refine rP 3 ?_
     refine rT 4 ?_
     refine rP 5 ?_
     refine rP 6 ?_
     refine rP 7 ?_
     refine rT 8 ?_
     refine rP 9 ?_
     refine rP 10 ?_
     refine rP 11 ?_
     refine rF 12 ?_
     refine rF 13 ?_
     refine rF 14 ?_
     refine rF 15 ?_
     refine rF 16 ?_
     refine rP 17 ?_
     refine rP 18 ?_
     refine rP 19 ?_
     obtain ⟨d0, d1, d2, d3, d4, d5, z0, z1, z2, z3, z4, z5⟩ := blk6 HXN.out.k
     refine rL 20 (fun K hK => ?_)
     refine skip_ (w1 := ?_) (by rfl) rfl ?_ ?_
     rotate_left
     ·
      go_simp
      rfl
     refine hK.out _ _ ?_
     clear hK K
     refine rD ?_
     clear d0 d1 d2 d3 d4 d5 z0 z1 z2 z3 z4 z5 hHeld
     go_wp2_with fail
     have HP4 := Aside0.mk (Mx.put (s' := ends s') 4 (.bool true) HXN.out.k (by rw [← HBE.out]; simp [ends]) HXN.out.c HXN.out.f HXN.out.m HXN.out.hg HXN.out.hF HXN.out.hc)
     have HFN : Aside0 (Fr F w (wd.setCell ⟨g, 4, none⟩ (.bool true))) := ⟨((HF2.out.step HFR.out).below HBN.out).set _ (Or.inl HX2.out.hg)⟩
     have hs1 := HBN.out.size;have hs2 := HFR.out.size;have hs3 := HF2.out.size
     have hgb : b4 ≠ g := fun e => HNF.out.1 (by rw [e]; exact HX2.out.hg)
     have BN4 : Aside0 ((wd.setCell ⟨g, 4, none⟩ (.bool true)).heap[b4]? = some (.cells #[.int .i64 0, .bool false, .int .i64 0] 43 (0, 0))) := ⟨(Below.heap_setCell _ _ _ _ hgb).trans (xaK (HFR.out.blk B42.out HNF.out.1) HBN.out)⟩
     have e4 : (wd.setCell ⟨g, 4, none⟩ (.bool true)).heap.size = wd.heap.size := by simp
     have HSZ : Aside0 (w2.heap.size ≤ (wd.setCell ⟨g, 4, none⟩ (.bool true)).heap.size ∧ wr.heap.size ≤ (wd.setCell ⟨g, 4, none⟩ (.bool true)).heap.size) := ⟨by rw [e4]; omega⟩
     have hck : (wd.setCell ⟨g, 4, none⟩ (.bool true)).cell? ⟨g, 4, none⟩ = some (.bool true) := by
      have h1 := HP4.out.k
      rw [HBE.out] at h1
      exact (xaA h1 4).trans rfl
     have hcf : (wd.setCell ⟨g, 4, none⟩ (.bool true)).cell? ⟨g, 5, none⟩ = some (.int .i64 s'.fault) := (xaA HP4.out.k 5).trans rfl
     refine start_ (n := 12) (S := fun w' => w'.cell? ⟨g, 4, none⟩ = some (.bool true) ∧ w'.cell? ⟨g, 5, none⟩ = some (.int .i64 s'.fault)) (ds := [10, 11]) #[false, false, false, false, false, false, false, false, false, false, false, false] (by kernel_rfl) rfl rfl ⟨hck, hcf⟩ (fun hHeld => ?_)
     replace HP4 := Aside0.mk HP4.out.drew;replace HFN := Aside0.mk HFN.out.drew
     replace BN4 := Aside0.mk (xaF BN4.out)
     clear hck hcf hs1 hs2 hs3 e4
     generalize hwe : (wd.setCell ⟨g, 4, none⟩ (.bool true)).drew = we at *
     have HSE : Aside0 (w2.heap.size ≤ we.heap.size ∧ wr.heap.size ≤ we.heap.size) := ⟨by rw [← hwe]; exact HSZ.out⟩
     clear hwe HSZ
     refine rP 0 ?_
     refine rP 1 ?_
     refine rP 2 ?_
     refine rP 3 ?_
     refine rT 4 ?_
     refine rP 5 ?_
     refine rP 6 ?_
     refine rP 7 ?_
     refine rT 8 ?_
     refine rP 9 ?_
     obtain ⟨x0, x1, x2, y0, y1, y2⟩ := blk3 BN4
     refine rL 10 (fun K hK => ?_)
     refine skip_ (w1 := ?_) (by rfl) rfl ?_ ?_
     rotate_left
     ·
      go_simp
      rfl
     refine hK.out _ _ ?_
     clear hK K
     refine rL 11 (fun K hK => ?_)
     refine value_ (w1 := ?_) (v := ?_) (by rfl) rfl ?_ ?_
     rotate_left 2
     ·
      go_simp
      constructor
      ·
       rfl
      ·
       rfl
     refine hK.out _ _ ?_
     clear hK K
     refine rN ?_
     refine rD ?_
     clear x0 x1 x2 y0 y1 y2 hHeld
     go_wp2_with fail
     have q1 : (we.setCell ⟨b4, 0, none⟩ (.int .i64 (d : Int))).heap[b4]? = some (.cells #[.int .i64 (d : Int), .bool false, .int .i64 0] 43 (0, 0)) := xaS BN4.out 0 _ rfl
     have q2 : ((we.setCell ⟨b4, 0, none⟩ (.int .i64 (d : Int))).setCell ⟨b4, 1, none⟩ (.bool true)).heap[b4]? = some (.cells #[.int .i64 (d : Int), .bool true, .int .i64 0] 43 (0, 0)) := xaS q1 1 _ rfl
     have q3 : Aside0 ((((we.setCell ⟨b4, 0, none⟩ (.int .i64 (d : Int))).setCell ⟨b4, 1, none⟩ (.bool true)).setCell ⟨b4, 2, none⟩ (.int .i64 s'.fault)).heap[b4]? = some (.cells #[.int .i64 (d : Int), .bool true, .int .i64 s'.fault] 43 (0, 0))) := ⟨xaS q2 2 _ rfl⟩
     have HX6 := Aside0.mk (((HP4.out.out BN4.out (by decide) (by decide) (by decide) (by decide) 0 (.int .i64 (d : Int))).out q1 (by decide) (by decide) (by decide) (by decide) 1 (.bool true)).out q2 (by decide) (by decide) (by decide) (by decide) 2 (.int .i64 s'.fault))
     have hbw : F b4 ∨ w.heap.size ≤ b4 := Or.inr (by have := HB4.out; omega)
     have HF6 := Aside0.mk (((HFN.out.set (p := ⟨b4, 0, none⟩) (.int .i64 (d : Int)) hbw).set (p := ⟨b4, 1, none⟩) (.bool true) hbw).set (p := ⟨b4, 2, none⟩) (.int .i64 s'.fault) hbw)
     have e6 : (((we.setCell ⟨b4, 0, none⟩ (.int .i64 (d : Int))).setCell ⟨b4, 1, none⟩ (.bool true)).setCell ⟨b4, 2, none⟩ (.int .i64 s'.fault)).heap.size = we.heap.size := by simp
     have hse := HSE.out
     rw [← e6] at hse
     clear q1 q2 e6
     generalize ((we.setCell ⟨b4, 0, none⟩ (.int .i64 (d : Int))).setCell ⟨b4, 1, none⟩ (.bool true)).setCell ⟨b4, 2, none⟩ (.int .i64 s'.fault) = w9 at *
     obtain ⟨r0, r1, r2, y0, y1, y2⟩ := blk3 q3
     clear y0 y1 y2
     refine bodyPost_ret (v := .tuple #[.agg #[.int .i64 (d : Int), .bool true, .int .i64 s'.fault], .int .i64 0]) (by simp [results, Tryz.results16, go_sem, r0, r1, r2]) rfl ?_
     rw [HR0.out]
     simp only [HBE.out]
     exact ⟨by first | rfl | trivial, HF6.out, A1, n1, A2, n2, (HX6.out.up hse.2 HX2.out.xbY HX2.out.own_lt).grow HF2.out.size hse.1 HX.out.xbY HX.out.own_lt⟩
    ·
     refine rP 0 ?_
     refine rP 1 ?_
     refine rP 2 ?_
     refine rP 3 ?_
     refine rT 4 ?_
     refine rP 5 ?_
     refine rP 6 ?_
     refine rP 7 ?_
     refine rT 8 ?_
     refine rP 9 ?_
     refine rP 10 ?_
     refine rP 11 ?_
     refine rP 12 ?_
     refine rP 13 ?_
     refine rP 14 ?_
     refine rT 15 ?_
     refine rP 16 ?_
     refine rP 17 ?_
     refine rP 18 ?_
     refine rP 19 ?_
     obtain ⟨d0, d1, d2, d3, d4, d5, z0, z1, z2, z3, z4, z5⟩ := blk6 HXN.out.k
     refine rL 20 (fun K hK => ?_)
     refine skip_ (w1 := ?_) (by rfl) rfl ?_ ?_
     rotate_left
     ·
      go_simp
      rfl
     refine hK.out _ _ ?_
     clear hK K
     refine rD ?_
     clear d0 d1 d2 d3 d4 d5 z0 z1 z2 z3 z4 z5 hHeld
     go_wp2_with fail
     have HP4 := Aside0.mk (Mx.put (s' := ends s') 4 (.bool be) HXN.out.k (by rw [← HBE.out]; simp [ends]) HXN.out.c HXN.out.f HXN.out.m HXN.out.hg HXN.out.hF HXN.out.hc)
     have HFN : Aside0 (Fr F w (wd.setCell ⟨g, 4, none⟩ (.bool be))) := ⟨((HF2.out.step HFR.out).below HBN.out).set _ (Or.inl HX2.out.hg)⟩
     have hs1 := HBN.out.size;have hs2 := HFR.out.size;have hs3 := HF2.out.size
     have hgb : b4 ≠ g := fun e => HNF.out.1 (by rw [e]; exact HX2.out.hg)
     have BN4 : Aside0 ((wd.setCell ⟨g, 4, none⟩ (.bool be)).heap[b4]? = some (.cells #[.int .i64 0, .bool false, .int .i64 0] 43 (0, 0))) := ⟨(Below.heap_setCell _ _ _ _ hgb).trans (xaK (HFR.out.blk B42.out HNF.out.1) HBN.out)⟩
     have e4 : (wd.setCell ⟨g, 4, none⟩ (.bool be)).heap.size = wd.heap.size := by simp
     have HSZ : Aside0 (w2.heap.size ≤ (wd.setCell ⟨g, 4, none⟩ (.bool be)).heap.size ∧ wr.heap.size ≤ (wd.setCell ⟨g, 4, none⟩ (.bool be)).heap.size) := ⟨by rw [e4]; omega⟩
     have hck : (wd.setCell ⟨g, 4, none⟩ (.bool be)).cell? ⟨g, 4, none⟩ = some (.bool be) := by
      have h1 := HP4.out.k
      rw [HBE.out] at h1
      exact (xaA h1 4).trans rfl
     have hcf : (wd.setCell ⟨g, 4, none⟩ (.bool be)).cell? ⟨g, 5, none⟩ = some (.int .i64 s'.fault) := (xaA HP4.out.k 5).trans rfl
     refine start_ (n := 12) (S := fun w' => w'.cell? ⟨g, 4, none⟩ = some (.bool be) ∧ w'.cell? ⟨g, 5, none⟩ = some (.int .i64 s'.fault)) (ds := [10, 11]) #[false, false, false, false, false, false, false, false, false, false, false, false] (by kernel_rfl) rfl rfl ⟨hck, hcf⟩ (fun hHeld => ?_)
     replace HP4 := Aside0.mk HP4.out.drew;replace HFN := Aside0.mk HFN.out.drew
     replace BN4 := Aside0.mk (xaF BN4.out)
     clear hck hcf hs1 hs2 hs3 e4
     generalize hwe : (wd.setCell ⟨g, 4, none⟩ (.bool be)).drew = we at *
     have HSE : Aside0 (w2.heap.size ≤ we.heap.size ∧ wr.heap.size ≤ we.heap.size) := ⟨by rw [← hwe]; exact HSZ.out⟩
     clear hwe HSZ
     refine rP 0 ?_
     refine rP 1 ?_
     refine rP 2 ?_
     refine rP 3 ?_
     refine rT 4 ?_
     refine rP 5 ?_
     refine rP 6 ?_
     refine rP 7 ?_
     refine rT 8 ?_
     refine rP 9 ?_
     obtain ⟨x0, x1, x2, y0, y1, y2⟩ := blk3 BN4
     refine rL 10 (fun K hK => ?_)
     refine skip_ (w1 := ?_) (by rfl) rfl ?_ ?_
     rotate_left
     ·
      go_simp
      rfl
     refine hK.out _ _ ?_
     clear hK K
     refine rL 11 (fun K hK => ?_)
     refine value_ (w1 := ?_) (v := ?_) (by rfl) rfl ?_ ?_
     rotate_left 2
     ·
      go_simp
      constructor
      ·
       rfl
      ·
       rfl
     refine hK.out _ _ ?_
     clear hK K
     refine rN ?_
     refine rD ?_
     clear x0 x1 x2 y0 y1 y2 hHeld
     go_wp2_with fail
     have q1 : (we.setCell ⟨b4, 0, none⟩ (.int .i64 (d : Int))).heap[b4]? = some (.cells #[.int .i64 (d : Int), .bool false, .int .i64 0] 43 (0, 0)) := xaS BN4.out 0 _ rfl
     have q2 : ((we.setCell ⟨b4, 0, none⟩ (.int .i64 (d : Int))).setCell ⟨b4, 1, none⟩ (.bool be)).heap[b4]? = some (.cells #[.int .i64 (d : Int), .bool be, .int .i64 0] 43 (0, 0)) := xaS q1 1 _ rfl
     have q3 : Aside0 ((((we.setCell ⟨b4, 0, none⟩ (.int .i64 (d : Int))).setCell ⟨b4, 1, none⟩ (.bool be)).setCell ⟨b4, 2, none⟩ (.int .i64 s'.fault)).heap[b4]? = some (.cells #[.int .i64 (d : Int), .bool be, .int .i64 s'.fault] 43 (0, 0))) := ⟨xaS q2 2 _ rfl⟩
     have HX6 := Aside0.mk (((HP4.out.out BN4.out (by decide) (by decide) (by decide) (by decide) 0 (.int .i64 (d : Int))).out q1 (by decide) (by decide) (by decide) (by decide) 1 (.bool be)).out q2 (by decide) (by decide) (by decide) (by decide) 2 (.int .i64 s'.fault))
     have hbw : F b4 ∨ w.heap.size ≤ b4 := Or.inr (by have := HB4.out; omega)
     have HF6 := Aside0.mk (((HFN.out.set (p := ⟨b4, 0, none⟩) (.int .i64 (d : Int)) hbw).set (p := ⟨b4, 1, none⟩) (.bool be) hbw).set (p := ⟨b4, 2, none⟩) (.int .i64 s'.fault) hbw)
     have e6 : (((we.setCell ⟨b4, 0, none⟩ (.int .i64 (d : Int))).setCell ⟨b4, 1, none⟩ (.bool be)).setCell ⟨b4, 2, none⟩ (.int .i64 s'.fault)).heap.size = we.heap.size := by simp
     have hse := HSE.out
     rw [← e6] at hse
     clear q1 q2 e6
     generalize ((we.setCell ⟨b4, 0, none⟩ (.int .i64 (d : Int))).setCell ⟨b4, 1, none⟩ (.bool be)).setCell ⟨b4, 2, none⟩ (.int .i64 s'.fault) = w9 at *
     obtain ⟨r0, r1, r2, y0, y1, y2⟩ := blk3 q3
     clear y0 y1 y2
     refine bodyPost_ret (v := .tuple #[.agg #[.int .i64 (d : Int), .bool be, .int .i64 s'.fault], .int .i64 0]) (by simp [results, Tryz.results16, go_sem, r0, r1, r2]) rfl ?_
     rw [HR0.out]
     simp only [HBE.out]
     exact ⟨by first | rfl | trivial, HF6.out, A1, n1, A2, n2, (HX6.out.up hse.2 HX2.out.xbY HX2.out.own_lt).grow HF2.out.size hse.1 HX.out.xbY HX.out.own_lt⟩
end
def stepV (r : Prog × Int × St) : Value := .tuple #[.agg #[.int .i64 r.1.done, .bool r.1.ended, .int .i64 r.1.fault], .int .i64 r.2.1]
section
variable {w : World} {base g : Nat} {F : Nat → Prop} {Ac : Option Addr} {cc : Nat} {Af : Option Addr} {cf : Nat} {Am : Option Addr} {cm : Nat} {s : St} {fxs : S37 → List S48 × Int}
theorem step_none (h : Mx w base g F Ac cc Af cf Am cm s) (n er : Int) (hc : (s.ended = true ∧ er = 190) ∨ (s.ended = false ∧ n < 1 ∧ er = 1)) :
  Calls Tryz.prog 16 #[.pointer (some ⟨g, 0, none⟩), .int .i64 n] w fun e w' => e = .returned (.tuple #[.agg #[.int .i64 0, .bool false, .int .i64 0], .int .i64 er]) ∧ Below w.heap.size w w' := by
 have HX1 := Aside0.mk (h.alloc (.cells #[.int .i64 0, .bool false, .int .i64 0] 43))
 have B4 := Aside0.mk (xbB w (.cells #[.int .i64 0, .bool false, .int .i64 0] 43))
 obtain ⟨c0, c1, c2, c3, c4, c5, z0, z1, z2, z3, z4, z5⟩ := blk6 HX1.out.k
 obtain ⟨x0, x1, x2, y0, y1, y2⟩ := blk3 B4
 clear c0 c1 c2 c3 c5 z0 z1 z2 z3 z4 z5 h HX1 B4
 have HB := Aside0.mk (xaC (Below.refl w.heap.size w) (.cells #[.int .i64 0, .bool false, .int .i64 0] 43))
 have r0 := xaS (xbB w (.cells #[.int .i64 0, .bool false, .int .i64 0] 43)) 0 (.int .i64 0) (cs' := #[.int .i64 0, .bool false, .int .i64 0]) rfl
 rcases hc with ⟨he, rfl⟩ | ⟨he, hn, rfl⟩
 ·
  rw [he] at c4
  clear he
  go_enter Tryz.func16, Tryz.ntmps16
  go_wp2_with fail
  refine bodyPost_ret (v := .tuple #[.agg #[.int .i64 0, .bool false, .int .i64 0], .int .i64 190]) ?_ rfl ⟨rfl, ?_⟩
  ·
   simp [results, Tryz.results16, go_sem]
  ·
   exact HB.out
 ·
  rw [he] at c4
  have t0 : decide (n < 1) = true := decide_eq_true hn
  clear he hn
  go_enter Tryz.func16, Tryz.ntmps16
  go_wp2_with fail
  refine bodyPost_ret (v := .tuple #[.agg #[.int .i64 0, .bool false, .int .i64 0], .int .i64 1]) ?_ rfl ⟨rfl, ?_⟩
  ·
   simp [results, Tryz.results16, go_sem]
  ·
   exact HB.out
theorem Mx.over {w' : World} (h : Mx w base g F Ac cc Af cf Am cm s) (hb : Below w.heap.size w w') : Mx w' base g (Gr F w.heap.size w'.heap.size) Ac cc Af cf Am cm s :=
  (h.below hb).mono (fun k hk => Or.inl hk) (gr_bd h.hF h.xbY hb.size) (h.hc_gr _)
theorem step_ok (h : Mx w base g F Ac cc Af cf Am cm s) (hg : Good fxs s.code) (hi : Inv s) (n : Int) (hn1 : n ≤ 9223372036854775807) :
  Calls Tryz.prog 16 #[.pointer (some ⟨g, 0, none⟩), .int .i64 n] w fun e w' => e = .returned (stepV (stepM fxs s n)) ∧ Fr F w w' ∧ ∃ A1 c1 A2 c2, Mx w' base g (Gr F w.heap.size w'.heap.size) Ac cc A1 c1 A2 c2 (stepM fxs s n).2.2 := by
 by_cases he : s.ended = true
 ·
  unfold stepM; rw [if_pos he]
  refine (step_none h n 190 (Or.inl ⟨he, rfl⟩)).mono ?_
  rintro e w' ⟨rfl, hb⟩
  exact ⟨rfl, (Fr.refl _ _).below hb, _, _, _, _, h.over hb⟩
 ·
  have he' := Bool.eq_false_iff.2 he
  unfold stepM; rw [if_neg he]
  by_cases hn : n < 1
  ·
   rw [if_pos hn]
   refine (step_none h n 1 (Or.inr ⟨he', hn, rfl⟩)).mono ?_
   rintro e w' ⟨rfl, hb⟩
   exact ⟨rfl, (Fr.refl _ _).below hb, _, _, _, _, h.over hb⟩
  ·
   rw [if_neg hn]
   refine (step_run h hg hi n (by omega) hn1 he').mono ?_
   rintro e w' ⟨rfl, hf, hm⟩
   exact ⟨rfl, hf, hm⟩
theorem step_inv (hg : Good fxs s.code) (hi : Inv s) (n : Int) : Inv (stepM fxs s n).2.2 ∧ (stepM fxs s n).2.2.code = s.code := by
 unfold stepM
 by_cases he : s.ended = true
 ·
  rw [if_pos he]; exact ⟨hi, rfl⟩
 ·
  rw [if_neg he]
  by_cases hn : n < 1
  ·
   rw [if_pos hn]; exact ⟨hi, rfl⟩
  ·
   rw [if_neg hn]
   obtain ⟨h1, h2, _⟩ := run_inv n.toNat s hg hi
   exact ⟨ends_inv h1, h2⟩
end
section
variable {w : World} {base g : Nat} {F : Nat → Prop} {Ac : Option Addr} {cc : Nat} {Af : Option Addr} {cf : Nat} {Am : Option Addr} {cm : Nat} {s : St}
end
end Go.Proofs.YtkabcgmegljebaaGreatDoor.H
