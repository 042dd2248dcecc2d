/- Contracts and facts of functions of the program, joined in one text. -/
import Derived.Test.YtkabcgmegljebaaGreatDoorRGJ
import Derived.Laws.ResultCell
set_option maxHeartbeats 8000000
set_option maxRecDepth 100000
set_option linter.unusedVariables false
set_option linter.unusedSimpArgs false
namespace Go.Proofs.YtkabcgmegljebaaGreatDoor.H
open Go.RowKit Go.Proofs.YtkabcgmegljebaaGreatDoorW.PrintWords Go.Proofs.YtkabcgmegljebaaGreatDoorW.PrintLast Go.Proofs.YtkabcgmegljebaaGreatDoorW.PrintMore
open Go.Proofs.YtkabcgmegljebaaGreatDoor.Q
theorem Mx.flat {w1 : World} {base g : Nat} {F : Nat → Prop} {Ac : Option Addr} {cc : Nat} {Af : Option Addr} {cf : Nat} {Am : Option Addr} {cm : Nat} {s : St} {n m m1 : Nat} (h : Mx w1 base g (Gr (Gr F n m) m1 w1.heap.size) Ac cc Af cf Am cm s) (h1 : n ≤ m) (h2 : m ≤ m1) (h3 : m1 ≤ w1.heap.size) (hb : base ≤ n) (hc : ∀ k, own Ac k → k < n) : Mx w1 base g (Gr F n w1.heap.size) Ac cc Af cf Am cm s :=
 h.mono (Gr.flat h1 (Nat.le_trans h2 h3) (Nat.le_trans h1 h2)) (fun k hk => by
  rcases hk with hk | hk
  ·
   exact h.hF k (Or.inl (Or.inl hk))
  ·
   omega) (fun k hk hg => by
  rcases hg with h4 | h4
  ·
   exact h.hc k hk (Or.inl (Or.inl h4))
  ·
   have := hc k hk; omega)
theorem way_all {base g : Nat} {Ac : Option Addr} {cc : Nat} {s : St} {fx : List S48 × Int} {o : S37} (h : OkS s.flows s.marks) (ho : OkO fx o) (hfx : o.f0 = 3 → FixC o fx ∧ fx.1.length ≤ 100000) (hne : 4 ≤ o.f0 → s.marks ≠ []) (hl : s.marks.length < 10000) :
  ∃ fn : FuncId, WayC fn o base g Ac cc s (act fx o s.flows s.marks) ∧ (∀ (args : Array Value) (w : World), (callFunc fn args).run Tryz.prog w = .ok (.enter fn args) w) ∧
   ∀ (w : World) (gw : Nat), w.heap[gw]? = some (.cells #[.nilFunc, wayV g 51, wayV g 52, wayV g 53, wayV g 54, wayV g 55, wayV g 56, wayV g 57] 89 (0, 0)) → w.cell? ⟨gw, o.f0.toNat, none⟩ = some (.func (.func fn) #[.pointer (some ⟨g, 0, none⟩)] #[]) := by
 have hk := ho.kind
 have hc : o.f0 = 1 ∨ o.f0 = 2 ∨ o.f0 = 3 ∨ o.f0 = 4 ∨ o.f0 = 5 ∨ o.f0 = 6 ∨ o.f0 = 7 := by omega
 rcases hc with hc | hc | hc | hc | hc | hc | hc
 ·
  exact ⟨51, way1 h hc hl, xeW Tryz.func51 (by kernel_rfl) rfl, fun w gw hw => by rw [hc]; exact (xaB hw 1).trans rfl⟩
 ·
  exact ⟨52, way2 h hc, xeW Tryz.func52 (by kernel_rfl) rfl, fun w gw hw => by rw [hc]; exact (xaB hw 2).trans rfl⟩
 ·
  exact ⟨53, way3 h hc (hfx hc).1 (hfx hc).2, xeW Tryz.func53 (by kernel_rfl) rfl, fun w gw hw => by rw [hc]; exact (xaB hw 3).trans rfl⟩
 ·
  exact ⟨54, way4 h hc (hne (by omega)) hl, xeW Tryz.func54 (by kernel_rfl) rfl, fun w gw hw => by rw [hc]; exact (xaB hw 4).trans rfl⟩
 ·
  exact ⟨55, way5 h hc (ho.x (Or.inr hc)) (hne (by omega)) hl, xeW Tryz.func55 (by kernel_rfl) rfl, fun w gw hw => by rw [hc]; exact (xaB hw 5).trans rfl⟩
 ·
  exact ⟨56, way6 h hc (hne (by omega)) hl, xeW Tryz.func56 (by kernel_rfl) rfl, fun w gw hw => by rw [hc]; exact (xaB hw 6).trans rfl⟩
 ·
  exact ⟨57, way7 h hc (ho.rep hc) (hne (by omega)) hl, xeW Tryz.func57 (by kernel_rfl) rfl, fun w gw hw => by rw [hc]; exact (xaB hw 7).trans rfl⟩
theorem put9 {w : World} {b : Nat} {t : TypeId} {z0 z1 z2 z3 z4 z5 z6 z7 z8 : Value} (x0 x1 x2 x3 x4 x5 x6 x7 x8 : Value) (h : w.heap[b]? = some (.cells #[z0, z1, z2, z3, z4, z5, z6, z7, z8] t (0, 0))) : (((((((((w.setCell ⟨b, 0, none⟩ x0).setCell ⟨b, 1, none⟩ x1).setCell ⟨b, 2, none⟩ x2).setCell ⟨b, 3, none⟩ x3).setCell ⟨b, 4, none⟩ x4).setCell ⟨b, 5, none⟩ x5).setCell ⟨b, 6, none⟩ x6).setCell ⟨b, 7, none⟩ x7).setCell ⟨b, 8, none⟩ x8).heap[b]? = some (.cells #[x0, x1, x2, x3, x4, x5, x6, x7, x8] t (0, 0)) := by
 have q0 : (w.setCell ⟨b, 0, none⟩ x0).heap[b]? = some (.cells #[x0, z1, z2, z3, z4, z5, z6, z7, z8] t (0, 0)) := xaN h 0 x0 rfl
 have q1 : ((w.setCell ⟨b, 0, none⟩ x0).setCell ⟨b, 1, none⟩ x1).heap[b]? = some (.cells #[x0, x1, z2, z3, z4, z5, z6, z7, z8] t (0, 0)) := xaN q0 1 x1 rfl
 have q2 : (((w.setCell ⟨b, 0, none⟩ x0).setCell ⟨b, 1, none⟩ x1).setCell ⟨b, 2, none⟩ x2).heap[b]? = some (.cells #[x0, x1, x2, z3, z4, z5, z6, z7, z8] t (0, 0)) := xaN q1 2 x2 rfl
 have q3 : ((((w.setCell ⟨b, 0, none⟩ x0).setCell ⟨b, 1, none⟩ x1).setCell ⟨b, 2, none⟩ x2).setCell ⟨b, 3, none⟩ x3).heap[b]? = some (.cells #[x0, x1, x2, x3, z4, z5, z6, z7, z8] t (0, 0)) := xaN q2 3 x3 rfl
 have q4 : (((((w.setCell ⟨b, 0, none⟩ x0).setCell ⟨b, 1, none⟩ x1).setCell ⟨b, 2, none⟩ x2).setCell ⟨b, 3, none⟩ x3).setCell ⟨b, 4, none⟩ x4).heap[b]? = some (.cells #[x0, x1, x2, x3, x4, z5, z6, z7, z8] t (0, 0)) := xaN q3 4 x4 rfl
 have q5 : ((((((w.setCell ⟨b, 0, none⟩ x0).setCell ⟨b, 1, none⟩ x1).setCell ⟨b, 2, none⟩ x2).setCell ⟨b, 3, none⟩ x3).setCell ⟨b, 4, none⟩ x4).setCell ⟨b, 5, none⟩ x5).heap[b]? = some (.cells #[x0, x1, x2, x3, x4, x5, z6, z7, z8] t (0, 0)) := xaN q4 5 x5 rfl
 have q6 : (((((((w.setCell ⟨b, 0, none⟩ x0).setCell ⟨b, 1, none⟩ x1).setCell ⟨b, 2, none⟩ x2).setCell ⟨b, 3, none⟩ x3).setCell ⟨b, 4, none⟩ x4).setCell ⟨b, 5, none⟩ x5).setCell ⟨b, 6, none⟩ x6).heap[b]? = some (.cells #[x0, x1, x2, x3, x4, x5, x6, z7, z8] t (0, 0)) := xaN q5 6 x6 rfl
 have q7 : ((((((((w.setCell ⟨b, 0, none⟩ x0).setCell ⟨b, 1, none⟩ x1).setCell ⟨b, 2, none⟩ x2).setCell ⟨b, 3, none⟩ x3).setCell ⟨b, 4, none⟩ x4).setCell ⟨b, 5, none⟩ x5).setCell ⟨b, 6, none⟩ x6).setCell ⟨b, 7, none⟩ x7).heap[b]? = some (.cells #[x0, x1, x2, x3, x4, x5, x6, x7, z8] t (0, 0)) := xaN q6 7 x7 rfl
 have q8 : (((((((((w.setCell ⟨b, 0, none⟩ x0).setCell ⟨b, 1, none⟩ x1).setCell ⟨b, 2, none⟩ x2).setCell ⟨b, 3, none⟩ x3).setCell ⟨b, 4, none⟩ x4).setCell ⟨b, 5, none⟩ x5).setCell ⟨b, 6, none⟩ x6).setCell ⟨b, 7, none⟩ x7).setCell ⟨b, 8, none⟩ x8).heap[b]? = some (.cells #[x0, x1, x2, x3, x4, x5, x6, x7, x8] t (0, 0)) := xaN q7 8 x8 rfl
 exact q8
theorem put9_below {w0 w : World} {b : Nat} (x0 x1 x2 x3 x4 x5 x6 x7 x8 : Value) (hb : w0.heap.size ≤ b) (h : Below w0.heap.size w0 w) : Below w0.heap.size w0 (((((((((w.setCell ⟨b, 0, none⟩ x0).setCell ⟨b, 1, none⟩ x1).setCell ⟨b, 2, none⟩ x2).setCell ⟨b, 3, none⟩ x3).setCell ⟨b, 4, none⟩ x4).setCell ⟨b, 5, none⟩ x5).setCell ⟨b, 6, none⟩ x6).setCell ⟨b, 7, none⟩ x7).setCell ⟨b, 8, none⟩ x8) :=
  xaF (xaF (xaF (xaF (xaF (xaF (xaF (xaF (xaF h hb) hb) hb) hb) hb) hb) hb) hb) hb
theorem after_one (fxs : S37 → List S48 × Int) (s : St) : ({ after s (act (fxs (opAt s)) (opAt s) s.flows s.marks) with fault := (act (fxs (opAt s)) (opAt s) s.flows s.marks).2.2, loc := s.loc + 1 } : St) = one fxs s := by
 unfold after one doOp
 by_cases he : (act (fxs (opAt s)) (opAt s) s.flows s.marks).2.2 = 0
 ·
  simp only [if_pos he]
 ·
  simp only [if_neg he]
theorem after_loc (s : St) (r : List S48 × List Int × Int) : (after s r).loc = s.loc := by unfold after; split <;> rfl
theorem after_code (s : St) (r : List S48 × List Int × Int) : (after s r).code = s.code := by unfold after; split <;> rfl
theorem after_ended (s : St) (r : List S48 × List Int × Int) : (after s r).ended = s.ended := by unfold after; split <;> rfl
theorem run_step {fxs : S37 → List S48 × Int} {s s' : St} {n : Int} {d : Nat} (hg : goes s' = true) (hd : (d : Int) < n) (h : runN fxs n.toNat s = (d + (runN fxs (n.toNat - d) s').1, (runN fxs (n.toNat - d) s').2)) :
  runN fxs n.toNat s = (d + 1 + (runN fxs (n.toNat - (d + 1)) (one fxs s')).1, (runN fxs (n.toNat - (d + 1)) (one fxs s')).2) := by
 obtain ⟨k, hk⟩ : ∃ k, n.toNat - d = k + 1 := ⟨n.toNat - d - 1, by omega⟩
 rw [h, hk, show n.toNat - (d + 1) = k by omega, runN, if_pos hg]
 simp only [Prod.mk.injEq, and_true]
 omega
section
variable {P : Program} {md : Region.Mode} {ops : Array Oper} {Q : Exit → Act → World → Prop} {S : World → Prop} {ds : List Nat}
theorem rF (i : Nat) {N : Option Tmp} {oi : Oper} {fuel : Nat} {l l' : Array Bool} {a a' : Act} {w : World}
  (h : xaS P md ops Q S ds fuel l' a' w) (hi : ops[i]? = some oi := by rfl) (hN : oi.dst = N := by first | exact (rfl : _ = some _) | exact (rfl : _ = none))
  (hl : l.setIfInBounds i true = l' := by simp only [List.setIfInBounds_toArray, List.set_cons_zero, List.set_cons_succ]; rfl) (hc : anyB md ops l l' i = true := by kernel_rfl)
  (hQ : ∀ c a w, Q (.panic c) (a.put oi.dst undef) w → Q (.panic c) a w := by exact fun _ _ _ h => h)
  (hw : Region.wanted oi (yielded ops a.tmps) = false := by rfl)
  (ha : a.put N undef = a' := by simp only [Act.put, List.setIfInBounds_toArray, List.set_cons_zero, List.set_cons_succ, i64_w, i32_w]; rfl) : xaS P md ops Q S ds (fuel + 1) l a w := pure_ l' hi hN hc hQ (Or.inr ⟨hw, rfl⟩) ha h
end
def StepI (fxs : S37 → List S48 × Int) (w2 w' : World) (base g : Nat) (F : Nat → Prop) (Ac : Option Addr) (cc : Nat) (s s' : St) (n : Int) (d : Nat) : Prop :=
  Fr F w2 w' ∧ (∃ A1 c1 A2 c2, Mx w' base g (Gr F w2.heap.size w'.heap.size) Ac cc A1 c1 A2 c2 s') ∧ Inv s' ∧ s'.code = s.code ∧ s'.ended = s.ended ∧ d ≤ n.toNat ∧ s'.loc = s.loc + d ∧ runN fxs n.toNat s = (d + (runN fxs (n.toNat - d) s').1, (runN fxs (n.toNat - d) s').2)
section
variable {w : World} {base g : Nat} {F : Nat → Prop} {Ac : Option Addr} {cc : Nat} {Af : Option Addr} {cf : Nat} {Am : Option Addr} {cm : Nat} {s : St} {fxs : S37 → List S48 × Int}
theorem step_run (h : Mx w base g F Ac cc Af cf Am cm s) (hg : Good fxs s.code) (hi : Inv s) (n : Int) (hn : 1 ≤ n) (hn1 : n ≤ 9223372036854775807) (he : s.ended = false) :
  Calls Tryz.prog 16 #[.pointer (some ⟨g, 0, none⟩), .int .i64 n] w fun e w' => e = .returned (.tuple #[.agg #[.int .i64 ((runN fxs n.toNat s).1 : Int), .bool (ends (runN fxs n.toNat s).2).ended, .int .i64 (runN fxs n.toNat s).2.fault], .int .i64 0]) ∧ Fr F w w' ∧ ∃ A1 c1 A2 c2, Mx w' base g (Gr F w.heap.size w'.heap.size) Ac cc A1 c1 A2 c2 (ends (runN fxs n.toNat s).2) := by
 have HX := am h;have HGD := am hg;have HI := am hi
 have HX1 := am (HX.out.alloc (.cells #[.int .i64 0, .bool false, .int .i64 0] 43))
 have HF1 := am ((Fr.refl F w).alloc (.cells #[.int .i64 0, .bool false, .int .i64 0] 43))
 have B4 := am (xbF w (.cells #[.int .i64 0, .bool false, .int .i64 0] 43))
 obtain ⟨c0, c1, c2, c3, c4, c5, z0, z1, z2, z3, z4, z5⟩ := blk6 HX1.out.k
 rw [he] at c4
 have t0 : decide (n < 1) = false := decide_eq_false (by omega)
 clear h hg hi
 go_enter Tryz.func16, Tryz.ntmps16
 go_wp2_with (go_at_call 33; go_loud ((with_reducible refine (ways_ok g _).mono ?_); rintro e w' ⟨rfl, hw_⟩; obtain rfl := hw_))
 clear c0 c1 c2 c3 c4 c5 z0 z1 z2 z3 z4 z5
 have HX2 := am (HX1.out.alloc (.cells #[.nilFunc, wayV g 51, wayV g 52, wayV g 53, wayV g 54, wayV g 55, wayV g 56, wayV g 57] 89))
 have HF2 := am (HF1.out.alloc (.cells #[.nilFunc, wayV g 51, wayV g 52, wayV g 53, wayV g 54, wayV g 55, wayV g 56, wayV g 57] 89))
 have B42 := am (xaT B4.out (.cells #[.nilFunc, wayV g 51, wayV g 52, wayV g 53, wayV g 54, wayV g 55, wayV g 56, wayV g 57] 89))
 have BW := am (xbF (w.alloc (.cells #[.int .i64 0, .bool false, .int .i64 0] 43)) (.cells #[.nilFunc, wayV g 51, wayV g 52, wayV g 53, wayV g 54, wayV g 55, wayV g 56, wayV g 57] 89))
 obtain ⟨b4, hb4⟩ : ∃ b, b = w.heap.size := ⟨_, rfl⟩
 obtain ⟨gw, hgw⟩ : ∃ b, b = (w.alloc (.cells #[.int .i64 0, .bool false, .int .i64 0] 43)).heap.size := ⟨_, rfl⟩
 have HNF : xaA (¬ F b4 ∧ ¬ F gw ∧ b4 ≠ gw) := ⟨fun h => by have := (HX.out.hF _ h).2; omega, fun h => by have := (HX.out.hF _ h).2; simp at hgw; omega, by simp at hgw; omega⟩
 simp only [World.size_alloc] at hgw BW ⊢
 rw [← hb4] at hgw B42 ⊢ BW
 rw [← hgw] at BW ⊢
 have HB4 := am hb4;clear hb4 hgw B4 HX1 HF1
 generalize hw2 : (w.alloc (.cells #[.int .i64 0, .bool false, .int .i64 0] 43)).alloc (.cells #[.nilFunc, wayV g 51, wayV g 52, wayV g 53, wayV g 54, wayV g 55, wayV g 56, wayV g 57] 89) = w2 at *
 clear hw2
 have HLE : xaA (s.loc.toNat ≤ s.code.length ∧ s.code.length ≤ 8192 ∧ 0 ≤ s.loc) := ⟨by have := HI.out.loc; have := HGD.out.len; omega⟩
 have HJ : xaA (StepI fxs w2 w2 base g F Ac cc s s n 0) := ⟨Fr.refl _ _, ⟨Af, cf, Am, cm, HX2.out.mono (fun k hk => Or.inl hk) (gr_bd HX2.out.hF HX2.out.xbJ (Nat.le_refl _)) (HX2.out.hc_gr _)⟩, HI.out, rfl, rfl, Nat.zero_le _, by simp, by simp⟩
 go_loopg [7] (s.code.length - s.loc.toNat) (fun kq v7 w' => ∃ (d : Nat) (s' : St), v7 = .int .i64 (d : Int) ∧ kq + s'.loc.toNat = s.code.length ∧ xaA (StepI fxs w2 w' base g F Ac cc s s' n d))
 case atStart => exact ⟨0, s, rfl, by have := HLE.out; omega, HJ⟩
 case round =>
  obtain ⟨d, s', rfl, hk, HJ⟩ := hrel
  obtain ⟨HFr, ⟨A1, n1, A2, n2, hxm⟩, hinv, hcode, hend, hd, hloc, hrun⟩ := HJ.out
  have HXM := am hxm
  obtain ⟨c0, c1, c2, c3, c4, c5, z0, z1, z2, z3, z4, z5⟩ := blk6 hxm.k
  clear c2 c3 c4 z0 z1 z2 z3 z4 z5;have HINV := am hinv;have HCODE := am hcode;have HD := am hd;have HLOC := am hloc;have HRUN := am hrun;have HE := am hend;have HFR := am HFr
  have hl0 : (0 : Int) ≤ s'.loc := hinv.loc.1
  clear hinv hcode hend hloc hrun hxm HFr
  by_cases hgo : (d : Int) < n ∧ goes s' = true
  ·
   obtain ⟨g1, g2⟩ := hgo
   have HG2 := am g2
   obtain ⟨g3, g4⟩ := xdW.1 g2
   have t1 : decide ((d : Int) < n) = true := decide_eq_true g1
   have t2 : decide (s'.loc < (s'.code.length : Int)) = true := decide_eq_true g3
   rw [g4] at c5
   clear g2 g4
   go_wp2_with fail
   go_quiet (fail)
   go_wp2_with fail
   obtain ⟨ad, had, p0, p1, p2, p3, p4, p5, p6, p7, p8⟩ := xlW HXM.out.c.C s'.loc hl0 g3
   subst had
   have HO : xaA (opAt s' = xeE s'.code s'.loc) := ⟨rfl⟩
   generalize xeE s'.code s'.loc = o at HO p0 p1 p2 p3 p4 p5 p6 p7 p8
   obtain ⟨o0, o1, o2, o3, o4, o5, o6, o7, o8⟩ := o
   simp only at p0 p1 p2 p3 p4 p5 p6 p7 p8
   have hgl : g < wr.heap.size := xaM HXM.out.k
   have hadl : (ad.add (s'.loc.toNat * 9)).block < wr.heap.size := HXM.out.xbY _ ⟨ad, rfl, by unfold Addr.add; split <;> rfl⟩
   have hS : ∀ w' : World, Below wr.heap.size wr w' → w'.cell? ⟨g, 0, none⟩ = some (.slice (some ad) s'.code.length cc) ∧ w'.cell? ⟨g, 1, none⟩ = some (.int .i64 s'.loc) ∧ w'.cell? (ad.add (s'.loc.toNat * 9)) = some (.int .i64 o0) ∧ w'.cell? ⟨(ad.add (s'.loc.toNat * 9)).block, (ad.add (s'.loc.toNat * 9)).off + 1, none⟩ = some (.float .f64 o1) ∧ w'.cell? ⟨(ad.add (s'.loc.toNat * 9)).block, (ad.add (s'.loc.toNat * 9)).off + 2, none⟩ = some (.float .f64 o2) ∧ w'.cell? ⟨(ad.add (s'.loc.toNat * 9)).block, (ad.add (s'.loc.toNat * 9)).off + 3, none⟩ = some (.int .i64 o3) ∧ w'.cell? ⟨(ad.add (s'.loc.toNat * 9)).block, (ad.add (s'.loc.toNat * 9)).off + 4, none⟩ = some (.int .i64 o4) ∧ w'.cell? ⟨(ad.add (s'.loc.toNat * 9)).block, (ad.add (s'.loc.toNat * 9)).off + 5, none⟩ = some (.int .i64 o5) ∧ w'.cell? ⟨(ad.add (s'.loc.toNat * 9)).block, (ad.add (s'.loc.toNat * 9)).off + 6, none⟩ = some (.int .i64 o6) ∧ w'.cell? ⟨(ad.add (s'.loc.toNat * 9)).block, (ad.add (s'.loc.toNat * 9)).off + 7, none⟩ = some (.int .i64 o7) ∧ w'.cell? ⟨(ad.add (s'.loc.toNat * 9)).block, (ad.add (s'.loc.toNat * 9)).off + 8, none⟩ = some (.int .i64 o8) := fun w' hb => ⟨(hb.cell (p := ⟨g, 0, none⟩) hgl).trans c0, (hb.cell (p := ⟨g, 1, none⟩) hgl).trans c1, (hb.cell (p := ad.add (s'.loc.toNat * 9)) hadl).trans p0, (hb.cell (p := ⟨(ad.add (s'.loc.toNat * 9)).block, (ad.add (s'.loc.toNat * 9)).off + 1, none⟩) hadl).trans p1, (hb.cell (p := ⟨(ad.add (s'.loc.toNat * 9)).block, (ad.add (s'.loc.toNat * 9)).off + 2, none⟩) hadl).trans p2, (hb.cell (p := ⟨(ad.add (s'.loc.toNat * 9)).block, (ad.add (s'.loc.toNat * 9)).off + 3, none⟩) hadl).trans p3, (hb.cell (p := ⟨(ad.add (s'.loc.toNat * 9)).block, (ad.add (s'.loc.toNat * 9)).off + 4, none⟩) hadl).trans p4, (hb.cell (p := ⟨(ad.add (s'.loc.toNat * 9)).block, (ad.add (s'.loc.toNat * 9)).off + 5, none⟩) hadl).trans p5, (hb.cell (p := ⟨(ad.add (s'.loc.toNat * 9)).block, (ad.add (s'.loc.toNat * 9)).off + 6, none⟩) hadl).trans p6, (hb.cell (p := ⟨(ad.add (s'.loc.toNat * 9)).block, (ad.add (s'.loc.toNat * 9)).off + 7, none⟩) hadl).trans p7, (hb.cell (p := ⟨(ad.add (s'.loc.toNat * 9)).block, (ad.add (s'.loc.toNat * 9)).off + 8, none⟩) hadl).trans p8⟩
   refine xcA ?_
   refine xbL (n := 12) (S := fun w' => w'.cell? ⟨g, 0, none⟩ = some (.slice (some ad) s'.code.length cc) ∧ w'.cell? ⟨g, 1, none⟩ = some (.int .i64 s'.loc) ∧ w'.cell? (ad.add (s'.loc.toNat * 9)) = some (.int .i64 o0) ∧ w'.cell? ⟨(ad.add (s'.loc.toNat * 9)).block, (ad.add (s'.loc.toNat * 9)).off + 1, none⟩ = some (.float .f64 o1) ∧ w'.cell? ⟨(ad.add (s'.loc.toNat * 9)).block, (ad.add (s'.loc.toNat * 9)).off + 2, none⟩ = some (.float .f64 o2) ∧ w'.cell? ⟨(ad.add (s'.loc.toNat * 9)).block, (ad.add (s'.loc.toNat * 9)).off + 3, none⟩ = some (.int .i64 o3) ∧ w'.cell? ⟨(ad.add (s'.loc.toNat * 9)).block, (ad.add (s'.loc.toNat * 9)).off + 4, none⟩ = some (.int .i64 o4) ∧ w'.cell? ⟨(ad.add (s'.loc.toNat * 9)).block, (ad.add (s'.loc.toNat * 9)).off + 5, none⟩ = some (.int .i64 o5) ∧ w'.cell? ⟨(ad.add (s'.loc.toNat * 9)).block, (ad.add (s'.loc.toNat * 9)).off + 6, none⟩ = some (.int .i64 o6) ∧ w'.cell? ⟨(ad.add (s'.loc.toNat * 9)).block, (ad.add (s'.loc.toNat * 9)).off + 7, none⟩ = some (.int .i64 o7) ∧ w'.cell? ⟨(ad.add (s'.loc.toNat * 9)).block, (ad.add (s'.loc.toNat * 9)).off + 8, none⟩ = some (.int .i64 o8)) (ds := [11]) #[false, false, false, false, false, false, false, false, false, false, false, false] (by kernel_rfl) rfl rfl ⟨c0, c1, p0, p1, p2, p3, p4, p5, p6, p7, p8⟩ (fun hHeld => ?_)
   have hbd : Below wr.heap.size wr (wr.drewN nq).drew := xaK (xaG (Below.refl _ _) _)
   generalize (wr.drewN nq).drew = wd at *
   refine rP 0 ?_
   refine rP 1 ?_
   refine rP 2 ?_
   refine rT 3 ?_
   refine rP 4 ?_
   refine rP 5 ?_
   refine rP 6 ?_
   refine rT 7 ?_
   refine rP 8 ?_
   refine rT 9 ?_
   refine rO 10 (fun K hK => ?_)
   refine xbP (w1 := ?_) (v := ?_) (by rfl) rfl ?_ ?_
   rotate_left 2
   ·
    go_simp
    constructor
    ·
     rfl
    ·
     rfl
   have hb1 : Below wr.heap.size wr (wd.alloc (.cells #[.int .i64 0, .float .f64 0, .float .f64 0, .int .i64 0, .int .i64 0, .int .i64 0, .int .i64 0, .int .i64 0, .int .i64 0] 37)) := xaH hbd _
   refine hK.out _ _ (hS _ hb1) (fun hHeld => ?_)
   clear hK K hHeld
   refine rN ?_
   obtain ⟨b8, hb8⟩ : ∃ b, b = wd.heap.size := ⟨_, rfl⟩
   have BZ : xaA ((wd.alloc (.cells #[.int .i64 0, .float .f64 0, .float .f64 0, .int .i64 0, .int .i64 0, .int .i64 0, .int .i64 0, .int .i64 0, .int .i64 0] 37)).heap[wd.heap.size]? = some (.cells #[.int .i64 0, .float .f64 0, .float .f64 0, .int .i64 0, .int .i64 0, .int .i64 0, .int .i64 0, .int .i64 0, .int .i64 0] 37)) := ⟨xbF _ _⟩
   rw [← hb8] at BZ ⊢
   have HB8 : xaA (wr.heap.size ≤ b8) := ⟨by rw [hb8]; exact hbd.size⟩
   clear hb8
   generalize wd.alloc (.cells #[.int .i64 0, .float .f64 0, .float .f64 0, .int .i64 0, .int .i64 0, .int .i64 0, .int .i64 0, .int .i64 0, .int .i64 0] 37) = w8 at *
   obtain ⟨x0, x1, x2, x3, x4, x5, x6, x7, x8, y0, y1, y2, y3, y4, y5, y6, y7, y8⟩ := blk9 BZ
   refine rL 11 (fun K hK => ?_)
   refine skip_ (w1 := ?_) (by rfl) rfl ?_ ?_
   rotate_left
   ·
    go_simp
    rfl
   refine hK.out _ _ ?_
   clear hK K
   refine rD ?_
   have BO : xaA ((((((((((w8.setCell ⟨b8, 0, none⟩ (.int .i64 o0)).setCell ⟨b8, 1, none⟩ (.float .f64 o1)).setCell ⟨b8, 2, none⟩ (.float .f64 o2)).setCell ⟨b8, 3, none⟩ (.int .i64 o3)).setCell ⟨b8, 4, none⟩ (.int .i64 o4)).setCell ⟨b8, 5, none⟩ (.int .i64 o5)).setCell ⟨b8, 6, none⟩ (.int .i64 o6)).setCell ⟨b8, 7, none⟩ (.int .i64 o7)).setCell ⟨b8, 8, none⟩ (.int .i64 o8)).heap[b8]? = some (.cells #[.int .i64 o0, .float .f64 o1, .float .f64 o2, .int .i64 o3, .int .i64 o4, .int .i64 o5, .int .i64 o6, .int .i64 o7, .int .i64 o8] 37 (0, 0))) := ⟨put9 _ _ _ _ _ _ _ _ _ BZ.out⟩
   have HB9 : xaA (Below wr.heap.size wr (((((((((w8.setCell ⟨b8, 0, none⟩ (.int .i64 o0)).setCell ⟨b8, 1, none⟩ (.float .f64 o1)).setCell ⟨b8, 2, none⟩ (.float .f64 o2)).setCell ⟨b8, 3, none⟩ (.int .i64 o3)).setCell ⟨b8, 4, none⟩ (.int .i64 o4)).setCell ⟨b8, 5, none⟩ (.int .i64 o5)).setCell ⟨b8, 6, none⟩ (.int .i64 o6)).setCell ⟨b8, 7, none⟩ (.int .i64 o7)).setCell ⟨b8, 8, none⟩ (.int .i64 o8))) := ⟨put9_below _ _ _ _ _ _ _ _ _ HB8.out hb1⟩
   clear x0 x1 x2 x3 x4 x5 x6 x7 x8 y0 y1 y2 y3 y4 y5 y6 y7 y8 BZ hb1 hbd hS p0 p1 p2 p3 p4 p5 p6 p7 p8 c0 c1 c5
   generalize (((((((((w8.setCell ⟨b8, 0, none⟩ (.int .i64 o0)).setCell ⟨b8, 1, none⟩ (.float .f64 o1)).setCell ⟨b8, 2, none⟩ (.float .f64 o2)).setCell ⟨b8, 3, none⟩ (.int .i64 o3)).setCell ⟨b8, 4, none⟩ (.int .i64 o4)).setCell ⟨b8, 5, none⟩ (.int .i64 o5)).setCell ⟨b8, 6, none⟩ (.int .i64 o6)).setCell ⟨b8, 7, none⟩ (.int .i64 o7)).setCell ⟨b8, 8, none⟩ (.int .i64 o8)) = w9 at *
   obtain ⟨hok, hne, hmem⟩ := xhD (HCODE.out ▸ HGD.out) HINV.out HG2.out
   rw [HO.out] at hok hne hmem
   obtain ⟨fn, hway, hent, hcell⟩ := way_all (base := base) (g := g) (Ac := some ad) (cc := cc) (s := s') HINV.out.ok hok (fun h3 => HGD.out.fix _ (HCODE.out ▸ hmem) h3) hne (by have := HINV.out.ml; omega)
   have hk0 := hok.kind
   simp only at hk0 hcell
   have hk1 : 0 ≤ o0 := by omega
   have hk2 : o0 < 8 := by omega
   have HW := am hway;have HEN := am hent;have HCELL := am hcell;have HOK := am hok;have HNE := am hne;clear hok hne hmem hway hent hcell
   have HX9 := am (HXM.out.below HB9.out)
   have hS : ∀ w' : World, Below w9.heap.size w9 w' ∨ Fr (Gr F w2.heap.size wr.heap.size) w9 w' → w'.cell? ⟨b8, 0, none⟩ = some (.int .i64 o0) ∧ w'.cell? ⟨b8, 1, none⟩ = some (.float .f64 o1) ∧ w'.cell? ⟨b8, 2, none⟩ = some (.float .f64 o2) ∧ w'.cell? ⟨b8, 3, none⟩ = some (.int .i64 o3) ∧ w'.cell? ⟨b8, 4, none⟩ = some (.int .i64 o4) ∧ w'.cell? ⟨b8, 5, none⟩ = some (.int .i64 o5) ∧ w'.cell? ⟨b8, 6, none⟩ = some (.int .i64 o6) ∧ w'.cell? ⟨b8, 7, none⟩ = some (.int .i64 o7) ∧ w'.cell? ⟨b8, 8, none⟩ = some (.int .i64 o8) ∧ w'.cell? ⟨gw, o0.toNat, none⟩ = some (.func (.func fn) #[.pointer (some ⟨g, 0, none⟩)] #[]) := fun w' hb => by
    have hbo : w'.heap[b8]? = some (.cells #[.int .i64 o0, .float .f64 o1, .float .f64 o2, .int .i64 o3, .int .i64 o4, .int .i64 o5, .int .i64 o6, .int .i64 o7, .int .i64 o8] 37 (0, 0)) := by
     rcases hb with hb | hb
     ·
      exact xaD BO.out hb
     ·
      exact hb.blk BO.out (fun hG => by
       rcases hG with hG | hG
       ·
        have := (HX.out.hF _ hG).2; have := HFR.out.size; have := HF2.out.size; have := HB8.out; omega
       ·
        have := HB8.out; omega)
    have hbw : w'.heap[gw]? = some (.cells #[.nilFunc, wayV g 51, wayV g 52, wayV g 53, wayV g 54, wayV g 55, wayV g 56, wayV g 57] 89 (0, 0)) := by
     have h1 := xaD (HFR.out.blk BW.out HNF.out.2.1) HB9.out
     rcases hb with hb | hb
     ·
      exact xaD h1 hb
     ·
      exact hb.blk h1 (fun hG => by
       rcases hG with hG | hG
       ·
        exact HNF.out.2.1 hG
       ·
        have := xaM BW.out; omega)
    exact ⟨(xaB hbo 0).trans rfl, (xaB hbo 1).trans rfl, (xaB hbo 2).trans rfl, (xaB hbo 3).trans rfl, (xaB hbo 4).trans rfl, (xaB hbo 5).trans rfl, (xaB hbo 6).trans rfl, (xaB hbo 7).trans rfl, (xaB hbo 8).trans rfl, HCELL.out _ _ hbw⟩
   go_wp2_with fail
   refine xbL (n := 12) (S := fun w' => w'.cell? ⟨b8, 0, none⟩ = some (.int .i64 o0) ∧ w'.cell? ⟨b8, 1, none⟩ = some (.float .f64 o1) ∧ w'.cell? ⟨b8, 2, none⟩ = some (.float .f64 o2) ∧ w'.cell? ⟨b8, 3, none⟩ = some (.int .i64 o3) ∧ w'.cell? ⟨b8, 4, none⟩ = some (.int .i64 o4) ∧ w'.cell? ⟨b8, 5, none⟩ = some (.int .i64 o5) ∧ w'.cell? ⟨b8, 6, none⟩ = some (.int .i64 o6) ∧ w'.cell? ⟨b8, 7, none⟩ = some (.int .i64 o7) ∧ w'.cell? ⟨b8, 8, none⟩ = some (.int .i64 o8) ∧ w'.cell? ⟨gw, o0.toNat, none⟩ = some (.func (.func fn) #[.pointer (some ⟨g, 0, none⟩)] #[])) (ds := [11]) #[false, false, false, false, false, false, false, false, false, false, false, false] (by kernel_rfl) rfl rfl (hS _ (Or.inl (xaK (Below.refl _ _)))) (fun hHeld => ?_)
   refine rP 0 ?_
   refine rP 1 ?_
   refine rT 2 ?_
   refine rP 3 ?_
   refine rP 4 ?_
   refine rT 5 ?_
   refine rP 6 ?_
   refine rT 7 ?_
   refine rO 8 (fun K hK => ?_)
   refine goes_ Tryz.func34 (by kernel_rfl) rfl #[.pointer (some ⟨g, 0, none⟩), .agg #[.int .i64 o0, .float .f64 o1, .float .f64 o2, .int .i64 o3, .int .i64 o4, .int .i64 o5, .int .i64 o6, .int .i64 o7, .int .i64 o8], .func (.func fn) #[.pointer (some ⟨g, 0, none⟩)] #[]] (by rfl) rfl rfl (by (try simp only [List.map_toArray, List.map_cons, List.map_nil]); first | done | rfl) ?_
   have HX10 := am (HX9.out.drew)
   with_reducible refine (do_ways HX10.out (by have := HINV.out.ml; omega) fn _ _ _ _ _ _ _ _ _ _ HEN.out HW.out).mono ?_
   rintro e w11 ⟨rfl, hf, hm⟩
   refine ⟨_, rfl, ?_⟩
   have HF11 := am (show Fr (Gr F w2.heap.size wr.heap.size) w9 w11 from (Fr.refl _ w9).drew.step hf)
   obtain ⟨A3, n3, A4, n4, hm⟩ := hm
   have HM := am hm;have HFD := am hf;clear hm hf
   refine hK.out _ _ (hS _ (Or.inr HF11.out)) (fun hHeld => ?_)
   clear hK K hHeld
   refine rN ?_
   refine rP 9 ?_
   refine rP 10 ?_
   obtain ⟨d0, d1, d2, d3, d4, d5, z0, z1, z2, z3, z4, z5⟩ := blk6 HM.out.k
   refine rL 11 (fun K hK => ?_)
   refine skip_ (w1 := ?_) (by rfl) rfl ?_ ?_
   rotate_left
   ·
    go_simp
    rfl
   refine hK.out _ _ ?_
   clear hK K
   refine rD ?_
   clear d0 d1 d2 d3 d4 d5 z0 z1 z2 z3 z4 z5 hS
   have hro : act (fxs ⟨o0, o1, o2, o3, o4, o5, o6, o7, o8⟩) ⟨o0, o1, o2, o3, o4, o5, o6, o7, o8⟩ s'.flows s'.marks = act (fxs (opAt s')) (opAt s') s'.flows s'.marks := by rw [HO.out]
   rw [hro] at HM ⊢
   have HA1 := am (after_one fxs s')
   generalize act (fxs (opAt s')) (opAt s') s'.flows s'.marks = r at HM HA1 ⊢
   have HAL := am (after_loc s' r)
   have HAC := am (after_code s' r)
   have HAE := am (after_ended s' r)
   generalize after s' r = sa at *
   have hp1 := Mx.put (s' := { sa with fault := r.2.2 }) 5 (.int .i64 r.2.2) HM.out.k (by simp) HM.out.c HM.out.f HM.out.m HM.out.hg HM.out.hF HM.out.hc
   obtain ⟨d0, d1, d2, d3, d4, d5, z0, z1, z2, z3, z4, z5⟩ := blk6 hp1.k
   have HP1 := am hp1
   simp only at d1
   rw [HAL.out] at d1
   clear hp1 hro d0 d2 d3 d4 d5 z0 z2 z3 z4 z5
   have hmx : s'.loc + 1 ≤ 9223372036854775807 := by have := HLE.out; have := HCODE.out; have e := congrArg List.length this; omega
   have hmd : (d : Int) + 1 ≤ 9223372036854775807 := by have := HLE.out; have := HLOC.out; omega
   go_wp2_with fail
   go_roundg (gk - 1)
   case measure => have h2 := congrArg List.length HCODE.out; omega
   case rel =>
    have h2 := congrArg List.length HCODE.out
    have hp2 := Mx.put (s' := one fxs s') (cc := cc) (Af := A3) (cf := n3) (Am := A4) (cm := n4) 1 (.int .i64 (s'.loc + 1)) HP1.out.k (by rw [← HA1.out]; simp [HAC.out, HAE.out]) (by rw [one_code, ← HAC.out]; exact HP1.out.c) (by rw [← HA1.out]; exact HP1.out.f) (by rw [← HA1.out]; exact HP1.out.m) HP1.out.hg HP1.out.hF HP1.out.hc
    have hs9 := HB9.out.size;have hs11 := HFD.out.size;have hsr := HFR.out.size
    have e7 : ((w11.setCell ⟨g, 5, none⟩ (.int .i64 r.2.2)).setCell ⟨g, 1, none⟩ (.int .i64 (s'.loc + 1))).heap.size = w11.heap.size := by simp
    rw [← e7] at hp2
    refine ⟨d + 1, one fxs s', by go_num, ?_, ⟨?_, ⟨A3, n3, A4, n4, hp2.flat hsr (by simpa using hs9) (by rw [e7]; exact hs11) HX2.out.xbJ HX2.out.xbY⟩, xhW (HCODE.out ▸ HGD.out) HINV.out HG2.out, HCODE.out, HE.out, by omega, ?_, run_step HG2.out g1 HRUN.out⟩⟩
    ·
     show gk - 1 + (s'.loc + 1).toNat = _; omega
    ·
     refine ((Fr.set ?_ _ (Or.inl HX2.out.hg)).set _ (Or.inl HX2.out.hg))
     exact (HFR.out.below HB9.out).trans (HF11.out.mono (fun k _ hk => by
      rcases hk with hk | hk
      ·
       exact Or.inl hk
      ·
       exact Or.inr ⟨hk.1, by omega⟩))
    ·
     show s'.loc + 1 = _; have := HLOC.out; omega
  ·
   have hrun0 : runN fxs n.toNat s = (d, s') := by
    rw [HRUN.out]
    by_cases hdn : (d : Int) < n
    ·
     have hng : ¬ goes s' = true := fun h => hgo ⟨hdn, h⟩
     obtain ⟨k, hk2⟩ : ∃ k, n.toNat - d = k + 1 := ⟨n.toNat - d - 1, by omega⟩
     rw [hk2, runN, if_neg hng]; rfl
    ·
     rw [show n.toNat - d = 0 by have := HD.out; omega]; rfl
   have HR0 := am hrun0;clear hrun0
   have hcases : decide ((d : Int) < n) = false ∨ (decide ((d : Int) < n) = true ∧ decide (s'.loc < (s'.code.length : Int)) = false) ∨ (decide ((d : Int) < n) = true ∧ decide (s'.loc < (s'.code.length : Int)) = true ∧ (s'.fault == 0) = false) := by
    by_cases h1 : (d : Int) < n
    ·
     by_cases h2 : s'.loc < (s'.code.length : Int)
     ·
      refine Or.inr (Or.inr ⟨decide_eq_true h1, decide_eq_true h2, ?_⟩)
      rw [beq_eq_false_iff_ne]; exact fun h3 => hgo ⟨h1, xdW.2 ⟨h2, h3⟩⟩
     ·
      exact Or.inr (Or.inl ⟨decide_eq_true h1, decide_eq_false h2⟩)
    ·
     exact Or.inl (decide_eq_false h1)
   clear hgo
   obtain ⟨be, hbe, hmode⟩ : ∃ be, (ends s').ended = be ∧ (((s'.loc == (s'.code.length : Int)) = true ∧ be = true) ∨ ((s'.loc == (s'.code.length : Int)) = false ∧ (s'.fault != 0) = be)) := by
    refine ⟨_, rfl, ?_⟩
    by_cases h1 : s'.loc = (s'.code.length : Int)
    ·
     refine Or.inl ⟨by rw [beq_iff_eq]; exact h1, ?_⟩
     show (decide (s'.loc = (s'.code.length : Int)) || decide (s'.fault ≠ 0)) = true
     simp [h1]
    ·
     refine Or.inr ⟨by rw [beq_eq_false_iff_ne]; exact h1, ?_⟩
     show (s'.fault != 0) = (decide (s'.loc = (s'.code.length : Int)) || decide (s'.fault ≠ 0))
     simp only [h1, decide_false, Bool.false_or]
     by_cases h2 : s'.fault = 0
     ·
      simp [h2]
     ·
      simp [h2]
   have HBE := am hbe;have HMODE := am hmode;clear hbe hmode
   rcases hcases with q1 | ⟨q1, q2⟩ | ⟨q1, q2, q3⟩
   all_goals
    go_wp2_with fail
    go_quiet (fail)
    go_wp2_with fail
    clear q1
    first | clear q2 | skip
    first | clear q3 | skip
    have hbd : Below wr.heap.size wr (wr.drewN nq) := xaG (Below.refl _ _) _
    have HXN := am (HXM.out.below (xaK hbd))
    have HBN := am (xaK hbd)
    refine xbL (n := 21) (S := fun w' => w'.cell? ⟨g, 0, none⟩ = some (.slice Ac s'.code.length cc) ∧ w'.cell? ⟨g, 1, none⟩ = some (.int .i64 s'.loc) ∧ w'.cell? ⟨g, 5, none⟩ = some (.int .i64 s'.fault)) (ds := [20]) #[false, false, false, false, false, false, false, false, false, false, false, false, false, false, false, false, false, false, false, false, false] (by kernel_rfl) rfl rfl ⟨c0, c1, c5⟩ (fun hHeld => ?_)
    generalize (wr.drewN nq).drew = wd at *
    rcases HMODE.out with ⟨m1, m2⟩ | ⟨m1, m2⟩
    ·
     subst m2
     refine rP 0 ?_
     refine rP 1 ?_
     refine rP 2 ?_
     refine rP 3 ?_
     refine rT 4 ?_
     refine rP 5 ?_
     refine rP 6 ?_
     refine rP 7 ?_
     refine rT 8 ?_
     refine rP 9 ?_
     refine rP 10 ?_
     refine rP 11 ?_
     refine rF 12 ?_
     refine rF 13 ?_
     refine rF 14 ?_
     refine rF 15 ?_
     refine rF 16 ?_
     refine rP 17 ?_
     refine rP 18 ?_
     refine rP 19 ?_
     obtain ⟨d0, d1, d2, d3, d4, d5, z0, z1, z2, z3, z4, z5⟩ := blk6 HXN.out.k
     refine rL 20 (fun K hK => ?_)
     refine skip_ (w1 := ?_) (by rfl) rfl ?_ ?_
     rotate_left
     ·
      go_simp
      rfl
     refine hK.out _ _ ?_
     clear hK K
     refine rD ?_
     clear d0 d1 d2 d3 d4 d5 z0 z1 z2 z3 z4 z5 hHeld
     go_wp2_with fail
     have HP4 := am (Mx.put (s' := ends s') 4 (.bool true) HXN.out.k (by rw [← HBE.out]; simp [ends]) HXN.out.c HXN.out.f HXN.out.m HXN.out.hg HXN.out.hF HXN.out.hc)
     have HFN : xaA (Fr F w (wd.setCell ⟨g, 4, none⟩ (.bool true))) := ⟨((HF2.out.step HFR.out).below HBN.out).set _ (Or.inl HX2.out.hg)⟩
     have hs1 := HBN.out.size;have hs2 := HFR.out.size;have hs3 := HF2.out.size
     have hgb : b4 ≠ g := fun e => HNF.out.1 (by rw [e]; exact HX2.out.hg)
     have BN4 : xaA ((wd.setCell ⟨g, 4, none⟩ (.bool true)).heap[b4]? = some (.cells #[.int .i64 0, .bool false, .int .i64 0] 43 (0, 0))) := ⟨(Below.heap_setCell _ _ _ _ hgb).trans (xaD (HFR.out.blk B42.out HNF.out.1) HBN.out)⟩
     have e4 : (wd.setCell ⟨g, 4, none⟩ (.bool true)).heap.size = wd.heap.size := by simp
     have HSZ : xaA (w2.heap.size ≤ (wd.setCell ⟨g, 4, none⟩ (.bool true)).heap.size ∧ wr.heap.size ≤ (wd.setCell ⟨g, 4, none⟩ (.bool true)).heap.size) := ⟨by rw [e4]; omega⟩
     have hck : (wd.setCell ⟨g, 4, none⟩ (.bool true)).cell? ⟨g, 4, none⟩ = some (.bool true) := by
      have h1 := HP4.out.k
      rw [HBE.out] at h1
      exact (xaB h1 4).trans rfl
     have hcf : (wd.setCell ⟨g, 4, none⟩ (.bool true)).cell? ⟨g, 5, none⟩ = some (.int .i64 s'.fault) := (xaB HP4.out.k 5).trans rfl
     refine xbL (n := 12) (S := fun w' => w'.cell? ⟨g, 4, none⟩ = some (.bool true) ∧ w'.cell? ⟨g, 5, none⟩ = some (.int .i64 s'.fault)) (ds := [10, 11]) #[false, false, false, false, false, false, false, false, false, false, false, false] (by kernel_rfl) rfl rfl ⟨hck, hcf⟩ (fun hHeld => ?_)
     replace HP4 := am HP4.out.drew;replace HFN := am HFN.out.drew
     replace BN4 := am (xaP BN4.out)
     clear hck hcf hs1 hs2 hs3 e4
     generalize hwe : (wd.setCell ⟨g, 4, none⟩ (.bool true)).drew = we at *
     have HSE : xaA (w2.heap.size ≤ we.heap.size ∧ wr.heap.size ≤ we.heap.size) := ⟨by rw [← hwe]; exact HSZ.out⟩
     clear hwe HSZ
     refine rP 0 ?_
     refine rP 1 ?_
     refine rP 2 ?_
     refine rP 3 ?_
     refine rT 4 ?_
     refine rP 5 ?_
     refine rP 6 ?_
     refine rP 7 ?_
     refine rT 8 ?_
     refine rP 9 ?_
     obtain ⟨x0, x1, x2, y0, y1, y2⟩ := blk3 BN4
     refine rL 10 (fun K hK => ?_)
     refine skip_ (w1 := ?_) (by rfl) rfl ?_ ?_
     rotate_left
     ·
      go_simp
      rfl
     refine hK.out _ _ ?_
     clear hK K
     refine rL 11 (fun K hK => ?_)
     refine xbP (w1 := ?_) (v := ?_) (by rfl) rfl ?_ ?_
     rotate_left 2
     ·
      go_simp
      constructor
      ·
       rfl
      ·
       rfl
     refine hK.out _ _ ?_
     clear hK K
     refine rN ?_
     refine rD ?_
     clear x0 x1 x2 y0 y1 y2 hHeld
     go_wp2_with fail
     have q1 : (we.setCell ⟨b4, 0, none⟩ (.int .i64 (d : Int))).heap[b4]? = some (.cells #[.int .i64 (d : Int), .bool false, .int .i64 0] 43 (0, 0)) := xaN BN4.out 0 _ rfl
     have q2 : ((we.setCell ⟨b4, 0, none⟩ (.int .i64 (d : Int))).setCell ⟨b4, 1, none⟩ (.bool true)).heap[b4]? = some (.cells #[.int .i64 (d : Int), .bool true, .int .i64 0] 43 (0, 0)) := xaN q1 1 _ rfl
     have q3 : xaA ((((we.setCell ⟨b4, 0, none⟩ (.int .i64 (d : Int))).setCell ⟨b4, 1, none⟩ (.bool true)).setCell ⟨b4, 2, none⟩ (.int .i64 s'.fault)).heap[b4]? = some (.cells #[.int .i64 (d : Int), .bool true, .int .i64 s'.fault] 43 (0, 0))) := ⟨xaN q2 2 _ rfl⟩
     have HX6 := am (((HP4.out.out BN4.out (by decide) (by decide) (by decide) (by decide) 0 (.int .i64 (d : Int))).out q1 (by decide) (by decide) (by decide) (by decide) 1 (.bool true)).out q2 (by decide) (by decide) (by decide) (by decide) 2 (.int .i64 s'.fault))
     have hbw : F b4 ∨ w.heap.size ≤ b4 := Or.inr (by have := HB4.out; omega)
     have HF6 := am (((HFN.out.set (p := ⟨b4, 0, none⟩) (.int .i64 (d : Int)) hbw).set (p := ⟨b4, 1, none⟩) (.bool true) hbw).set (p := ⟨b4, 2, none⟩) (.int .i64 s'.fault) hbw)
     have e6 : (((we.setCell ⟨b4, 0, none⟩ (.int .i64 (d : Int))).setCell ⟨b4, 1, none⟩ (.bool true)).setCell ⟨b4, 2, none⟩ (.int .i64 s'.fault)).heap.size = we.heap.size := by simp
     have hse := HSE.out
     rw [← e6] at hse
     clear q1 q2 e6
     generalize ((we.setCell ⟨b4, 0, none⟩ (.int .i64 (d : Int))).setCell ⟨b4, 1, none⟩ (.bool true)).setCell ⟨b4, 2, none⟩ (.int .i64 s'.fault) = w9 at *
     obtain ⟨r0, r1, r2, y0, y1, y2⟩ := blk3 q3
     clear y0 y1 y2
     refine bodyPost_ret (v := .tuple #[.agg #[.int .i64 (d : Int), .bool true, .int .i64 s'.fault], .int .i64 0]) (by simp [results, Tryz.results16, go_sem, r0, r1, r2]) rfl ?_
     rw [HR0.out]
     simp only [HBE.out]
     exact ⟨by first | rfl | trivial, HF6.out, A1, n1, A2, n2, (HX6.out.up hse.2 HX2.out.xbJ HX2.out.xbY).grow HF2.out.size hse.1 HX.out.xbJ HX.out.xbY⟩
    ·
     refine rP 0 ?_
     refine rP 1 ?_
     refine rP 2 ?_
     refine rP 3 ?_
     refine rT 4 ?_
     refine rP 5 ?_
     refine rP 6 ?_
     refine rP 7 ?_
     refine rT 8 ?_
     refine rP 9 ?_
     refine rP 10 ?_
     refine rP 11 ?_
     refine rP 12 ?_
     refine rP 13 ?_
     refine rP 14 ?_
     refine rT 15 ?_
     refine rP 16 ?_
     refine rP 17 ?_
     refine rP 18 ?_
     refine rP 19 ?_
     obtain ⟨d0, d1, d2, d3, d4, d5, z0, z1, z2, z3, z4, z5⟩ := blk6 HXN.out.k
     refine rL 20 (fun K hK => ?_)
     refine skip_ (w1 := ?_) (by rfl) rfl ?_ ?_
     rotate_left
     ·
      go_simp
      rfl
     refine hK.out _ _ ?_
     clear hK K
     refine rD ?_
     clear d0 d1 d2 d3 d4 d5 z0 z1 z2 z3 z4 z5 hHeld
     go_wp2_with fail
     have HP4 := am (Mx.put (s' := ends s') 4 (.bool be) HXN.out.k (by rw [← HBE.out]; simp [ends]) HXN.out.c HXN.out.f HXN.out.m HXN.out.hg HXN.out.hF HXN.out.hc)
     have HFN : xaA (Fr F w (wd.setCell ⟨g, 4, none⟩ (.bool be))) := ⟨((HF2.out.step HFR.out).below HBN.out).set _ (Or.inl HX2.out.hg)⟩
     have hs1 := HBN.out.size;have hs2 := HFR.out.size;have hs3 := HF2.out.size
     have hgb : b4 ≠ g := fun e => HNF.out.1 (by rw [e]; exact HX2.out.hg)
     have BN4 : xaA ((wd.setCell ⟨g, 4, none⟩ (.bool be)).heap[b4]? = some (.cells #[.int .i64 0, .bool false, .int .i64 0] 43 (0, 0))) := ⟨(Below.heap_setCell _ _ _ _ hgb).trans (xaD (HFR.out.blk B42.out HNF.out.1) HBN.out)⟩
     have e4 : (wd.setCell ⟨g, 4, none⟩ (.bool be)).heap.size = wd.heap.size := by simp
     have HSZ : xaA (w2.heap.size ≤ (wd.setCell ⟨g, 4, none⟩ (.bool be)).heap.size ∧ wr.heap.size ≤ (wd.setCell ⟨g, 4, none⟩ (.bool be)).heap.size) := ⟨by rw [e4]; omega⟩
     have hck : (wd.setCell ⟨g, 4, none⟩ (.bool be)).cell? ⟨g, 4, none⟩ = some (.bool be) := by
      have h1 := HP4.out.k
      rw [HBE.out] at h1
      exact (xaB h1 4).trans rfl
     have hcf : (wd.setCell ⟨g, 4, none⟩ (.bool be)).cell? ⟨g, 5, none⟩ = some (.int .i64 s'.fault) := (xaB HP4.out.k 5).trans rfl
     refine xbL (n := 12) (S := fun w' => w'.cell? ⟨g, 4, none⟩ = some (.bool be) ∧ w'.cell? ⟨g, 5, none⟩ = some (.int .i64 s'.fault)) (ds := [10, 11]) #[false, false, false, false, false, false, false, false, false, false, false, false] (by kernel_rfl) rfl rfl ⟨hck, hcf⟩ (fun hHeld => ?_)
     replace HP4 := am HP4.out.drew;replace HFN := am HFN.out.drew
     replace BN4 := am (xaP BN4.out)
     clear hck hcf hs1 hs2 hs3 e4
     generalize hwe : (wd.setCell ⟨g, 4, none⟩ (.bool be)).drew = we at *
     have HSE : xaA (w2.heap.size ≤ we.heap.size ∧ wr.heap.size ≤ we.heap.size) := ⟨by rw [← hwe]; exact HSZ.out⟩
     clear hwe HSZ
     refine rP 0 ?_
     refine rP 1 ?_
     refine rP 2 ?_
     refine rP 3 ?_
     refine rT 4 ?_
     refine rP 5 ?_
     refine rP 6 ?_
     refine rP 7 ?_
     refine rT 8 ?_
     refine rP 9 ?_
     obtain ⟨x0, x1, x2, y0, y1, y2⟩ := blk3 BN4
     refine rL 10 (fun K hK => ?_)
     refine skip_ (w1 := ?_) (by rfl) rfl ?_ ?_
     rotate_left
     ·
      go_simp
      rfl
     refine hK.out _ _ ?_
     clear hK K
     refine rL 11 (fun K hK => ?_)
     refine xbP (w1 := ?_) (v := ?_) (by rfl) rfl ?_ ?_
     rotate_left 2
     ·
      go_simp
      constructor
      ·
       rfl
      ·
       rfl
     refine hK.out _ _ ?_
     clear hK K
     refine rN ?_
     refine rD ?_
     clear x0 x1 x2 y0 y1 y2 hHeld
     go_wp2_with fail
     have q1 : (we.setCell ⟨b4, 0, none⟩ (.int .i64 (d : Int))).heap[b4]? = some (.cells #[.int .i64 (d : Int), .bool false, .int .i64 0] 43 (0, 0)) := xaN BN4.out 0 _ rfl
     have q2 : ((we.setCell ⟨b4, 0, none⟩ (.int .i64 (d : Int))).setCell ⟨b4, 1, none⟩ (.bool be)).heap[b4]? = some (.cells #[.int .i64 (d : Int), .bool be, .int .i64 0] 43 (0, 0)) := xaN q1 1 _ rfl
     have q3 : xaA ((((we.setCell ⟨b4, 0, none⟩ (.int .i64 (d : Int))).setCell ⟨b4, 1, none⟩ (.bool be)).setCell ⟨b4, 2, none⟩ (.int .i64 s'.fault)).heap[b4]? = some (.cells #[.int .i64 (d : Int), .bool be, .int .i64 s'.fault] 43 (0, 0))) := ⟨xaN q2 2 _ rfl⟩
     have HX6 := am (((HP4.out.out BN4.out (by decide) (by decide) (by decide) (by decide) 0 (.int .i64 (d : Int))).out q1 (by decide) (by decide) (by decide) (by decide) 1 (.bool be)).out q2 (by decide) (by decide) (by decide) (by decide) 2 (.int .i64 s'.fault))
     have hbw : F b4 ∨ w.heap.size ≤ b4 := Or.inr (by have := HB4.out; omega)
     have HF6 := am (((HFN.out.set (p := ⟨b4, 0, none⟩) (.int .i64 (d : Int)) hbw).set (p := ⟨b4, 1, none⟩) (.bool be) hbw).set (p := ⟨b4, 2, none⟩) (.int .i64 s'.fault) hbw)
     have e6 : (((we.setCell ⟨b4, 0, none⟩ (.int .i64 (d : Int))).setCell ⟨b4, 1, none⟩ (.bool be)).setCell ⟨b4, 2, none⟩ (.int .i64 s'.fault)).heap.size = we.heap.size := by simp
     have hse := HSE.out
     rw [← e6] at hse
     clear q1 q2 e6
     generalize ((we.setCell ⟨b4, 0, none⟩ (.int .i64 (d : Int))).setCell ⟨b4, 1, none⟩ (.bool be)).setCell ⟨b4, 2, none⟩ (.int .i64 s'.fault) = w9 at *
     obtain ⟨r0, r1, r2, y0, y1, y2⟩ := blk3 q3
     clear y0 y1 y2
     refine bodyPost_ret (v := .tuple #[.agg #[.int .i64 (d : Int), .bool be, .int .i64 s'.fault], .int .i64 0]) (by simp [results, Tryz.results16, go_sem, r0, r1, r2]) rfl ?_
     rw [HR0.out]
     simp only [HBE.out]
     exact ⟨by first | rfl | trivial, HF6.out, A1, n1, A2, n2, (HX6.out.up hse.2 HX2.out.xbJ HX2.out.xbY).grow HF2.out.size hse.1 HX.out.xbJ HX.out.xbY⟩
end
def stepV (r : Prog × Int × St) : Value := .tuple #[.agg #[.int .i64 r.1.done, .bool r.1.ended, .int .i64 r.1.fault], .int .i64 r.2.1]
section
variable {w : World} {base g : Nat} {F : Nat → Prop} {Ac : Option Addr} {cc : Nat} {Af : Option Addr} {cf : Nat} {Am : Option Addr} {cm : Nat} {s : St} {fxs : S37 → List S48 × Int}
theorem xkU (h : Mx w base g F Ac cc Af cf Am cm s) (n er : Int) (hc : (s.ended = true ∧ er = 190) ∨ (s.ended = false ∧ n < 1 ∧ er = 1)) :
  Calls Tryz.prog 16 #[.pointer (some ⟨g, 0, none⟩), .int .i64 n] w fun e w' => e = .returned (.tuple #[.agg #[.int .i64 0, .bool false, .int .i64 0], .int .i64 er]) ∧ Below w.heap.size w w' := by
 have HX1 := am (h.alloc (.cells #[.int .i64 0, .bool false, .int .i64 0] 43))
 have B4 := am (xbF w (.cells #[.int .i64 0, .bool false, .int .i64 0] 43))
 obtain ⟨c0, c1, c2, c3, c4, c5, z0, z1, z2, z3, z4, z5⟩ := blk6 HX1.out.k
 obtain ⟨x0, x1, x2, y0, y1, y2⟩ := blk3 B4
 clear c0 c1 c2 c3 c5 z0 z1 z2 z3 z4 z5 h HX1 B4
 have HB := am (xaH (Below.refl w.heap.size w) (.cells #[.int .i64 0, .bool false, .int .i64 0] 43))
 have r0 := xaN (xbF w (.cells #[.int .i64 0, .bool false, .int .i64 0] 43)) 0 (.int .i64 0) (cs' := #[.int .i64 0, .bool false, .int .i64 0]) rfl
 rcases hc with ⟨he, rfl⟩ | ⟨he, hn, rfl⟩
 ·
  rw [he] at c4
  clear he
  go_enter Tryz.func16, Tryz.ntmps16
  go_wp2_with fail
  refine bodyPost_ret (v := .tuple #[.agg #[.int .i64 0, .bool false, .int .i64 0], .int .i64 190]) ?_ rfl ⟨rfl, ?_⟩
  ·
   simp [results, Tryz.results16, go_sem]
  ·
   exact HB.out
 ·
  rw [he] at c4
  have t0 : decide (n < 1) = true := decide_eq_true hn
  clear he hn
  go_enter Tryz.func16, Tryz.ntmps16
  go_wp2_with fail
  refine bodyPost_ret (v := .tuple #[.agg #[.int .i64 0, .bool false, .int .i64 0], .int .i64 1]) ?_ rfl ⟨rfl, ?_⟩
  ·
   simp [results, Tryz.results16, go_sem]
  ·
   exact HB.out
theorem Mx.over {w' : World} (h : Mx w base g F Ac cc Af cf Am cm s) (hb : Below w.heap.size w w') : Mx w' base g (Gr F w.heap.size w'.heap.size) Ac cc Af cf Am cm s :=
  (h.below hb).mono (fun k hk => Or.inl hk) (gr_bd h.hF h.xbJ hb.size) (h.hc_gr _)
theorem step_ok (h : Mx w base g F Ac cc Af cf Am cm s) (hg : Good fxs s.code) (hi : Inv s) (n : Int) (hn1 : n ≤ 9223372036854775807) :
  Calls Tryz.prog 16 #[.pointer (some ⟨g, 0, none⟩), .int .i64 n] w fun e w' => e = .returned (stepV (stepM fxs s n)) ∧ Fr F w w' ∧ ∃ A1 c1 A2 c2, Mx w' base g (Gr F w.heap.size w'.heap.size) Ac cc A1 c1 A2 c2 (stepM fxs s n).2.2 := by
 by_cases he : s.ended = true
 ·
  unfold stepM; rw [if_pos he]
  refine (xkU h n 190 (Or.inl ⟨he, rfl⟩)).mono ?_
  rintro e w' ⟨rfl, hb⟩
  exact ⟨rfl, (Fr.refl _ _).below hb, _, _, _, _, h.over hb⟩
 ·
  have he' := Bool.eq_false_iff.2 he
  unfold stepM; rw [if_neg he]
  by_cases hn : n < 1
  ·
   rw [if_pos hn]
   refine (xkU h n 1 (Or.inr ⟨he', hn, rfl⟩)).mono ?_
   rintro e w' ⟨rfl, hb⟩
   exact ⟨rfl, (Fr.refl _ _).below hb, _, _, _, _, h.over hb⟩
  ·
   rw [if_neg hn]
   refine (step_run h hg hi n (by omega) hn1 he').mono ?_
   rintro e w' ⟨rfl, hf, hm⟩
   exact ⟨rfl, hf, hm⟩
theorem xhC (hg : Good fxs s.code) (hi : Inv s) (n : Int) : Inv (stepM fxs s n).2.2 ∧ (stepM fxs s n).2.2.code = s.code := by
 unfold stepM
 by_cases he : s.ended = true
 ·
  rw [if_pos he]; exact ⟨hi, rfl⟩
 ·
  rw [if_neg he]
  by_cases hn : n < 1
  ·
   rw [if_pos hn]; exact ⟨hi, rfl⟩
  ·
   rw [if_neg hn]
   obtain ⟨h1, h2, _⟩ := xhQ n.toNat s hg hi
   exact ⟨ends_inv h1, h2⟩
end
section
variable {w : World} {base g : Nat} {F : Nat → Prop} {Ac : Option Addr} {cc : Nat} {Af : Option Addr} {cf : Nat} {Am : Option Addr} {cm : Nat} {s : St}
theorem copy_ok (h : Mx w base g F Ac cc Af cf Am cm s) (hi : Inv s) :
  Calls Tryz.prog 19 #[.pointer (some ⟨g, 0, none⟩)] w fun e w' => ∃ gn A1 c1 A2 c2, e = .returned (.pointer (some ⟨gn, 0, none⟩)) ∧ Below w.heap.size w w' ∧ Mx w' base gn (fun k => w.heap.size ≤ k ∧ k < w'.heap.size) Ac cc A1 c1 A2 c2 s := by
 have HX := am h;have HI := am hi
 have HX1 := am (HX.out.alloc (.cells #[.slice Ac s.code.length cc, .int .i64 s.loc, .slice Af s.flows.length cf, .slice Am s.marks.length cm, .bool s.ended, .int .i64 s.fault] 85))
 have B3 := am (xbF w (.cells #[.slice Ac s.code.length cc, .int .i64 s.loc, .slice Af s.flows.length cf, .slice Am s.marks.length cm, .bool s.ended, .int .i64 s.fault] 85))
 have HB1 := am (xaH (Below.refl w.heap.size w) (.cells #[.slice Ac s.code.length cc, .int .i64 s.loc, .slice Af s.flows.length cf, .slice Am s.marks.length cm, .bool s.ended, .int .i64 s.fault] 85))
 obtain ⟨c0, c1, c2, c3, c4, c5, z0, z1, z2, z3, z4, z5⟩ := blk6 HX.out.k
 clear z0 z1 z2 z3 z4 z5 h hi
 go_enter Tryz.func19, Tryz.ntmps19
 go_wp2_with fail
 clear c0 c1 c2 c3 c4 c5
 obtain ⟨gn, hgn⟩ : ∃ b, b = w.heap.size := ⟨_, rfl⟩
 rw [← hgn] at B3 ⊢
 have HGN := am hgn;clear hgn
 have hS : ∀ w' : World, Below w.heap.size w w' → w'.cell? ⟨g, 2, none⟩ = some (.slice Af s.flows.length cf) ∧ w'.cell? ⟨g, 3, none⟩ = some (.slice Am s.marks.length cm) := fun w' hb => ⟨(xaB (HX.out.below hb).k 2).trans rfl, (xaB (HX.out.below hb).k 3).trans rfl⟩
 refine xbL (n := 14) (S := fun w' => w'.cell? ⟨g, 2, none⟩ = some (.slice Af s.flows.length cf) ∧ w'.cell? ⟨g, 3, none⟩ = some (.slice Am s.marks.length cm)) (ds := [11, 13]) #[false, false, false, false, false, false, false, false, false, false, false, false, false, false] (by kernel_rfl) rfl rfl (hS _ (xaK HB1.out)) (fun hHeld => ?_)
 replace B3 := am (xaP B3.out)
 replace HB1 := am (xaK HB1.out)
 have HLT := am (xaM B3.out)
 generalize (w.alloc (.cells #[.slice Ac s.code.length cc, .int .i64 s.loc, .slice Af s.flows.length cf, .slice Am s.marks.length cm, .bool s.ended, .int .i64 s.fault] 85)).drew = w1 at *
 refine rP 0 ?_
 refine rP 1 ?_
 refine rP 2 ?_
 refine rT 3 ?_
 refine rP 5 ?_
 refine rP 6 ?_
 refine rP 7 ?_
 refine rT 8 ?_
 refine rO 4 (fun K hK => ?_)
 refine goes_ Tryz.func36 (by kernel_rfl) rfl #[.slice Af s.flows.length cf] (by rfl) rfl rfl (by (try simp only [List.map_toArray, List.map_cons, List.map_nil]); first | done | rfl) ?_
 with_reducible refine (xjD _ _ _ _ (HX.out.below HB1.out).f.C (by have := HI.out.ok.len; omega)).mono ?_
 rintro e w2 ⟨v, rfl, hr, hb⟩
 obtain ⟨A1, k1, rfl, hs⟩ := Sl.of_R hr
 refine ⟨_, rfl, ?_⟩
 have HS1 := am hs.new
 have HB2 := am (HB1.out.trans (hb.mono HB1.out.size))
 replace B3 := am (xaD B3.out hb)
 have HZ2 := am hb.size;clear hr hs hb
 refine hK.out _ _ (hS _ HB2.out) (fun hHeld => ?_)
 clear hK K hHeld
 refine rN ?_
 refine rO 9 (fun K hK => ?_)
 refine goes_ Tryz.func38 (by kernel_rfl) rfl #[.slice Am s.marks.length cm] (by rfl) rfl rfl (by (try simp only [List.map_toArray, List.map_cons, List.map_nil]); first | done | rfl) ?_
 with_reducible refine (xeP _ _ _ _ (HX.out.below HB2.out).m.C (by have := HI.out.ml; omega)).mono ?_
 rintro e w3 ⟨v, rfl, hr, hb⟩
 obtain ⟨A2, k2, rfl, hs⟩ := Sl.of_R hr
 refine ⟨_, rfl, ?_⟩
 have HS2 := am hs.new
 have HB3 := am (HB2.out.trans (hb.mono HB2.out.size))
 replace B3 := am (xaD B3.out hb)
 replace HS1 := am (HS1.out.below hb)
 have HZ3 := am hb.size;clear hr hs hb
 refine hK.out _ _ (hS _ HB3.out) (fun hHeld => ?_)
 clear hK K hHeld hS
 refine rN ?_
 refine rP 10 ?_
 obtain ⟨d0, d1, d2, d3, d4, d5, z0, z1, z2, z3, z4, z5⟩ := blk6 B3.out
 refine rL 11 (fun K hK => ?_)
 refine skip_ (w1 := ?_) (by rfl) rfl ?_ ?_
 rotate_left
 ·
  go_simp
  rfl
 refine hK.out _ _ ?_
 clear hK K d0 d1 d2 d3 d4 d5 z0 z1 z2 z3 z4 z5
 have hp1 : (w3.setCell ⟨gn, 2, none⟩ (.slice A1 s.flows.length k1)).heap[gn]? = some (.cells #[.slice Ac s.code.length cc, .int .i64 s.loc, .slice A1 s.flows.length k1, .slice Am s.marks.length cm, .bool s.ended, .int .i64 s.fault] 85 (0, 0)) := xaN B3.out 2 _ rfl
 refine rP 12 ?_
 obtain ⟨d0, d1, d2, d3, d4, d5, z0, z1, z2, z3, z4, z5⟩ := blk6 hp1
 refine rL 13 (fun K hK => ?_)
 refine skip_ (w1 := ?_) (by rfl) rfl ?_ ?_
 rotate_left
 ·
  go_simp
  rfl
 refine hK.out _ _ ?_
 clear hK K d0 d1 d2 d3 d4 d5 z0 z1 z2 z3 z4 z5
 refine rD ?_
 have HP1 := am hp1;clear hp1
 go_wp2_with fail
 go_ret
 have e1 : w.heap.size = gn := HGN.out.symm
 have e2 : ((w3.setCell ⟨gn, 2, none⟩ (.slice A1 s.flows.length k1)).setCell ⟨gn, 3, none⟩ (.slice A2 s.marks.length k2)).heap.size = w3.heap.size := by simp
 have hz := HLT.out;have hz2 := HZ2.out;have hz3 := HZ3.out;have hbs := HX.out.xbJ
 refine ⟨gn, A1, k1, A2, k2, rfl, xaF (xaF HB3.out (by omega)) (by omega), ?_⟩
 have h1 := Mx.put (s' := s) (base := base) (F := fun k => w.heap.size ≤ k ∧ k < w3.heap.size) (cc := cc) (Af := A1) (cf := k1) (Am := A2) (cm := k2) 3 (.slice A2 s.marks.length k2) HP1.out rfl ((HX.out.below HB3.out).c.set B3.out (by decide) _ _) (((HS1.out.xlB (by omega)).set B3.out (by decide) _ _).mono (fun k hk hk2 => ⟨by omega, by simpa using hk2⟩)) (((HS2.out.xlB (by omega)).set B3.out (by decide) _ _).mono (fun k hk hk2 => ⟨by omega, by simpa using hk2⟩)) ⟨by omega, by omega⟩ (fun k hk => ⟨by omega, by simpa using hk.2⟩) (fun k hk hF => by have := HX.out.xbY k hk; omega)
 rw [e2]
 exact h1
end
end Go.Proofs.YtkabcgmegljebaaGreatDoor.H
