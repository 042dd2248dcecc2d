/- The document's Step, whatever the machine; the program's machine and the document's beside each other. No condition. -/
import Derived.Test.YtkabcgmegljebaaGreatDoorRGA
import Derived.Test.YtkabcgmegljebaaGreatDoorRGU
import Derived.Test.YtkabcgmegljebaaGreatDoorRGR
set_option linter.unusedVariables false
set_option linter.unusedSimpArgs false
namespace Go.Proofs.YtkabcgmegljebaaGreatDoor.D
open Go.RowKit Go.Proofs.YtkabcgmegljebaaGreatDoorW.PrintWords Go.Proofs.YtkabcgmegljebaaGreatDoorW.PrintLast Go.Proofs.YtkabcgmegljebaaGreatDoorW.PrintMore
open Go.Proofs.YtkabcgmegljebaaGreatDoor.Q Go.Proofs.YtkabcgmegljebaaGreatDoor.H
theorem run_bit : ∀ (k : Nat) (s : St), H.Good fixF s.code → H.Inv s → CodeW s.code → Bit s.flows → Bit (H.runN fixF k s).2.flows
 | 0, _, _, _, _, hb => hb
 | k + 1, s, hg, hi, hw, hb => by
  unfold H.runN
  by_cases h : goes s = true
  ·
   rw [if_pos h]
   exact run_bit k (H.one fixF s) hg (xhW hg hi h) hw (one_bit hg hi hw h hb)
  ·
   rw [if_neg h]; exact hb
structure OkM (l : List S37) (s : St) : Prop where
 code : s.code = l
 inv : H.Inv s
 bit : Bit s.flows
 off : s.ended = false → s.fault = 0
theorem OkM.step {l : List S37} {s : St} (h : OkM l s) (hg : H.Good fixF l) (hw : CodeW l) (n : Int) : OkM l (stepM fixF s n).2.2 := by
 have hg' : H.Good fixF s.code := by rw [h.code]; exact hg
 have hi := xhC (fxs := fixF) hg' h.inv n
 refine ⟨hi.2.trans h.code, hi.1, ?_, ?_⟩
 ·
  unfold stepM
  split
  ·
   exact h.bit
  ·
   split
   ·
    exact h.bit
   ·
    exact run_bit _ s hg' h.inv (by rw [h.code]; exact hw) h.bit
 ·
  unfold stepM
  split
  ·
   exact h.off
  ·
   split
   ·
    exact h.off
   ·
    intro he
    have h1 : (decide ((H.runN fixF n.toNat s).2.loc = ((H.runN fixF n.toNat s).2.code.length : Int)) || decide ((H.runN fixF n.toNat s).2.fault ≠ 0)) = false := he
    rw [Bool.or_eq_false_iff] at h1
    have h2 := of_decide_eq_false h1.2
    show (H.runN fixF n.toNat s).2.fault = 0
    omega
theorem stepD_c {w : World} {base : Nat} {F : Nat → Prop} {Al Af Am : Option Addr} {cl cf cm : Nat} {s : St} {l : List S37} (h : Dm w base F Al cl Af cf Am cm s) (ho : OkM l s) (hg : H.Good fixF l) (hw : CodeW l) (n : Int) (hn : n ≤ 9223372036854775807) :
  Calls Tryz.prog 20 #[mV Al cl Af cf Am cm s, .int .i64 n] w fun e w' => ∃ Af' cf' Am' cm', e = .returned (.tuple #[mV Al cl Af' cf' Am' cm' (stepM fixF s n).2.2, .agg #[.int .i64 (stepM fixF s n).1.done, .bool (stepM fixF s n).1.ended, .int .i64 (stepM fixF s n).1.fault], .int .i64 (stepM fixF s n).2.1]) ∧ Dm w' base (Gr F w.heap.size w'.heap.size) Al cl Af' cf' Am' cm' (stepM fixF s n).2.2 ∧ Fr F w w' := by
 have hno : ∀ er : Int, (s.ended = true ∧ er = 190) ∨ (s.ended = false ∧ n < 1 ∧ er = 1) → stepM fixF s n = (⟨0, false, 0⟩, er, s) → Calls Tryz.prog 20 #[mV Al cl Af cf Am cm s, .int .i64 n] w fun e w' => ∃ Af' cf' Am' cm', e = .returned (.tuple #[mV Al cl Af' cf' Am' cm' (stepM fixF s n).2.2, .agg #[.int .i64 (stepM fixF s n).1.done, .bool (stepM fixF s n).1.ended, .int .i64 (stepM fixF s n).1.fault], .int .i64 (stepM fixF s n).2.1]) ∧ Dm w' base (Gr F w.heap.size w'.heap.size) Al cl Af' cf' Am' cm' (stepM fixF s n).2.2 ∧ Fr F w w' := fun er hc e => by
  rw [e]
  refine (step_no h n er hc).mono ?_
  rintro e w' ⟨rfl, hb⟩
  exact ⟨Af, cf, Am, cm, rfl, (h.below hb).upto (fun k hk => Or.inl hk) h.hF h.hb hb.size (fun k hk => ⟨h.hc k hk, h.xbY k hk⟩), (Fr.refl _ _).below hb⟩
 by_cases he : s.ended = true
 ·
  exact hno 190 (Or.inl ⟨he, rfl⟩) (by unfold stepM; rw [if_pos he])
 ·
  have he' : s.ended = false := by simpa using he
  by_cases h1 : n < 1
  ·
   exact hno 1 (Or.inr ⟨he', h1, rfl⟩) (by unfold stepM; rw [if_neg he, if_pos h1])
  ·
   have e : stepM fixF s n = (⟨(H.runN fixF n.toNat s).1, (ends (H.runN fixF n.toNat s).2).ended, (H.runN fixF n.toNat s).2.fault⟩, 0, ends (H.runN fixF n.toNat s).2) := by unfold stepM; rw [if_neg he, if_neg h1]
   rw [e]
   exact step_go h (by rw [ho.code]; exact hg) ho.inv (by rw [ho.code]; exact hw) he' (ho.off he') ho.bit n n.toNat (by omega) (by omega)
structure Bo (n0 : Nat) (w : World) (d gn : Nat) (F F2 : Nat → Prop) (Ac : Option Addr) (cc : Nat) (Af : Option Addr) (cf : Nat) (Am : Option Addr) (cm : Nat) (Al : Option Addr) (cl : Nat) (Bf : Option Addr) (df : Nat) (Bm : Option Addr) (dm : Nat) (s t : St) : Prop where
 m : Mx w n0 gn F Ac cc Af cf Am cm s
 dc : Dm w n0 F2 Al cl Bf df Bm dm t
 nd : ¬ F d ∧ ¬ F2 d ∧ d < w.heap.size ∧ n0 ≤ d
 dis : ∀ k, F k → ¬ F2 k
 cA : ∀ k, own Ac k → ¬ F2 k ∧ k ≠ d
 cB : ∀ k, own Al k → ¬ F k ∧ k ≠ d
section
variable {n0 : Nat} {w w1 : World} {d gn : Nat} {F F2 : Nat → Prop} {Ac : Option Addr} {cc : Nat} {Af : Option Addr} {cf : Nat} {Am : Option Addr} {cm : Nat} {Al : Option Addr} {cl : Nat} {Bf : Option Addr} {df : Nat} {Bm : Option Addr} {dm : Nat} {s t s' : St} {A1 A2 : Option Addr} {c1 c2 : Nat}
theorem Bo.below (h : Bo n0 w d gn F F2 Ac cc Af cf Am cm Al cl Bf df Bm dm s t) (hb : Below w.heap.size w w1) : Bo n0 w1 d gn F F2 Ac cc Af cf Am cm Al cl Bf df Bm dm s t :=
  ⟨h.m.below hb, h.dc.below hb, ⟨h.nd.1, h.nd.2.1, Nat.lt_of_lt_of_le h.nd.2.2.1 hb.size, h.nd.2.2.2⟩, h.dis, h.cA, h.cB⟩
theorem Bo.prog (h : Bo n0 w d gn F F2 Ac cc Af cf Am cm Al cl Bf df Bm dm s t) (hf : Fr F w w1) (hm : Mx w1 n0 gn (Gr F w.heap.size w1.heap.size) Ac cc A1 c1 A2 c2 s') : Bo n0 w1 d gn (Gr F w.heap.size w1.heap.size) F2 Ac cc A1 c1 A2 c2 Al cl Bf df Bm dm s' t :=
  ⟨hm, h.dc.other hf (fun k hk hk2 => h.dis k hk2 hk) (fun k hk => (h.cB k hk).1), ⟨fun hg => hg.elim h.nd.1 (fun h1 => by have := h.nd.2.2.1; omega), h.nd.2.1, Nat.lt_of_lt_of_le h.nd.2.2.1 hf.size, h.nd.2.2.2⟩, fun k hk hk2 => hk.elim (fun h1 => h.dis k h1 hk2) (fun h1 => by have := (h.dc.hF k hk2).2; omega), h.cA, fun k hk => ⟨fun hg => hg.elim (h.cB k hk).1 (fun h1 => by have := h.dc.xbY k hk; omega), (h.cB k hk).2⟩⟩
theorem Bo.doc (h : Bo n0 w d gn F F2 Ac cc Af cf Am cm Al cl Bf df Bm dm s t) (hf : Fr F2 w w1) (hd : Dm w1 n0 (Gr F2 w.heap.size w1.heap.size) Al cl A1 c1 A2 c2 s') : Bo n0 w1 d gn F (Gr F2 w.heap.size w1.heap.size) Ac cc Af cf Am cm Al cl A1 c1 A2 c2 s s' :=
  ⟨h.m.other hf (fun k hk => h.dis k hk) (fun k hk => (h.cA k hk).1), hd, ⟨h.nd.1, fun hg => hg.elim h.nd.2.1 (fun h1 => by have := h.nd.2.2.1; omega), Nat.lt_of_lt_of_le h.nd.2.2.1 hf.size, h.nd.2.2.2⟩, fun k hk hk2 => hk2.elim (h.dis k hk) (fun h1 => by have := (h.m.hF k hk).2; omega), fun k hk => ⟨fun hg => hg.elim (h.cA k hk).1 (fun h1 => by have := h.m.xbY k hk; omega), (h.cA k hk).2⟩, h.cB⟩
theorem Bo.copy {g2 : Nat} (h : Bo n0 w d gn F F2 Ac cc Af cf Am cm Al cl Bf df Bm dm s t) (hb : Below w.heap.size w w1) (hm : Mx w1 n0 g2 (fun k => w.heap.size ≤ k ∧ k < w1.heap.size) Ac cc A1 c1 A2 c2 s) : Bo n0 w1 d g2 (fun k => w.heap.size ≤ k ∧ k < w1.heap.size) F2 Ac cc A1 c1 A2 c2 Al cl Bf df Bm dm s t :=
  ⟨hm, h.dc.below hb, ⟨fun h1 => by have := h.nd.2.2.1; omega, h.nd.2.1, Nat.lt_of_lt_of_le h.nd.2.2.1 hb.size, h.nd.2.2.2⟩, fun k hk hk2 => by have := (h.dc.hF k hk2).2; omega, h.cA, fun k hk => ⟨fun h1 => by have := h.dc.xbY k hk; omega, (h.cB k hk).2⟩⟩
theorem Bo.put (h : Bo n0 w d gn F F2 Ac cc Af cf Am cm Al cl Bf df Bm dm s t) (hf : Fr (fun k => k = d) w w1) : Bo n0 w1 d gn F F2 Ac cc Af cf Am cm Al cl Bf df Bm dm s t :=
  ⟨h.m.other hf (fun k hk e => by subst e; exact h.nd.1 hk) (fun k hk e => (h.cA k hk).2 e), h.dc.other hf (fun k hk e => by subst e; exact h.nd.2.1 hk) (fun k hk e => (h.cB k hk).2 e), ⟨h.nd.1, h.nd.2.1, Nat.lt_of_lt_of_le h.nd.2.2.1 hf.size, h.nd.2.2.2⟩, h.dis, h.cA, h.cB⟩
theorem Bo.setg {b ty : Nat} {old vs : List Value} (h : Bo n0 w d gn F F2 Ac cc Af cf Am cm Al cl Bf df Bm dm s t) (hb : w.heap[b]? = some (.cells old.toArray ty (0, 0))) (t1 : 77 ≠ ty) (t2 : 79 ≠ ty) (t3 : 3 ≠ ty) (hF : ¬ F b) (hA : ∀ k, own Ac k → k ≠ b) (k0 : Nat) : Bo n0 (setL w b k0 vs) d gn F F2 Ac cc Af cf Am cm Al cl Bf df Bm dm s t := by
  have hf : Fr (fun k => k = b) w (setL w b k0 vs) := xdG (G := fun k => k = b) (Or.inl rfl) vs k0 w (Fr.refl _ _)
  exact ⟨h.m.other hf (fun k hk e => by subst e; exact hF hk) (fun k hk e => hA k hk e), ⟨xfW h.dc.l hb t1 k0, xfW h.dc.f hb t2 k0, xfW h.dc.m hb t3 k0, fun k hk => ⟨(h.dc.hF k hk).1, Nat.lt_of_lt_of_le (h.dc.hF k hk).2 hf.size⟩, Nat.le_trans h.dc.hb hf.size, h.dc.hc⟩, ⟨h.nd.1, h.nd.2.1, Nat.lt_of_lt_of_le h.nd.2.2.1 hf.size, h.nd.2.2.2⟩, h.dis, h.cA, h.cB⟩
end
theorem sameP_c (a : Int) (b : Bool) (c : Int) (w : World) : Calls Tryz.prog 23 #[.agg #[.int .i64 a, .bool b, .int .i64 c], .agg #[.int .i64 a, .bool b, .int .i64 c]] w fun e w' => e = .returned (.bool true) ∧ Below w.heap.size w w' := by
 have HB : xaA (Below w.heap.size w w) := ⟨Below.refl _ _⟩
 have t1 : (a == a) = true := beq_self_eq_true _
 have t2 : (c == c) = true := beq_self_eq_true _
 have t3 : (b == b) = true := beq_self_eq_true _
 go_enter Tryz.func23, Tryz.ntmps23
 go_upto_region 1 with (first | ((with_reducible refine xaJ (N := 2) rfl ?_); refine bxv 2 #[.int .i64 a, .bool b, .int .i64 c] 43 ?_; intro x hg w1 hbox hb; have Bx := am hbox; have HBx := HB; replace HB := am (xaC HB.out hb); have HGx := am hg; have HLx := am (xaM hbox); clear hb hbox hg) | ((with_reducible refine xaJ (N := 3) rfl ?_); refine bxv 3 #[.int .i64 a, .bool b, .int .i64 c] 56 ?_; intro y hg w2 hbox hb; have By := am hbox; replace Bx := am (xaD Bx.out hb); have HBy := HB; replace HB := am (xaC HB.out hb); have HGy := am hg; have HLy := am (xaM hbox); clear hb hbox hg))
 have cx_ := ce3 Bx;have cy_ := ce3 By
 go_wp2_with fail
 go_ret
 exact ⟨rfl, HB.out⟩
structure J5 (n0 : Nat) (w1 w : World) (F2 : Nat → Prop) (Al : Option Addr) (cl : Nat) (Bf : Option Addr) (df : Nat) (Bm : Option Addr) (dm : Nat) (s Z : St) (o16 o17 : Option Nat) (oc : Option (Option Addr × Nat × Option Addr × Nat)) : Prop where
 fr : Fr F2 w1 w
 f2 : ∀ k, F2 k → n0 ≤ k ∧ k < w1.heap.size
 al : ∀ k, own Al k → ¬ F2 k ∧ k < w1.heap.size
 nb : n0 ≤ w1.heap.size
 a : ∀ g, o16 = some g → w1.heap.size ≤ g ∧ w.heap[g]? = some (.cells #[.slice none 0 0, .int .i64 0, .slice none 0 0, .slice none 0 0, .bool false, .int .i64 0] 51 (0, 0))
 b : ∀ g, o17 = some g → w1.heap.size ≤ g ∧ w.heap[g]? = some (.cells #[.int .i64 0, .bool false, .int .i64 0] 56 (0, 0))
 ne : ∀ g g', o16 = some g → o17 = some g' → g ≠ g'
 nc : oc = none → Dm w n0 F2 Al cl Bf df Bm dm s
 yc : ∀ A1 c1 A2 c2, oc = some (A1, c1, A2, c2) → Dm w n0 (Gr F2 w1.heap.size w.heap.size) Al cl A1 c1 A2 c2 Z
theorem Fr.cell {G : Nat → Prop} {w w1 : World} {p : Addr} {v : Value} (hf : Fr G w w1) (h : w.cell? p = some v) (hg : ¬ G p.block) : w1.cell? p = some v := by
  rw [World.cell?] at h ⊢
  rw [hf.block _ (clt (by rw [World.cell?]; exact h)) hg]; exact h
section
variable {n0 : Nat} {w1 w w2 : World} {F2 : Nat → Prop} {Al : Option Addr} {cl : Nat} {Bf : Option Addr} {df : Nat} {Bm : Option Addr} {dm : Nat} {s Z : St} {o16 o17 : Option Nat} {oc : Option (Option Addr × Nat × Option Addr × Nat)} {A1 A2 : Option Addr} {c1 c2 : Nat}
theorem J5.start (h : Dm w1 n0 F2 Al cl Bf df Bm dm s) (hb : Below w1.heap.size w1 w) : J5 n0 w1 w F2 Al cl Bf df Bm dm s Z none none none :=
  ⟨(Fr.refl _ _).below hb, h.hF, fun k hk => ⟨h.hc k hk, h.xbY k hk⟩, h.hb, fun g hg => (by cases hg), fun g hg => (by cases hg), fun g g' hg => (by cases hg), fun _ => h.below hb, fun _ _ _ _ hg => (by cases hg)⟩
theorem J5.more (h : J5 n0 w1 w F2 Al cl Bf df Bm dm s Z o16 o17 oc) (hb : Below w.heap.size w w2) : J5 n0 w1 w2 F2 Al cl Bf df Bm dm s Z o16 o17 oc :=
  ⟨h.fr.below hb, h.f2, h.al, h.nb, fun g hg => ⟨(h.a g hg).1, xaD (h.a g hg).2 hb⟩, fun g hg => ⟨(h.b g hg).1, xaD (h.b g hg).2 hb⟩, h.ne, fun hn => (h.nc hn).below hb, fun A1 c1 A2 c2 hg => ((h.yc A1 c1 A2 c2 hg).below hb).upto (fun k hk => hk.imp_right (fun h1 => h1.1)) h.f2 h.nb (Nat.le_trans h.fr.size hb.size) h.al⟩
theorem J5.a16 (h : J5 n0 w1 w F2 Al cl Bf df Bm dm s Z none o17 oc) : J5 n0 w1 (w.alloc (.cells #[.slice none 0 0, .int .i64 0, .slice none 0 0, .slice none 0 0, .bool false, .int .i64 0] 51)) F2 Al cl Bf df Bm dm s Z (some w.heap.size) o17 oc := by
  have hm := h.more (xaH (Below.refl w.heap.size w) (.cells #[.slice none 0 0, .int .i64 0, .slice none 0 0, .slice none 0 0, .bool false, .int .i64 0] 51))
  exact ⟨hm.fr, hm.f2, hm.al, hm.nb, fun g hg => by injection hg with hg; subst hg; exact ⟨h.fr.size, xbF w _⟩, hm.b, fun g g' hg hg' => by injection hg with hg; subst hg; exact fun e => by have := xaM (h.b g' hg').2; omega, hm.nc, hm.yc⟩
theorem J5.a17 (h : J5 n0 w1 w F2 Al cl Bf df Bm dm s Z o16 none oc) : J5 n0 w1 (w.alloc (.cells #[.int .i64 0, .bool false, .int .i64 0] 56)) F2 Al cl Bf df Bm dm s Z o16 (some w.heap.size) oc := by
  have hm := h.more (xaH (Below.refl w.heap.size w) (.cells #[.int .i64 0, .bool false, .int .i64 0] 56))
  exact ⟨hm.fr, hm.f2, hm.al, hm.nb, hm.a, fun g hg => by injection hg with hg; subst hg; exact ⟨h.fr.size, xbF w _⟩, fun g g' hg hg' => by injection hg' with hg'; subst hg'; exact fun e => by have := xaM (h.a g hg).2; omega, hm.nc, hm.yc⟩
theorem J5.c (h : J5 n0 w1 w F2 Al cl Bf df Bm dm s Z o16 o17 none) (hf : Fr F2 w w2) (hd : Dm w2 n0 (Gr F2 w.heap.size w2.heap.size) Al cl A1 c1 A2 c2 Z) : J5 n0 w1 w2 F2 Al cl Bf df Bm dm s Z o16 o17 (some (A1, c1, A2, c2)) :=
 ⟨h.fr.step hf, h.f2, h.al, h.nb, fun g hg => ⟨(h.a g hg).1, hf.blk (h.a g hg).2 (fun hk => by have h1 := (h.f2 g hk).2; have h2 := (h.a g hg).1; omega)⟩, fun g hg => ⟨(h.b g hg).1, hf.blk (h.b g hg).2 (fun hk => by have h1 := (h.f2 g hk).2; have h2 := (h.b g hg).1; omega)⟩, h.ne, fun hn => (by cases hn), fun B1 d1 B2 d2 hg => by
  injection hg with hg; injection hg with e1 hg; injection hg with e2 hg; injection hg with e3 e4
  subst e1 e2 e3 e4
  exact hd.upto (fun k hk => hk.imp_right (fun h1 => Nat.le_trans h.fr.size h1.1)) h.f2 h.nb (Nat.le_trans h.fr.size hf.size) h.al⟩
end
end Go.Proofs.YtkabcgmegljebaaGreatDoor.D
