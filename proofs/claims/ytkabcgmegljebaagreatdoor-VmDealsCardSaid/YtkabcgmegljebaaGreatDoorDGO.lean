/- Contracts and facts of functions of the program, joined in one text. -/
import Derived.Test.YtkabcgmegljebaaGreatDoorDGN
set_option maxHeartbeats 8000000
set_option maxRecDepth 100000
set_option linter.unusedVariables false
set_option linter.unusedSimpArgs false
namespace Go.Proofs.YtkabcgmegljebaaGreatDoor.H
open Go.RowKit Go.Proofs.YtkabcgmegljebaaGreatDoorW.PrintWords Go.Proofs.YtkabcgmegljebaaGreatDoorW.PrintLast Go.Proofs.YtkabcgmegljebaaGreatDoorW.PrintMore
open Go.Proofs.YtkabcgmegljebaaGreatDoor.Q
def idleB (o : S37) : Bool := (o.f0 == 5 && oneB o.f1) || (o.f0 == 7 && o.f7 == 1)
def joinP (o : S37) : List PT → List PT
 | [] => []
 | [.mk o' ps'] => if idleB o = true then [.mk o' ps'] else if o.f0 = 4 ∧ o'.f0 = 4 then ps' else [.mk o [.mk o' ps']]
 | p :: q :: r => if idleB o = true then p :: q :: r else [.mk o (p :: q :: r)]
mutual
def trP : PT → List PT
  | .mk o ps => if addsB o.f0 = true then [.mk o ps] else joinP o (trL ps)
def trL : List PT → List PT
  | [] => []
  | p :: r => trP p ++ trL r
end
def OkW (fl : List S48) : Prop := ∀ f ∈ fl, numB f.f1 = true ∧ f.f1 < 18446744073709551616
structure GoodO (fxs : S37 → List S48 × Int) (o : S37) : Prop where
 ok : OkO (fxs o) o
 wf : o.f1 < 18446744073709551616
 fx : OkW (fxs o).1
 fo : xcC o = true
inductive WfG (fxs : S37 → List S48 × Int) : PT → Prop where
  | add (o : S37) (h : o.f0 = 2 ∨ o.f0 = 3) (hg : GoodO fxs o) : WfG fxs (.mk o [])
  | take (o : S37) (ps : List PT) (h : 4 ≤ o.f0) (hg : GoodO fxs o) (hp : ∀ p ∈ ps, WfG fxs p) : WfG fxs (.mk o ps)
theorem OkW.nil : OkW [] := fun f hf => (by cases hf)
theorem OkW.app {a b : List S48} (ha : OkW a) (hb : OkW b) : OkW (a ++ b) := fun f hf => (List.mem_append.1 hf).elim (ha f) (hb f)
theorem OkW.sub {a b : List S48} (hb : OkW b) (h : ∀ f ∈ a, f ∈ b) : OkW a := fun f hf => hb f (h f hf)
theorem adds_pre : ∀ (r acc : List S48), ∃ t, (adds acc r).1 = acc ++ t ∧ ∀ f ∈ t, f ∈ r
 | [], acc => ⟨[], by simp [adds], fun f hf => (by cases hf)⟩
 | x :: r, acc => by
  unfold adds
  by_cases h : acc.length = 4096
  ·
   rw [if_pos h]; exact ⟨[], by simp, fun f hf => (by cases hf)⟩
  ·
   rw [if_neg h]
   obtain ⟨t, e, ht⟩ := adds_pre r (acc ++ [x])
   refine ⟨x :: t, by rw [e]; simp, fun f hf => ?_⟩
   rcases List.mem_cons.1 hf with rfl | hf
   ·
    exact List.mem_cons_self ..
   ·
    exact List.mem_cons_of_mem _ (ht f hf)
theorem xgQ (mo : Int) : ∀ (r : List (Int × S48)) (acc : List S48), ∃ t, (pushes mo acc r).1 = acc ++ t ∧ ∀ f ∈ t, ∃ p ∈ r, f.f1 = p.2.f1
 | [], acc => ⟨[], by simp [pushes], fun f hf => (by cases hf)⟩
 | x :: r, acc => by
  unfold pushes
  by_cases h : acc.length = 4096
  ·
   rw [if_pos h]; exact ⟨[], by simp, fun f hf => (by cases hf)⟩
  ·
   rw [if_neg h]
   split
   ·
    obtain ⟨t, e, ht⟩ := xgQ mo r (acc ++ [⟨(mon x.2.f0 (x.1 * mo)).1, x.2.f1, x.2.f2⟩])
    refine ⟨_ :: t, by rw [e, List.append_assoc, List.singleton_append], fun f hf => ?_⟩
    rcases List.mem_cons.1 hf with rfl | hf
    ·
     exact ⟨x, List.mem_cons_self .., rfl⟩
    ·
     obtain ⟨p, hp, e2⟩ := ht f hf; exact ⟨p, List.mem_cons_of_mem _ hp, e2⟩
   ·
    exact ⟨[], by simp, fun f hf => (by cases hf)⟩
theorem pairs_in {l : List S48} {k n : Nat} {p : Int × S48} (h : p ∈ pairs l k n) : p.2 ∈ l := by
 unfold pairs at h
 obtain ⟨j, _, hp⟩ := List.mem_flatMap.1 h
 obtain ⟨f, hf, rfl⟩ := List.mem_map.1 hp
 exact hf
theorem neg_neg (x : Nat) : Op.negFloat .f64 (Op.negFloat .f64 x) = x := by
  unfold Op.negFloat
  rw [Nat.xor_assoc, Nat.xor_self, Nat.xor_zero]
theorem neg_lt {x : Nat} (h : x < 18446744073709551616) : Op.negFloat .f64 x < 18446744073709551616 := by
  unfold Op.negFloat
  exact Nat.xor_lt_two_pow (n := 64) h (by decide)
theorem mulN_lt {x y : Nat} (hx : numB x = true) (hy : numB y = true) : mulN x y < 18446744073709551616 := Ieee.Format.mul_lt Ieee.double (xfQ hx hy)
theorem take_act {fxs : S37 → List S48 × Int} {o : S37} {fl f1 : List S48} (hk : 4 ≤ o.f0) (hg : GoodO fxs o) (hw : OkW f1) (hp : ∃ t, f1 = fl ++ t) (he : (act (fxs o) o f1 [(fl.length : Int)]).2.2 = 0) :
  OkW (act (fxs o) o f1 [(fl.length : Int)]).1 ∧ ∃ t, (act (fxs o) o f1 [(fl.length : Int)]).1 = fl ++ t := by
 obtain ⟨t, rfl⟩ := hp
 have n1 : ¬ o.f0 = 1 := by omega
 have n2 : ¬ o.f0 = 2 := by omega
 have n3 : ¬ o.f0 = 3 := by omega
 have hl : lastM [(fl.length : Int)] = fl.length := by have := xgC [] (fl.length : Int); rw [List.nil_append] at this; rw [this]; omega
 have e1 : (fl ++ t).take fl.length = fl := List.take_left' rfl
 have e2 : (fl ++ t).drop fl.length = t := List.drop_left' rfl
 have hf : OkW fl := hw.sub (fun f hf => List.mem_append_left _ hf)
 have ht : OkW t := hw.sub (fun f hf => List.mem_append_right _ hf)
 unfold act at he ⊢
 simp only [n1, n2, n3, if_false] at he ⊢
 rw [hl, e1, e2] at he ⊢
 by_cases h4 : o.f0 = 4
 ·
  rw [if_pos h4]
  refine ⟨hf.app (fun f h => ?_), _, rfl⟩
  obtain ⟨g, hg2, rfl⟩ := List.mem_map.1 h
  exact ⟨neg_num (ht g hg2).1, neg_lt (ht g hg2).2⟩
 ·
  rw [if_neg h4] at he ⊢
  by_cases h5 : o.f0 = 5
  ·
   rw [if_pos h5] at he ⊢
   by_cases ha : t.all (fun f => numB (mulN o.f1 f.f1)) = true
   ·
    rw [if_pos ha]
    refine ⟨hf.app (fun f h => ?_), _, rfl⟩
    obtain ⟨g, hg2, rfl⟩ := List.mem_map.1 h
    exact ⟨List.all_eq_true.1 ha g hg2, mulN_lt (hg.ok.x (Or.inr h5)) (ht g hg2).1⟩
   ·
    rw [if_neg ha] at he; cases he
  ·
   rw [if_neg h5] at he ⊢
   by_cases h6 : o.f0 = 6
   ·
    rw [if_pos h6]
    exact ⟨hf.app (ht.sub (fun f h => (List.mem_filter.1 h).1)), _, rfl⟩
   ·
    rw [if_neg h6]
    obtain ⟨u, eu, hu⟩ := xgQ o.f8 (pairs t 1 o.f7.toNat) (fl ++ t)
    refine ⟨?_, t ++ u, by show (pushes o.f8 (fl ++ t) (pairs t 1 o.f7.toNat)).1 = _; rw [eu, List.append_assoc]⟩
    show OkW (pushes o.f8 (fl ++ t) (pairs t 1 o.f7.toNat)).1
    rw [eu]
    refine hw.app (fun f h => ?_)
    obtain ⟨p, hp, e⟩ := hu f h
    rw [e]
    exact ht _ (pairs_in hp)
theorem add_act {fxs : S37 → List S48 × Int} {o : S37} {fl : List S48} (hk : o.f0 = 2 ∨ o.f0 = 3) (hg : GoodO fxs o) (hw : OkW fl) (he : (act (fxs o) o fl []).2.2 = 0) :
  OkW (act (fxs o) o fl []).1 ∧ ∃ t, (act (fxs o) o fl []).1 = fl ++ t := by
 have n1 : ¬ o.f0 = 1 := by omega
 unfold act at he ⊢
 rcases hk with h | h
 ·
  simp only [n1, if_false, if_pos h] at he ⊢
  by_cases hl : fl.length = 4096
  ·
   rw [if_pos hl] at he; cases he
  ·
   rw [if_neg hl]
   refine ⟨hw.app (fun f hf => ?_), _, rfl⟩
   rw [List.mem_singleton.1 hf]
   exact ⟨hg.ok.x (Or.inl h), hg.wf⟩
 ·
  have n2 : ¬ o.f0 = 2 := by omega
  simp only [n1, n2, if_false, if_pos h] at he ⊢
  by_cases hx : (fxs o).2 = 0
  ·
   rw [if_pos hx]
   obtain ⟨t, e, ht⟩ := adds_pre (fxs o).1 fl
   refine ⟨?_, t, e⟩
   show OkW (adds fl (fxs o).1).1
   rw [e]
   exact hw.app (hg.fx.sub ht)
  ·
   rw [if_neg hx] at he; exact absurd he hx
mutual
theorem evP_ok (fxs : S37 → List S48 × Int) : ∀ (p : PT) (fl f1 : List S48), WfG fxs p → OkW fl → evP fxs p fl = .ok f1 → OkW f1 ∧ ∃ t, f1 = fl ++ t
 | .mk o ps, fl, f1, hw, hf, he => by
  rw [evP] at he
  cases hw with
  | add _ h hg =>
   rw [if_pos ((xbV _).2 h)] at he
   split at he
   ·
    injection he with he
    subst he
    exact add_act h hg hf (by assumption)
   ·
    cases he
  | take _ _ h hg hp =>
   rw [if_neg (fun h2 => by have := (xbV o.f0).1 h2; omega)] at he
   cases h1 : evL fxs ps fl with
   | error e => rw [h1] at he; cases he
   | ok f2 =>
    rw [h1] at he
    have hi := evL_ok fxs ps fl f2 hp hf h1
    change (if _ then _ else _) = _ at he
    split at he
    ·
     injection he with he
     subst he
     exact take_act h hg hi.1 hi.2 (by assumption)
    ·
     cases he
theorem evL_ok (fxs : S37 → List S48 × Int) : ∀ (l : List PT) (fl f1 : List S48), (∀ p ∈ l, WfG fxs p) → OkW fl → evL fxs l fl = .ok f1 → OkW f1 ∧ ∃ t, f1 = fl ++ t
 | [], fl, f1, hw, hf, he => by
  rw [evL] at he
  injection he with he
  subst he
  exact ⟨hf, [], by simp⟩
 | p :: r, fl, f1, hw, hf, he => by
  rw [evL] at he
  cases h1 : evP fxs p fl with
  | error e => rw [h1] at he; cases he
  | ok f2 =>
   rw [h1] at he
   obtain ⟨h2, t, rfl⟩ := evP_ok fxs p fl f2 (hw p (List.mem_cons_self ..)) hf h1
   obtain ⟨h3, u, rfl⟩ := evL_ok fxs r _ f1 (fun q hq => hw q (List.mem_cons_of_mem _ hq)) h2 he
   exact ⟨h3, t ++ u, by rw [List.append_assoc]⟩
end
theorem evL_app (fxs : S37 → List S48 × Int) : ∀ (a b : List PT) (fl : List S48), evL fxs (a ++ b) fl = (evL fxs a fl).bind fun f1 => evL fxs b f1
 | [], b, fl => by rw [List.nil_append, evL]; rfl
 | p :: r, b, fl => by
  rw [List.cons_append, evL, evL]
  cases evP fxs p fl with
  | error e => rfl
  | ok f1 => exact evL_app fxs r b f1
theorem xgW (fxs : S37 → List S48 × Int) (p : PT) (fl : List S48) : evL fxs [p] fl = evP fxs p fl := by
  rw [evL]
  cases evP fxs p fl <;> rfl
mutual
theorem trP_wf (fxs : S37 → List S48 × Int) : ∀ (p : PT), WfG fxs p → ∀ q ∈ trP p, WfG fxs q
 | .mk o ps, hw => by
  rw [trP]
  cases hw with
  | add _ h hg =>
   rw [if_pos ((xbV _).2 h)]
   intro q hq
   rw [List.mem_singleton.1 hq]; exact .add o h hg
  | take _ _ h hg hp =>
   rw [if_neg (fun h2 => by have := (xbV o.f0).1 h2; omega)]
   have hi := trL_wf fxs ps hp
   generalize trL ps = l at hi
   match l, hi with
   | [], hi => intro q hq; cases hq
   | [.mk o' ps'], hi =>
    rw [joinP]
    split
    ·
     exact hi
    ·
     split
     ·
      rename_i hc
      have h1 := hi _ (List.mem_singleton.2 rfl)
      cases h1 with
      | add _ h2 _ => omega
      | take _ _ _ _ h2 => exact h2
     ·
      intro q hq
      rw [List.mem_singleton.1 hq]; exact .take o _ h hg hi
   | p1 :: p2 :: r, hi =>
    rw [joinP]
    split
    ·
     exact hi
    ·
     intro q hq
     rw [List.mem_singleton.1 hq]; exact .take o _ h hg hi
theorem trL_wf (fxs : S37 → List S48 × Int) : ∀ (l : List PT), (∀ p ∈ l, WfG fxs p) → ∀ q ∈ trL l, WfG fxs q
 | [], hw => by intro q hq; rw [trL] at hq; cases hq
 | p :: r, hw => by
  intro q hq
  rw [trL] at hq
  rcases List.mem_append.1 hq with hq | hq
  ·
   exact trP_wf fxs p (hw p (List.mem_cons_self ..)) q hq
  ·
   exact trL_wf fxs r (fun z hz => hw z (List.mem_cons_of_mem _ hz)) q hq
end
def opE (fxs : S37 → List S48 × Int) (o : S37) (n : Nat) (f1 : List S48) : Except Int (List S48) := if (act (fxs o) o f1 [(n : Int)]).2.2 = 0 then .ok (act (fxs o) o f1 [(n : Int)]).1 else .error (act (fxs o) o f1 [(n : Int)]).2.2
theorem xgE {fxs : S37 → List S48 × Int} {o : S37} {ps : List PT} {fl : List S48} (h : 4 ≤ o.f0) : evP fxs (.mk o ps) fl = (evL fxs ps fl).bind (opE fxs o fl.length) := by
  rw [evP, if_neg (fun h2 => by have := (xbV o.f0).1 h2; omega)]
  rfl
theorem xgR {fxs : S37 → List S48 × Int} {o : S37} {fl t : List S48} (h : 4 ≤ o.f0) :
  opE fxs o fl.length (fl ++ t) = if o.f0 = 4 then .ok (fl ++ t.map ngF) else if o.f0 = 5 then (if t.all (fun f => numB (mulN o.f1 f.f1)) = true then .ok (fl ++ t.map (scF o.f1)) else .error 91)
   else if o.f0 = 6 then .ok (fl ++ t.filter (inW o.f3 o.f4)) else if (pushes o.f8 (fl ++ t) (pairs t 1 o.f7.toNat)).2 = 0 then .ok (pushes o.f8 (fl ++ t) (pairs t 1 o.f7.toNat)).1 else .error (pushes o.f8 (fl ++ t) (pairs t 1 o.f7.toNat)).2 := by
 have n1 : ¬ o.f0 = 1 := by omega
 have n2 : ¬ o.f0 = 2 := by omega
 have n3 : ¬ o.f0 = 3 := by omega
 have hl : lastM [(fl.length : Int)] = fl.length := by have := xgC [] (fl.length : Int); rw [List.nil_append] at this; rw [this]; omega
 unfold opE act
 simp only [n1, n2, n3, if_false]
 rw [hl, List.take_left' rfl, List.drop_left' rfl]
 by_cases h4 : o.f0 = 4
 ·
  rw [if_pos h4, if_pos h4]; rfl
 ·
  rw [if_neg h4, if_neg h4]
  by_cases h5 : o.f0 = 5
  ·
   rw [if_pos h5, if_pos h5]
   split
   ·
    rfl
   ·
    rfl
  ·
   rw [if_neg h5, if_neg h5]
   by_cases h6 : o.f0 = 6
   ·
    rw [if_pos h6, if_pos h6]; rfl
   ·
    rw [if_neg h6, if_neg h6]
theorem op_idle {fxs : S37 → List S48 × Int} {o : S37} {fl t : List S48} (h : 4 ≤ o.f0) (hg : GoodO fxs o) (hi : idleB o = true) (ht : OkW t) : opE fxs o fl.length (fl ++ t) = .ok (fl ++ t) := by
 rw [xgR h]
 unfold idleB at hi
 rw [Bool.or_eq_true, Bool.and_eq_true, Bool.and_eq_true] at hi
 rcases hi with ⟨h1, h2⟩ | ⟨h1, h2⟩
 ·
  have h1 := beq_iff_eq.1 h1
  have h2 := one_only (hg.ok.x (Or.inr h1)) hg.wf h2
  rw [if_neg (by omega), if_pos h1, h2]
  have e : ∀ f ∈ t, mulN 4607182418800017408 f.f1 = f.f1 := fun f hf => mul_one (ht f hf).1 (ht f hf).2
  rw [if_pos (List.all_eq_true.2 (fun f hf => by rw [e f hf]; exact (ht f hf).1))]
  have e2 : t.map (scF 4607182418800017408) = t := by
   conv => rhs; rw [← List.map_id t]
   refine List.map_congr_left (fun f hf => ?_)
   unfold scF
   rw [e f hf]; rfl
  rw [e2]
 ·
  have h1 := beq_iff_eq.1 h1;have h2 := beq_iff_eq.1 h2
  rw [if_neg (by omega), if_neg (by omega), if_neg (by omega), h2, xhY t 1 (1 : Int).toNat (by decide)]
  rfl
theorem op_none {fxs : S37 → List S48 × Int} {o : S37} {fl : List S48} (h : 4 ≤ o.f0) : opE fxs o fl.length fl = .ok fl := by
 have := xgR (fxs := fxs) (o := o) (fl := fl) (t := []) h
 rw [List.append_nil] at this
 rw [this, xhX]
 simp only [List.map_nil, List.append_nil, List.all_nil, List.filter_nil, if_true]
 repeat' split
 all_goals first | rfl | (rename_i hc; exact absurd rfl hc)
theorem join_ev (fxs : S37 → List S48 × Int) {o : S37} {ps l : List PT} {fl : List S48} (h : 4 ≤ o.f0) (hgo : GoodO fxs o) (hf : OkW fl) (hl : ∀ q ∈ l, WfG fxs q) (he : evL fxs l fl = evL fxs ps fl) : evL fxs (joinP o l) fl = evP fxs (.mk o ps) fl := by
 rw [xgE h, ← he]
 have hid : idleB o = true → evL fxs l fl = (evL fxs l fl).bind (opE fxs o fl.length) := fun hi => by
  cases h1 : evL fxs l fl with
  | error e => rfl
  | ok f1 =>
   obtain ⟨h2, t, rfl⟩ := evL_ok fxs l fl f1 hl hf h1
   exact (op_idle h hgo hi (h2.sub (fun f hf => List.mem_append_right _ hf))).symm
 have hmk : evL fxs [.mk o l] fl = (evL fxs l fl).bind (opE fxs o fl.length) := by rw [xgW, xgE h]
 match l, hl, hid, hmk with
 | [], hl, hid, hmk =>
  show evL fxs [] fl = _
  rw [evL]
  exact (op_none h).symm
 | [.mk o' ps'], hl, hid, hmk =>
  rw [joinP]
  by_cases hi : idleB o = true
  ·
   rw [if_pos hi]; exact hid hi
  ·
   rw [if_neg hi]
   by_cases hc : o.f0 = 4 ∧ o'.f0 = 4
   ·
    rw [if_pos hc, xgW, xgE (by omega)]
    have hw := hl _ (List.mem_singleton.2 rfl)
    cases hw with
    | add _ h2 _ => omega
    | take _ _ _ _ h2 =>
     cases h1 : evL fxs ps' fl with
     | error e => rfl
     | ok f1 =>
      obtain ⟨_, t, rfl⟩ := evL_ok fxs ps' fl f1 h2 hf h1
      show _ = (opE fxs o' fl.length (fl ++ t)).bind _
      rw [xgR (by omega), if_pos hc.2]
      show _ = opE fxs o fl.length (fl ++ t.map ngF)
      rw [xgR h, if_pos hc.1, List.map_map]
      have e2 : t.map (ngF ∘ ngF) = t := by
       conv => rhs; rw [← List.map_id t]
       refine List.map_congr_left (fun f hf => ?_)
       show ngF (ngF f) = f
       unfold ngF
       simp only [neg_neg]
      rw [e2]
   ·
    rw [if_neg hc]; exact hmk
 | p1 :: p2 :: r, hl, hid, hmk =>
  rw [joinP]
  by_cases hi : idleB o = true
  ·
   rw [if_pos hi]; exact hid hi
  ·
   rw [if_neg hi]; exact hmk
mutual
theorem trP_ev (fxs : S37 → List S48 × Int) : ∀ (p : PT) (fl : List S48), WfG fxs p → OkW fl → evL fxs (trP p) fl = evP fxs p fl
 | .mk o ps, fl, hw, hf => by
  rw [trP]
  cases hw with
  | add _ h hg => rw [if_pos ((xbV _).2 h), xgW]
  | take _ _ h hg hp =>
   rw [if_neg (fun h2 => by have := (xbV o.f0).1 h2; omega)]
   exact join_ev fxs h hg hf (trL_wf fxs ps hp) (trL_ev fxs ps fl hp hf)
theorem trL_ev (fxs : S37 → List S48 × Int) : ∀ (l : List PT) (fl : List S48), (∀ p ∈ l, WfG fxs p) → OkW fl → evL fxs (trL l) fl = evL fxs l fl
 | [], fl, hw, hf => by rw [trL]
 | p :: r, fl, hw, hf => by
  rw [trL, evL_app, trP_ev fxs p fl (hw p (List.mem_cons_self ..)) hf, evL]
  cases h1 : evP fxs p fl with
  | error e => rfl
  | ok f1 => exact trL_ev fxs r f1 (fun q hq => hw q (List.mem_cons_of_mem _ hq)) (evP_ok fxs p fl f1 (hw p (List.mem_cons_self ..)) hf h1).1
end
def stepS (st : List (List PT)) (o : S37) : List (List PT) :=
 if o.f0 = 1 then [] :: st
 else if addsB o.f0 = true then (match st with | t :: r => (t ++ [.mk o []]) :: r | [] => [])
 else (match st with | t :: u :: r => (u ++ [.mk o t]) :: r | s => s)
def xbX (l : List S37) : List (List PT) := l.foldl stepS [[]]
def codeS : List (List PT) → List S37
 | [] => []
 | [b] => codeL b
 | t :: r => codeS r ++ opM :: codeL t
theorem xeJ : ∀ (a b : List PT), codeL (a ++ b) = codeL a ++ codeL b
  | [], b => by rw [List.nil_append, codeL, List.nil_append]
  | p :: r, b => by rw [List.cons_append, codeL, codeL, xeJ r b, List.append_assoc]
theorem xeS (t u : List PT) (r : List (List PT)) : codeS (t :: u :: r) = codeS (u :: r) ++ opM :: codeL t := by rw [codeS]; simp
theorem codeS_app (t x : List PT) (r : List (List PT)) : codeS ((t ++ x) :: r) = codeS (t :: r) ++ codeL x := by
 cases r with
 | nil => rw [codeS, codeS, xeJ]
 | cons u r => rw [xeS, xeS, xeJ, List.append_assoc, List.cons_append]
theorem mark_is {o : S37} (h : xcC o = true) (h1 : o.f0 = 1) : o = opM := by
 unfold xcC at h
 rw [if_neg (by omega), if_pos h1] at h
 simp at h
 cases o
 simp only at h h1
 unfold opM
 simp_all
structure StkI (fxs : S37 → List S48 × Int) (l : List S37) (m : Int) (st : List (List PT)) : Prop where
 code : codeS st = l
 len : (st.length : Int) = m + 1
 wf : ∀ b ∈ st, ∀ p ∈ b, WfG fxs p
theorem stk_step {fxs : S37 → List S48 × Int} {l : List S37} {m : Int} {st : List (List PT)} {o : S37} (h : StkI fxs l m st) (hf : xcC o = true) (hg : GoodO fxs o) (hm : 4 ≤ o.f0 → 0 < m) (h0 : 0 ≤ m) : StkI fxs (l ++ [o]) (m + dOf o) (stepS st o) := by
 obtain ⟨hk, _⟩ := xeQ hf
 have hlen := h.len
 unfold stepS dOf
 by_cases h1 : o.f0 = 1
 ·
  rw [if_pos h1, if_pos h1]
  match st, h, hlen with
  | [], h, hlen => simp at hlen; omega
  | u :: r, h, hlen =>
   refine ⟨?_, by simp only [List.length_cons] at hlen ⊢; push_cast at hlen ⊢; omega, fun b hb => ?_⟩
   ·
    rw [xeS, h.code, mark_is hf h1, codeL]
   ·
    rcases List.mem_cons.1 hb with rfl | hb
    ·
     intro p hp; cases hp
    ·
     exact h.wf b hb
 ·
  rw [if_neg h1, if_neg h1]
  by_cases ha : addsB o.f0 = true
  ·
   have hk2 := (xbV o.f0).1 ha
   rw [if_pos ha, if_neg (by omega)]
   match st, h, hlen with
   | [], h, hlen => simp at hlen; omega
   | t :: r, h, hlen =>
    refine ⟨?_, by simp only [List.length_cons] at hlen ⊢; omega, fun b hb => ?_⟩
    ·
     show codeS ((t ++ [.mk o []]) :: r) = l ++ [o]
     rw [codeS_app, h.code, codeL, codeL, codeP, if_pos ha]; rfl
    ·
     rcases List.mem_cons.1 hb with rfl | hb
     ·
      intro p hp
      rcases List.mem_append.1 hp with hp | hp
      ·
       exact h.wf t (List.mem_cons_self ..) p hp
      ·
       rw [List.mem_singleton.1 hp]; exact .add o hk2 hg
     ·
      exact h.wf b (List.mem_cons_of_mem _ hb)
  ·
   have hk2 : 4 ≤ o.f0 := by
    have : ¬ (o.f0 = 2 ∨ o.f0 = 3) := fun h2 => ha ((xbV o.f0).2 h2)
    omega
   have hm1 := hm hk2
   rw [if_neg ha, if_pos hk2]
   match st, h, hlen with
   | [], h, hlen => simp at hlen; omega
   | [t], h, hlen => simp at hlen; omega
   | t :: u :: r, h, hlen =>
    refine ⟨?_, by simp only [List.length_cons] at hlen ⊢; push_cast at hlen ⊢; omega, fun b hb => ?_⟩
    ·
     show codeS ((u ++ [.mk o t]) :: r) = l ++ [o]
     rw [codeS_app, codeL, codeL, codeP, if_neg ha, ← h.code, xeS]
     simp
    ·
     rcases List.mem_cons.1 hb with rfl | hb
     ·
      intro p hp
      rcases List.mem_append.1 hp with hp | hp
      ·
       exact h.wf u (List.mem_cons_of_mem _ (List.mem_cons_self ..)) p hp
      ·
       rw [List.mem_singleton.1 hp]; exact .take o t hk2 hg (h.wf t (List.mem_cons_self ..))
     ·
      exact h.wf b (List.mem_cons_of_mem _ (List.mem_cons_of_mem _ hb))
theorem xgG : ∀ (r : List S37) (i m most : Int), (chkGo r i m most).1 = 0 → 0 ≤ m → m + depthL r = 0
 | [], i, m, most, h, h0 => by
  rw [chkGo] at h
  by_cases hm : 0 < m
  ·
   rw [if_pos hm] at h; cases h
  ·
   show m + 0 = 0; omega
 | o :: r, i, m, most, h, h0 => by
  rw [chkGo] at h
  have hd : depthL (o :: r) = dOf o + depthL r := by unfold depthL; rw [List.map_cons, List.sum_cons]
  rw [hd]
  by_cases hf : xcC o = false
  ·
   rw [if_pos hf] at h; cases h
  ·
   rw [if_neg hf] at h
   obtain ⟨hk, _⟩ := xeQ (o := o) (by simpa using hf)
   by_cases ha : addsB o.f0 = true
   ·
    rw [if_pos ha] at h
    have hk2 := (xbV o.f0).1 ha
    have e : dOf o = 0 := by unfold dOf; rw [if_neg (by omega), if_neg (by omega)]
    have := xgG r _ _ _ h h0
    omega
   ·
    rw [if_neg ha] at h
    have hk2 : ¬ (o.f0 = 2 ∨ o.f0 = 3) := fun h2 => ha ((xbV o.f0).2 h2)
    by_cases h1 : o.f0 = 1
    ·
     rw [if_pos h1] at h
     have e : dOf o = 1 := by unfold dOf; rw [if_pos h1]
     split at h
     ·
      cases h
     ·
      have := xgG r _ _ _ h (by omega)
      omega
    ·
     rw [if_neg h1] at h
     have e : dOf o = -1 := by unfold dOf; rw [if_neg h1, if_pos (by omega)]
     by_cases hm : m = 0
     ·
      rw [if_pos hm] at h; cases h
     ·
      rw [if_neg hm] at h
      have := xgG r _ _ _ h (by omega)
      omega
theorem fix_wf (o : S37) : OkW (fixF o).1 := by
 have hp : ∀ (p : S145), (paidF o.f6 o.f5 o.f1 o.f2 p).2 = 0 → (paidF o.f6 o.f5 o.f1 o.f2 p).1.f1 < 18446744073709551616 := fun p h => by
  unfold paidF at h ⊢
  cases hr : floatBits .mul .f64 (mulN o.f1 o.f2) (yearF o.f6 p.f2 p.f3) with
  | none => rw [hr] at h; cases h
  | some r =>
   rw [hr] at h
   simp only at h ⊢
   by_cases hn : numB r = true
   ·
    rw [if_pos hn]; exact Ieee.Format.mul_lt Ieee.double hr
   ·
    rw [if_neg hn] at h; cases h
 have hall : ∀ (l : List S145) (acc : List S48), (∀ f ∈ acc, f.f1 < 18446744073709551616) → ∀ f ∈ (payAll o.f6 o.f5 o.f1 o.f2 l acc).1, f.f1 < 18446744073709551616 := by
  intro l
  induction l with
  | nil => intro acc h; exact h
  | cons p ps ih =>
   intro acc h
   rw [payAll]
   by_cases he : (paidF o.f6 o.f5 o.f1 o.f2 p).2 = 0
   ·
    rw [if_pos he]
    exact ih _ (fun f hf => (List.mem_append.1 hf).elim (h f) (fun hf => by rw [List.mem_singleton.1 hf]; exact hp p he))
   ·
    rw [if_neg he]; exact fun f hf => (by cases hf)
 intro f hf
 refine ⟨fixF_num o f hf, ?_⟩
 unfold fixF legF at hf
 split at hf
 ·
  exact hall _ [] (fun f hf => (by cases hf)) f hf
 ·
  cases hf
theorem forest {l : List S37} (h : (chk l).1 = 0) (hw : ∀ o ∈ l, o.f1 < 18446744073709551616) : ∃ b, xbX l = [b] ∧ codeL b = l ∧ (∀ p ∈ b, WfG fixF p) ∧ ∀ i, i ≤ l.length → StkI fixF (l.take i) (depthL (l.take i)) (xbX (l.take i)) := by
 have hl : l.length ≤ 8192 := (xfG h).1.len
 have hgo : (chkGo l 0 0 0).1 = 0 := by unfold chk at h; rw [if_neg (by omega)] at h; exact h
 obtain ⟨k1, k2, k3, k4⟩ := xhM l 0 0 0 0 (Int.le_refl _) (Int.le_refl _) (by omega) hgo
 have hd := xgG l 0 0 0 hgo (Int.le_refl _)
 have hnn : ∀ i, i ≤ l.length → 0 ≤ depthL (l.take i) ∧ StkI fixF (l.take i) (depthL (l.take i)) (xbX (l.take i)) := by
  intro i
  induction i with
  | zero => intro _; exact ⟨Int.le_refl _, ⟨rfl, rfl, fun b hb p hp => by rw [List.mem_singleton.1 hb] at hp; cases hp⟩⟩
  | succ i ih =>
   intro hi
   obtain ⟨h0, hs⟩ := ih (by omega)
   have hlt : i < l.length := by omega
   have ho := List.getElem_mem hlt
   have hstep := stk_step hs (k1 _ ho) ⟨op_ok (k1 _ ho), hw _ ho, fix_wf _, k1 _ ho⟩ (fun h4 => by have := k3 i hlt h4; omega) h0
   rw [xgY hlt]
   have e : l.take (i + 1) = l.take i ++ [l[i]] := List.take_succ_eq_append_getElem hlt
   have e2 : xbX (l.take (i + 1)) = stepS (xbX (l.take i)) l[i] := by unfold xbX; rw [e, List.foldl_append]; rfl
   rw [e2]
   refine ⟨?_, by rw [e]; exact hstep⟩
   have := hstep.len
   have h2 : 0 < (stepS (xbX (l.take i)) l[i]).length := by
    rcases hc : stepS (xbX (l.take i)) l[i] with _ | ⟨a, b⟩
    ·
     have h3 := hstep.code; rw [hc] at h3; rw [codeS] at h3; have h4 := congrArg List.length h3; rw [List.length_append, List.length_singleton, List.length_nil] at h4; omega
    ·
     simp
   omega
 obtain ⟨_, hs⟩ := hnn l.length (Nat.le_refl _)
 rw [List.take_length] at hs
 have hlen := hs.len
 rw [show depthL l = 0 by omega] at hlen
 rcases hc : xbX l with _ | ⟨b, _ | ⟨u, r⟩⟩
 ·
  rw [hc] at hlen; simp at hlen
 ·
  refine ⟨b, rfl, ?_, ?_, fun i hi => (hnn i hi).2⟩
  ·
   have := hs.code; rw [hc, codeS] at this; exact this
  ·
   exact hs.wf b (by rw [hc]; exact List.mem_singleton.2 rfl)
 ·
  rw [hc] at hlen; simp at hlen; omega
mutual
def depP : PT → Nat
  | .mk o ps => if addsB o.f0 = true then 0 else 1 + depL ps
def depL : List PT → Nat
  | [] => 0
  | p :: r => max (depP p) (depL r)
end
theorem depL_app : ∀ (a b : List PT), depL (a ++ b) = max (depL a) (depL b)
  | [], b => by rw [List.nil_append, depL]; omega
  | p :: r, b => by rw [List.cons_append, depL, depL, depL_app r b]; omega
theorem opM_ok : xcC opM = true := by decide +kernel
theorem chk_mark (r : List S37) (i m most : Int) (h : m + 1 ≤ 63) : chkGo (opM :: r) i m most = chkGo r (i + 1) (m + 1) (max most (m + 1)) := by
  rw [chkGo, if_neg (by rw [opM_ok]; decide), if_neg (by decide), if_pos (show opM.f0 = 1 from rfl), if_neg (by omega)]
mutual
theorem chkP_eq (fxs : S37 → List S48 × Int) : ∀ (p : PT) (rest : List S37) (i m most : Int), WfG fxs p → 0 ≤ m → m ≤ most → m + depP p ≤ 63 → chkGo (codeP p ++ rest) i m most = chkGo rest (i + (codeP p).length) m (max most (m + depP p))
 | .mk o ps, rest, i, m, most, hw, h0, h1, hd => by
  rw [codeP, depP] at *
  cases hw with
  | add _ h hg =>
   have ha := (xbV _).2 h
   rw [if_pos ha] at hd ⊢
   rw [if_pos ha, List.nil_append, List.singleton_append, chkGo, if_neg (by rw [hg.fo]; decide), if_pos ha]
   congr 1
   simp; omega
  | take _ _ h hg hp =>
   have ha : ¬ addsB o.f0 = true := fun h2 => by have := (xbV o.f0).1 h2; omega
   rw [if_neg ha] at hd ⊢
   rw [if_neg ha]
   push_cast at hd
   rw [List.cons_append, List.cons_append, chk_mark _ _ _ _ (by omega), List.append_assoc, chkL_eq fxs ps _ _ _ _ hp (by omega) (by omega) (by omega), List.singleton_append, chkGo, if_neg (by rw [hg.fo]; decide), if_neg ha, if_neg (by omega), if_neg (by omega)]
   have e1 : i + 1 + ((codeL ps).length : Int) + 1 = i + ((opM :: (codeL ps ++ [o])).length : Int) := by simp; omega
   have e2 : m + 1 - 1 = m := by omega
   have e3 : max (max most (m + 1)) (m + 1 + (depL ps : Int)) = max most (m + ((1 + depL ps : Nat) : Int)) := by push_cast; omega
   rw [e1, e2, e3]
theorem chkL_eq (fxs : S37 → List S48 × Int) : ∀ (l : List PT) (rest : List S37) (i m most : Int), (∀ p ∈ l, WfG fxs p) → 0 ≤ m → m ≤ most → m + depL l ≤ 63 → chkGo (codeL l ++ rest) i m most = chkGo rest (i + (codeL l).length) m (max most (m + depL l))
 | [], rest, i, m, most, hw, h0, h1, hd => by
  rw [codeL, depL, List.nil_append]
  congr 1
  ·
   simp
  ·
   simp; omega
 | p :: r, rest, i, m, most, hw, h0, h1, hd => by
  rw [depL] at hd ⊢
  rw [codeL]
  rw [List.append_assoc, chkP_eq fxs p _ _ _ _ (hw p (List.mem_cons_self ..)) h0 h1 (by omega), chkL_eq fxs r _ _ _ _ (fun q hq => hw q (List.mem_cons_of_mem _ hq)) h0 (by omega) (by omega)]
  congr 1
  ·
   rw [List.length_append]; push_cast; omega
  ·
   push_cast; omega
end
mutual
theorem chkP_dep (fxs : S37 → List S48 × Int) : ∀ (p : PT) (rest : List S37) (i m most : Int), WfG fxs p → 0 ≤ m → m ≤ most → m ≤ 63 → (chkGo (codeP p ++ rest) i m most).1 = 0 → m + depP p ≤ 63
 | .mk o ps, rest, i, m, most, hw, h0, h1, h63, he => by
  rw [codeP] at he
  rw [depP]
  cases hw with
  | add _ h hg => rw [if_pos ((xbV _).2 h)]; omega
  | take _ _ h hg hp =>
   have ha : ¬ addsB o.f0 = true := fun h2 => by have := (xbV o.f0).1 h2; omega
   rw [if_neg ha] at he ⊢
   have hm : m + 1 ≤ 63 := Classical.byContradiction (fun hc => by
    rw [List.cons_append, List.cons_append, chkGo, if_neg (by rw [opM_ok]; decide), if_neg (by decide), if_pos (show opM.f0 = 1 from rfl), if_pos (by omega)] at he
    cases he)
   rw [List.cons_append, List.cons_append, chk_mark _ _ _ _ hm, List.append_assoc] at he
   have := chkL_dep fxs ps _ _ _ _ hp (by omega) (by omega) hm he
   push_cast; omega
theorem chkL_dep (fxs : S37 → List S48 × Int) : ∀ (l : List PT) (rest : List S37) (i m most : Int), (∀ p ∈ l, WfG fxs p) → 0 ≤ m → m ≤ most → m ≤ 63 → (chkGo (codeL l ++ rest) i m most).1 = 0 → m + depL l ≤ 63
 | [], rest, i, m, most, hw, h0, h1, h63, he => by rw [depL]; omega
 | p :: r, rest, i, m, most, hw, h0, h1, h63, he => by
  rw [codeL, List.append_assoc] at he
  rw [depL]
  have hp := hw p (List.mem_cons_self ..)
  have h2 := chkP_dep fxs p _ _ _ _ hp h0 h1 h63 he
  rw [chkP_eq fxs p _ _ _ _ hp h0 h1 h2] at he
  have h3 := chkL_dep fxs r _ _ _ _ (fun q hq => hw q (List.mem_cons_of_mem _ hq)) h0 (by omega) h63 he
  push_cast; omega
end
theorem join_dep (o : S37) (ha : ¬ addsB o.f0 = true) (h4 : o.f0 = 4 → True) : ∀ (l : List PT), depL (joinP o l) ≤ 1 + depL l ∧ (codeL (joinP o l)).length ≤ (codeL l).length + 2
 | [] => by rw [joinP, depL, codeL]; simp
 | [.mk o' ps'] => by
  rw [joinP]
  split
  ·
   omega
  ·
   split
   ·
    rename_i hc
    have ha' : ¬ addsB o'.f0 = true := fun h2 => by have := (xbV o'.f0).1 h2; omega
    rw [depL, depP, if_neg ha', codeL, codeP, if_neg ha', codeL]
    refine ⟨by omega, ?_⟩
    simp; omega
   ·
    rw [depL, depP, if_neg ha, codeL, codeP, if_neg ha, codeL, depL]
    refine ⟨by omega, ?_⟩
    simp
 | p1 :: p2 :: r => by
  rw [joinP]
  split
  ·
   omega
  ·
   rw [depL, depP, if_neg ha, codeL, codeP, if_neg ha, codeL, depL]
   refine ⟨by omega, ?_⟩
   simp
mutual
theorem trP_dep : ∀ (p : PT), depL (trP p) ≤ depP p ∧ (codeL (trP p)).length ≤ (codeP p).length
 | .mk o ps => by
  rw [trP]
  by_cases ha : addsB o.f0 = true
  ·
   rw [if_pos ha, depL, depL, codeL, codeL, List.append_nil]
   exact ⟨by omega, Nat.le_refl _⟩
  ·
   rw [if_neg ha]
   obtain ⟨h1, h2⟩ := join_dep o ha (fun _ => trivial) (trL ps)
   obtain ⟨h3, h4⟩ := xfT ps
   rw [depP, if_neg ha, codeP, if_neg ha]
   refine ⟨by omega, ?_⟩
   simp; omega
theorem xfT : ∀ (l : List PT), depL (trL l) ≤ depL l ∧ (codeL (trL l)).length ≤ (codeL l).length
 | [] => by rw [trL]; exact ⟨Nat.le_refl _, Nat.le_refl _⟩
 | p :: r => by
  obtain ⟨h1, h2⟩ := trP_dep p
  obtain ⟨h3, h4⟩ := xfT r
  rw [trL, depL_app, xeJ, depL, codeL, List.length_append, List.length_append]
  exact ⟨by omega, by omega⟩
end
theorem trim_law {l : List S37} {b : List PT} (h : (chk l).1 = 0) (hb : codeL b = l) (hw : ∀ p ∈ b, WfG fixF p) (a a' : Int) : (chk (codeL (trL b))).1 = 0 ∧ (codeL (trL b)).length ≤ l.length ∧ runT fixF (0, a) (codeL (trL b)) = runT fixF (0, a') l := by
 have hl : l.length ≤ 8192 := (xfG h).1.len
 have hgo : (chkGo l 0 0 0).1 = 0 := by unfold chk at h; rw [if_neg (by omega)] at h; exact h
 have hd : (0 : Int) + depL b ≤ 63 := chkL_dep fixF b [] 0 0 0 hw (Int.le_refl _) (Int.le_refl _) (by omega) (by rw [List.append_nil, hb]; exact hgo)
 obtain ⟨h1, h2⟩ := xfT b
 have hwt := trL_wf fixF b hw
 rw [hb] at h2
 refine ⟨?_, h2, ?_⟩
 ·
  have := chkL_eq fixF (trL b) [] 0 0 0 hwt (Int.le_refl _) (Int.le_refl _) (by omega)
  rw [List.append_nil] at this
  unfold chk
  rw [if_neg (by omega), this, chkGo, if_neg (by omega)]
 ·
  have hwp : ∀ {c : List PT}, (∀ p ∈ c, WfG fixF p) → ∀ p ∈ c, WfP p := fun hc p hp => by
   have : ∀ q, WfG fixF q → WfP q := fun q hq => by
    induction hq with
    | add o h _ => exact .add o h
    | take o ps h _ _ ih => exact .take o ps h ih
   exact this p (hc p hp)
  rw [runT_E fixF (by omega), runT_E fixF hl, ← hb, run_code fixF (hwp hw), run_code fixF (hwp hwt), trL_ev fixF b [] hw OkW.nil]
def encP (g : Nat) : Value := .pointer (some ⟨g, 0, none⟩)
def kp : Kd Nat := Kd.scalar encP (fun _ => rfl)
instance : Flat kp := ⟨fun h => h⟩
theorem xfA : (Tryz.prog.info? 124).map (fun i => (i.zero, i.size, i.bytes)) = some (some (.pointer none), 1, 8) := by kernel_rfl
def cellsP (o : S37) (A : Option Addr) (n c : Nat) : Array Value := #[.int .i64 o.f0, .float .f64 o.f1, .float .f64 o.f2, .int .i64 o.f3, .int .i64 o.f4, .int .i64 o.f5, .int .i64 o.f6, .int .i64 o.f7, .int .i64 o.f8, .slice A n c]
mutual
def PR (w : World) (base : Nat) (F : Nat → Prop) : PT → Nat → Prop
  | .mk o ps, g => F g ∧ ∃ A c hs, w.heap[g]? = some (.cells (cellsP o A ps.length c) 126 (0, 0)) ∧ hs.length = ps.length ∧ Sl kp 124 w base F A c hs ∧ PRL w base F ps hs
def PRL (w : World) (base : Nat) (F : Nat → Prop) : List PT → List Nat → Prop
 | [], [] => True
 | p :: r, g :: gr => PR w base F p g ∧ PRL w base F r gr
 | [], _ :: _ => False
 | _ :: _, [] => False
end
mutual
theorem PR.fr {w w1 : World} {base : Nat} {F G : Nat → Prop} (hf : Fr G w w1) (hd : ∀ k, F k → ¬ G k) : ∀ (p : PT) (g : Nat), PR w base F p g → PR w1 base F p g
 | .mk o ps, g, h => by
  rw [PR] at h ⊢
  obtain ⟨h0, A, c, hs, h1, h2, h3, h4⟩ := h
  exact ⟨h0, A, c, hs, hf.blk h1 (hd g h0), h2, h3.fr hf hd, PRL.fr hf hd ps hs h4⟩
theorem PRL.fr {w w1 : World} {base : Nat} {F G : Nat → Prop} (hf : Fr G w w1) (hd : ∀ k, F k → ¬ G k) : ∀ (l : List PT) (hs : List Nat), PRL w base F l hs → PRL w1 base F l hs
 | [], [], h => by rw [PRL]; trivial
 | p :: r, g :: gr, h => by
  rw [PRL] at h ⊢
  exact ⟨PR.fr hf hd p g h.1, PRL.fr hf hd r gr h.2⟩
 | [], _ :: _, h => by rw [PRL] at h; exact h.elim
 | _ :: _, [], h => by rw [PRL] at h; exact h.elim
end
mutual
theorem PR.mono {w : World} {base : Nat} {F G : Nat → Prop} (hG : ∀ k, F k → k < w.heap.size → G k) : ∀ (p : PT) (g : Nat), PR w base F p g → PR w base G p g
 | .mk o ps, g, h => by
  rw [PR] at h ⊢
  obtain ⟨h0, A, c, hs, h1, h2, h3, h4⟩ := h
  exact ⟨hG g h0 (blk_lt h1), A, c, hs, h1, h2, h3.mono hG, PRL.mono hG ps hs h4⟩
theorem PRL.mono {w : World} {base : Nat} {F G : Nat → Prop} (hG : ∀ k, F k → k < w.heap.size → G k) : ∀ (l : List PT) (hs : List Nat), PRL w base F l hs → PRL w base G l hs
 | [], [], h => by rw [PRL]; trivial
 | p :: r, g :: gr, h => by
  rw [PRL] at h ⊢
  exact ⟨PR.mono hG p g h.1, PRL.mono hG r gr h.2⟩
 | [], _ :: _, h => by rw [PRL] at h; exact h.elim
 | _ :: _, [], h => by rw [PRL] at h; exact h.elim
end
theorem PRL.below {w w1 : World} {base : Nat} {F : Nat → Prop} {l : List PT} {hs : List Nat} (h : PRL w base F l hs) (hb : Below w.heap.size w w1) : PRL w1 base F l hs :=
  PRL.fr ((Fr.refl (fun _ => False) w).below hb) (fun _ _ h => h) l hs h
theorem PR.below {w w1 : World} {base : Nat} {F : Nat → Prop} {p : PT} {g : Nat} (h : PR w base F p g) (hb : Below w.heap.size w w1) : PR w1 base F p g :=
  PR.fr ((Fr.refl (fun _ => False) w).below hb) (fun _ _ h => h) p g h
theorem PRL.len {w : World} {base : Nat} {F : Nat → Prop} : ∀ {l : List PT} {hs : List Nat}, PRL w base F l hs → hs.length = l.length
 | [], [], _ => rfl
 | p :: r, g :: gr, h => by rw [PRL] at h; simp [PRL.len h.2]
 | [], _ :: _, h => by rw [PRL] at h; exact h.elim
 | _ :: _, [], h => by rw [PRL] at h; exact h.elim
theorem PRL.app {w : World} {base : Nat} {F : Nat → Prop} : ∀ {a : List PT} {ha : List Nat} {b : List PT} {hb : List Nat}, PRL w base F a ha → PRL w base F b hb → PRL w base F (a ++ b) (ha ++ hb)
 | [], [], _, _, _, h => h
 | p :: r, g :: gr, _, _, h, h2 => by
  rw [PRL] at h
  rw [List.cons_append, List.cons_append, PRL]
  exact ⟨h.1, PRL.app h.2 h2⟩
 | [], _ :: _, _, _, h, _ => by rw [PRL] at h; exact h.elim
 | _ :: _, [], _, _, h, _ => by rw [PRL] at h; exact h.elim
theorem PRL.get {w : World} {base : Nat} {F : Nat → Prop} : ∀ {l : List PT} {hs : List Nat} (i : Nat) (h1 : i < l.length) (h2 : i < hs.length), PRL w base F l hs → PR w base F l[i] hs[i]
 | p :: r, g :: gr, 0, _, _, h => by rw [PRL] at h; exact h.1
 | p :: r, g :: gr, i + 1, h1, h2, h => by rw [PRL] at h; exact PRL.get i (by simpa using h1) (by simpa using h2) h.2
 | [], _, _, h1, _, _ => absurd h1 (Nat.not_lt_zero _)
 | _ :: _, [], _, _, h2, _ => absurd h2 (Nat.not_lt_zero _)
theorem idle_c (o0 : Int) (o1 o2 : Nat) (o3 o4 o5 o6 o7 o8 : Int) (w : World) : Calls Tryz.prog 68 #[.agg #[.int .i64 o0, .float .f64 o1, .float .f64 o2, .int .i64 o3, .int .i64 o4, .int .i64 o5, .int .i64 o6, .int .i64 o7, .int .i64 o8]] w fun e w' => e = .returned (.bool (idleB ⟨o0, o1, o2, o3, o4, o5, o6, o7, o8⟩)) ∧ Below w.heap.size w w' := by
 by_cases h5 : o0 = 5
 ·
  subst h5
  cases hb : (FloatKind.f64.format.order o1 4607182418800017408 == some Ordering.eq) with
  | true =>
   have B1 := Aside0.mk (xbB w (.cells #[.int .i64 5, .float .f64 o1, .float .f64 o2, .int .i64 o3, .int .i64 o4, .int .i64 o5, .int .i64 o6, .int .i64 o7, .int .i64 o8] 37))
   obtain ⟨c0, c1, c2, c3, c4, c5, c6, c7, c8, z0, z1, z2, z3, z4, z5, z6, z7, z8⟩ := blk9 B1
   go_enter Tryz.func68, Tryz.ntmps68
   go_wp2
   go_ret
   exact ⟨congrArg (fun b => Ending.returned (.bool b)) (by unfold idleB oneB; rw [hb]; rfl), xaC (Below.refl _ _) _⟩
  | false =>
   have B1 := Aside0.mk (xbB w (.cells #[.int .i64 5, .float .f64 o1, .float .f64 o2, .int .i64 o3, .int .i64 o4, .int .i64 o5, .int .i64 o6, .int .i64 o7, .int .i64 o8] 37))
   obtain ⟨c0, c1, c2, c3, c4, c5, c6, c7, c8, z0, z1, z2, z3, z4, z5, z6, z7, z8⟩ := blk9 B1
   go_enter Tryz.func68, Tryz.ntmps68
   go_wp2
   go_ret
   exact ⟨congrArg (fun b => Ending.returned (.bool b)) (by unfold idleB oneB; rw [hb]; rfl), xaC (Below.refl _ _) _⟩
 ·
  have t5 : (o0 == 5) = false := beq_eq_false_iff_ne.2 h5
  by_cases h7 : o0 = 7
  ·
   subst h7
   cases hb : (o7 == 1) with
   | true =>
    have B1 := Aside0.mk (xbB w (.cells #[.int .i64 7, .float .f64 o1, .float .f64 o2, .int .i64 o3, .int .i64 o4, .int .i64 o5, .int .i64 o6, .int .i64 o7, .int .i64 o8] 37))
    obtain ⟨c0, c1, c2, c3, c4, c5, c6, c7, c8, z0, z1, z2, z3, z4, z5, z6, z7, z8⟩ := blk9 B1
    go_enter Tryz.func68, Tryz.ntmps68
    go_wp2
    go_ret
    exact ⟨congrArg (fun b => Ending.returned (.bool b)) (by unfold idleB; simp only [hb]; rfl), xaC (Below.refl _ _) _⟩
   | false =>
    have B1 := Aside0.mk (xbB w (.cells #[.int .i64 7, .float .f64 o1, .float .f64 o2, .int .i64 o3, .int .i64 o4, .int .i64 o5, .int .i64 o6, .int .i64 o7, .int .i64 o8] 37))
    obtain ⟨c0, c1, c2, c3, c4, c5, c6, c7, c8, z0, z1, z2, z3, z4, z5, z6, z7, z8⟩ := blk9 B1
    go_enter Tryz.func68, Tryz.ntmps68
    go_wp2
    go_ret
    exact ⟨congrArg (fun b => Ending.returned (.bool b)) (by unfold idleB; simp only [hb]; rfl), xaC (Below.refl _ _) _⟩
  ·
   have t7 : (o0 == 7) = false := beq_eq_false_iff_ne.2 h7
   clear h5 h7
   have B1 := Aside0.mk (xbB w (.cells #[.int .i64 o0, .float .f64 o1, .float .f64 o2, .int .i64 o3, .int .i64 o4, .int .i64 o5, .int .i64 o6, .int .i64 o7, .int .i64 o8] 37))
   obtain ⟨c0, c1, c2, c3, c4, c5, c6, c7, c8, z0, z1, z2, z3, z4, z5, z6, z7, z8⟩ := blk9 B1
   go_enter Tryz.func68, Tryz.ntmps68
   go_wp2
   go_ret
   exact ⟨congrArg (fun b => Ending.returned (.bool b)) (by unfold idleB; simp only [t5, t7]; rfl), xaC (Below.refl _ _) _⟩
theorem cell_lt {w : World} {p : Addr} {v : Value} (h : w.cell? p = some v) : p.block < w.heap.size := by
 rcases Nat.lt_or_ge p.block w.heap.size with h1 | h1
 ·
  exact h1
 ·
  rw [World.cell?] at h
  simp [Array.getElem?_eq_none h1] at h
theorem trL_app : ∀ (a b : List PT), trL (a ++ b) = trL a ++ trL b
  | [], b => by rw [List.nil_append, trL, List.nil_append]
  | p :: r, b => by rw [List.cons_append, trL, trL, trL_app r b, List.append_assoc]
theorem trL_take {ps : List PT} {i : Nat} (h : i < ps.length) : trL (ps.take (i + 1)) = trL (ps.take i) ++ trP ps[i] := by
  rw [List.take_succ_eq_append_getElem h, trL_app, trL, trL, List.append_nil]
theorem code_pos (p : PT) : 1 ≤ (codeP p).length := by
  cases p with
  | mk o ps => rw [codeP]; simp
theorem xeM : ∀ (l : List PT), l.length ≤ (codeL l).length
  | [] => Nat.zero_le _
  | p :: r => by rw [codeL, List.length_append, List.length_cons]; have := code_pos p; have := xeM r; omega
theorem code_get : ∀ {l : List PT} {i : Nat} (h : i < l.length), (codeP l[i]).length ≤ (codeL l).length
  | p :: r, 0, _ => by rw [codeL, List.length_append]; exact Nat.le_add_right _ _
  | p :: r, i + 1, h => by rw [codeL, List.length_append]; have := code_get (l := r) (i := i) (by simpa using h); simp only [List.getElem_cons_succ]; omega
theorem xiH : ∀ (l : List PT) (i : Nat), (codeL (l.take i)).length ≤ (codeL l).length
 | [], i => by rw [List.take_nil]; exact Nat.le_refl _
 | p :: r, 0 => by rw [List.take_zero, codeL]; exact Nat.zero_le _
 | p :: r, i + 1 => by rw [List.take_succ_cons, codeL, codeL, List.length_append, List.length_append]; have := xiH r i; omega
theorem xgB {w W w6 : World} {base n1 : Nat} {F Fo F2 : Nat → Prop} {v3 v1 : Value} {l l2 : List PT} {ho h2 : List Nat} (hg : W.grownBy w6 v3.ownBlock) (hat : v1.ownBlock = v3.ownBlock ∨ ∃ b, v1.ownBlock = some b ∧ W.heap.size ≤ b)
  (how : ∀ k, v3.ownBlock = some k → w.heap.size ≤ k ∧ k < n1) (hn : w.heap.size ≤ n1) (hnW : n1 ≤ W.heap.size) (hfo : ∀ k, Fo k → (F k ∨ w.heap.size ≤ k) ∧ k < n1) (hno : ∀ k, v3.ownBlock = some k → ¬ Fo k) (hp1 : PRL W base Fo l ho)
  (hf2 : ∀ k, F2 k → ((F k ∧ k < w.heap.size) ∨ n1 ≤ k) ∧ k < W.heap.size) (hp2 : PRL W base F2 l2 h2) :
  ∃ Fn : Nat → Prop, (∀ k, Fn k → (F k ∨ w.heap.size ≤ k) ∧ k < w6.heap.size) ∧ (∀ k, v1.ownBlock = some k → ¬ Fn k) ∧ PRL w6 base Fn (l ++ l2) (ho ++ h2) := by
 have hfr : Fr (fun k => v3.ownBlock = some k) W w6 := Fr.grown (Fr.refl _ W) hg (fun k hk => Or.inl hk)
 have hsz := hfr.size
 have h1 := PRL.fr hfr (fun k h1 h2 => hno k h2 h1) _ _ hp1
 have h3 := PRL.fr hfr (fun k h1 h2 => by have := hf2 k h1; have := how k h2; omega) _ _ hp2
 refine ⟨fun k => Fo k ∨ F2 k, fun k hk => ?_, fun k hk h => ?_, PRL.app (PRL.mono (fun k h _ => Or.inl h) _ _ h1) (PRL.mono (fun k h _ => Or.inr h) _ _ h3)⟩
 ·
  rcases hk with hk | hk
  ·
   have := hfo k hk; exact ⟨this.1, by omega⟩
  ·
   have h4 := hf2 k hk
   refine ⟨?_, by omega⟩
   rcases h4.1 with h5 | h5
   ·
    exact Or.inl h5.1
   ·
    exact Or.inr (by omega)
 ·
  rcases hat with e | ⟨b, e, hb⟩
  ·
   rw [e] at hk
   rcases h with h | h
   ·
    exact hno k hk h
   ·
    have := hf2 k h; have := how k hk; omega
  ·
   rw [e] at hk; injection hk with hk; subst hk
   rcases h with h | h
   ·
    have := (hfo b h).2; omega
   ·
    have := (hf2 b h).2; omega
def TrC (n : Nat) : Prop := ∀ (ps : List PT), (codeL ps).length < n → ∀ (w : World) (base : Nat) (F : Nat → Prop) (A : Option Addr) (c : Nat) (hs : List Nat), base ≤ w.heap.size → Sl kp 124 w base F A c hs → PRL w base F ps hs →
    Calls Tryz.prog 43 #[.slice A ps.length c] w fun e w' => ∃ A' c' hs', e = .returned (.slice A' (trL ps).length c') ∧ hs'.length = (trL ps).length ∧ Sl kp 124 w' w.heap.size (fun _ => True) A' c' hs' ∧ PRL w' base (fun k => F k ∨ w.heap.size ≤ k) (trL ps) hs' ∧ Below w.heap.size w w'
theorem trim_step (n : Nat) (ih : TrC n) (ps : List PT) (hn : (codeL ps).length < n + 1) (hmax : (codeL ps).length ≤ 8192) (w : World) (base : Nat) (F : Nat → Prop) (A : Option Addr) (c : Nat) (hs : List Nat) (hbase : base ≤ w.heap.size) (hS : Sl kp 124 w base F A c hs) (hP : PRL w base F ps hs) :
  Calls Tryz.prog 43 #[.slice A ps.length c] w fun e w' => ∃ A' c' hs', e = .returned (.slice A' (trL ps).length c') ∧ hs'.length = (trL ps).length ∧ Sl kp 124 w' w.heap.size (fun _ => True) A' c' hs' ∧ PRL w' base (fun k => F k ∨ w.heap.size ≤ k) (trL ps) hs' ∧ Below w.heap.size w w' := by
 obtain ⟨F0, hF0⟩ : ∃ F0 : Nat → Prop, F0 = fun k => F k ∧ k < w.heap.size := ⟨_, rfl⟩
 have hP : PRL w base F0 ps hs := PRL.mono (fun k h1 h2 => by rw [hF0]; exact ⟨h1, h2⟩) ps hs hP
 have HF0 : Aside0 (∀ k, F0 k → F k ∧ k < w.heap.size) := ⟨fun k hk => by rw [hF0] at hk; exact hk⟩
 clear hF0;have hlen := hP.len;have hC := hS.C
 rw [hlen] at hC
 have HLEN := Aside0.mk hlen;have HC := Aside0.mk hC;have HP := Aside0.mk hP;have HIH := Aside0.mk ih;have HN := Aside0.mk hn
 have HPL : Aside0 (ps.length ≤ 8192) := ⟨Nat.le_trans (xeM ps) hmax⟩
 have HOL : Aside0 (∀ i, (trL (ps.take i)).length ≤ 8192) := ⟨fun i => Nat.le_trans (xeM _) (Nat.le_trans (xfT _).2 (Nat.le_trans (xiH ps i) hmax))⟩
 have HBASE := Aside0.mk hbase;have HMAX := Aside0.mk hmax
 have HB0 := Aside0.mk (Below.refl w.heap.size w)
 clear ih hn hmax hbase hS hP hlen hC
 go_enter Tryz.func43, Tryz.ntmps43
 go_wp2_with fail
 go_loopg [3, 9] (ps.length) (fun kq v3 v9 w' => ∃ (i : Nat) (ho : List Nat) (Fo : Nat → Prop), kq + i = ps.length ∧ i ≤ ps.length ∧ v9 = .int .i64 i ∧ Aside0 (∀ k, Fo k → (F k ∨ w.heap.size ≤ k) ∧ k < w'.heap.size) ∧ Aside0 (∀ k, v3.ownBlock = some k → ¬ Fo k) ∧ Aside0 (Kd.R kp 124 w' w.heap.size (fun _ => True) v3 ho) ∧ Aside0 (PRL w' base Fo (trL (ps.take i)) ho) ∧ Aside0 (Below w.heap.size w w'))
 case atStart => exact ⟨0, [], fun _ => False, by omega, by omega, rfl, ⟨fun k h => h.elim⟩, ⟨fun k _ h => h⟩, ⟨Kd.R_nil _ _ _ _ _⟩, ⟨by rw [List.take_zero, trL, PRL]; trivial⟩, ⟨by repeat (first | exact HB0.out | apply xaJ | apply xaM)⟩⟩
 case round =>
  obtain ⟨i, ho, Fo, hk, hi, rfl, HFO, HNO, HO, HOP, HBW⟩ := hrel
  by_cases hlt : i < ps.length
  ·
   have hilt : i < hs.length := by rw [HLEN.out]; exact hlt
   obtain ⟨ad, cc, hA, _, hK, hc⟩ := Kd.C_get (Kd.xbP HC.out HBW.out) 0 (i : Int) (by omega) (by omega)
   subst hA
   have hcell : wr.cell? (ad.add i) = some (encP hs[i]) := by
    have h1 : cc = [encP (hs.getD (i : Int).toNat 0)] := hK
    have h2 := hc 0 (encP (hs.getD (i : Int).toNat 0)) (by rw [h1]; rfl)
    rw [Int.toNat_natCast] at h2
    rw [List.getD_eq_getElem?_getD, List.getElem?_eq_getElem hilt, show i * kp.sz + 0 = i from (by show i * 1 + 0 = i; omega)] at h2
    exact h2
   have hpr := HP.out.get i hlt hilt
   have HT := Aside0.mk (trL_take hlt)
   have HCG := Aside0.mk (code_get hlt)
   generalize hs[i] = g at hcell hpr
   generalize ps[i] = p at hpr HT HCG
   obtain ⟨o, qs⟩ := p
   have HPR := Aside0.mk (hpr.below HBW.out)
   rw [PR] at hpr
   obtain ⟨hFg, A1, c1, hq, hblk, hql, hS1, hP1⟩ := hpr
   have BP := Aside0.mk (xaK hblk HBW.out)
   have HS1 := Aside0.mk (hS1.below HBW.out)
   have HP1 := Aside0.mk (hP1.below HBW.out)
   have HQL := Aside0.mk hql;have HFG := Aside0.mk hFg
   have hmx : (i : Int) + 1 ≤ 9223372036854775807 := by have := HPL.out; omega
   clear hK hc hblk hql hS1 hP1 hFg
   unfold encP at hcell
   unfold cellsP at BP
   obtain ⟨pc0, pc1, pc2, pc3, pc4, pc5, pc6, pc7, pc8, pc9, pz0, pz1, pz2, pz3, pz4, pz5, pz6, pz7, pz8, pz9⟩ := blk10 BP
   by_cases ha : addsB o.f0 = true
   ·
    have HADD := Aside0.mk ha
    go_wp2_with (first | (go_at_call 67; (with_reducible refine (adds_c _ _).mono ?_); rintro e w' ⟨rfl, hw_⟩; obtain rfl := hw_.symm) | ((with_reducible refine xaR (b := .append) (xs := #[.tmp 19, .tmp 21]) rfl ?_); at_builtin; refine Kd.xbZ kp (w0 := w) w.heap.size rfl (.tmp 19) (.tmp 21) 97 124 (.pointer none) 8 rfl Tryz.underlying97 xfA rfl (by decide) (by omega) u3 ho g [encP g] (fun _ => True) (fun _ => False) rfl ?aX rfl (fun _ hk => hk.elim) (fun _ _ => trivial) ?aR ?aB ?aS ?aL ?_; (case aX => show Value.slice (some ⟨_, 0, none⟩) 1 1 = _; simp); (case aR => repeat (first | exact HO.out | apply Kd.xbJ | apply Kd.xbK | apply Kd.R_drew)); (case aB => repeat (first | exact HBW.out | apply xaC | apply xaJ | apply xaM)); (case aS => exact xbG (by repeat (first | exact HBW.out | apply xaC | apply xaJ | apply xaM))); (case aL => have := HOL.out i; have := HOP.out.len; omega); intro v1 w6 ho1 hb hg hat; have HO0 := HO; replace HO := Aside0.mk ho1; have HAT := Aside0.mk hat; have HGR := Aside0.mk hg; have HBX := Aside0.mk hb; clear ho1 hb hg hat))
    have HOW : Aside0 (∀ k, u3.ownBlock = some k → w.heap.size ≤ k ∧ k < wr.heap.size) := ⟨fun k hk => ⟨((Kd.xeC HO0.out).1 k hk).2.1, ((Kd.xeC HO0.out).1 k hk).2.2.1⟩⟩
    have hfr : Fr (fun k => u3.ownBlock = some k) wr w6 := Fr.grown (Fr.refl _ wr) HGR.out (fun k hk => Or.inl hk)
    have hp1 := PRL.fr hfr (fun k h1 h2 => HNO.out k h2 h1) _ _ HOP.out
    have hp2 := PR.fr hfr (fun k h1 h2 => by have := (HF0.out k h1).2; have := (HOW.out k h2).1; omega) _ _ HPR.out
    have hsz := hfr.size
    obtain ⟨Fn, hFn⟩ : ∃ Fn : Nat → Prop, Fn = fun k => Fo k ∨ F0 k := ⟨_, rfl⟩
    have hp3 : PRL w6 base Fn (trL (ps.take (i + 1))) (ho ++ [g]) := by
     rw [HT.out, trP, if_pos HADD.out]
     exact PRL.app (PRL.mono (fun k h _ => by rw [hFn]; exact Or.inl h) _ _ hp1) (by rw [PRL, PRL]; exact ⟨PR.mono (fun k h _ => by rw [hFn]; exact Or.inr h) _ _ hp2, trivial⟩)
    have HP3 := Aside0.mk hp3
    have HFN : Aside0 (∀ k, Fn k → (F k ∨ w.heap.size ≤ k) ∧ k < w6.heap.size) := ⟨fun k hk => by
     rw [hFn] at hk
     rcases hk with hk | hk
     ·
      have := HFO.out k hk; exact ⟨this.1, by omega⟩
     ·
      have := HF0.out k hk; have := HBW.out.size; exact ⟨Or.inl (HF0.out k hk).1, by omega⟩⟩
    have HNN : Aside0 (∀ k, v1.ownBlock = some k → ¬ Fn k) := ⟨fun k hk h => by
     rw [hFn] at h
     rcases HAT.out with e | ⟨b, e, hb⟩
     ·
      rw [e] at hk
      rcases h with h | h
      ·
       exact HNO.out k hk h
      ·
       have := (HF0.out k h).2; have := (HOW.out k hk).1; omega
     ·
      rw [e] at hk; injection hk with hk; subst hk
      rcases h with h | h
      ·
       have := (HFO.out b h).2; omega
      ·
       have := (HF0.out b h).2; have := HBW.out.size; omega⟩
    clear hp1 hp2 hp3 hFn hfr hsz
    go_roundg (gk - 1)
    case measure => omega
    case rel => exact ⟨i + 1, ho ++ [g], Fn, by omega, by omega, by go_num, HFN, HNN, HO, HP3, HBX⟩
   ·
    have haf : addsB o.f0 = false := Bool.eq_false_iff.2 ha
    have HADD := Aside0.mk haf
    have hrec := HIH.out qs (by have h1 := HCG.out; rw [codeP, if_neg ha] at h1; simp only [List.length_append, List.length_cons, List.length_nil] at h1; have := HN.out; omega) wr base F0 A1 c1 hq (by have := HBASE.out; have := HBW.out.size; omega) HS1.out HP1.out
    have HREC := Aside0.mk hrec
    have HT2 : Aside0 (trL (ps.take (i + 1)) = trL (ps.take i) ++ joinP o (trL qs)) := ⟨by rw [HT.out, trP, if_neg ha]⟩
    have HILQ : Aside0 ((trL qs).length ≤ 8192) := ⟨by
     have h1 := HCG.out; rw [codeP, if_neg ha] at h1; simp only [List.length_append, List.length_cons, List.length_nil] at h1
     have := xeM (trL qs); have := (xfT qs).2; have := HMAX.out; omega⟩
    have HOW : Aside0 (∀ k, u3.ownBlock = some k → w.heap.size ≤ k ∧ k < wr.heap.size) := ⟨fun k hk => ⟨((Kd.xeC HO.out).1 k hk).2.1, ((Kd.xeC HO.out).1 k hk).2.2.1⟩⟩
    have HWR := Aside0.mk HBW.out.size
    have HILC : Aside0 ((codeL (trL qs)).length ≤ 8192) := ⟨by
     have h1 := HCG.out; rw [codeP, if_neg ha] at h1; simp only [List.length_append, List.length_cons, List.length_nil] at h1
     have := (xfT qs).2; have := HMAX.out; omega⟩
    clear hrec ha haf
    go_upto_region 9 with (first | (go_at_call 67; (with_reducible refine (adds_c _ _).mono ?_); rintro e w' ⟨rfl, hw_⟩; obtain rfl := hw_.symm; rw [HADD.out]) | (go_at_call 43; (with_reducible refine (HREC.out).mono ?_); rintro e w5 ⟨A2, c2, h2, rfl, hl2, hs2, hp2, hb⟩; have HS2 := Aside0.mk hs2; have HP2 := Aside0.mk (PRL.mono (G := fun k => (F0 k ∨ wr.heap.size ≤ k) ∧ k < w5.heap.size) (fun k h1 h2 => ⟨h1, h2⟩) _ _ hp2); have HL2 := Aside0.mk hl2; have HZ5 := Aside0.mk hb.size; replace HO := Aside0.mk (Kd.xbL HO.out hb); replace HOP := Aside0.mk (HOP.out.below hb); replace BP := Aside0.mk (xaK BP.out hb); replace HBW := Aside0.mk (xaV HBW.out hb); clear hl2 hs2 hp2 hb; clear pc0 pz0 pc1 pz1 pc2 pz2 pc3 pz3 pc4 pz4 pc5 pz5 pc6 pz6 pc7 pz7 pc8 pz8 pc9 pz9; obtain ⟨pc0, pc1, pc2, pc3, pc4, pc5, pc6, pc7, pc8, pc9, pz0, pz1, pz2, pz3, pz4, pz5, pz6, pz7, pz8, pz9⟩ := blk10 BP))
    clear HREC
    generalize trL qs = inn at HT2 HILQ HILC HS2 HP2 HL2 ⊢
    by_cases hne : inn = []
    ·
     subst hne
     have HFO5 : Aside0 (∀ k, Fo k → (F k ∨ w.heap.size ≤ k) ∧ k < w5.heap.size) := ⟨fun k hk => ⟨(HFO.out k hk).1, by have := (HFO.out k hk).2; have := HZ5.out; omega⟩⟩
     have HOP5 : Aside0 (PRL w5 base Fo (trL (ps.take (i + 1))) ho) := ⟨by rw [HT2.out, joinP, List.append_nil]; exact HOP.out⟩
     go_wp2_with fail
     go_roundg (gk - 1)
     case measure => omega
     case rel => exact ⟨i + 1, ho, Fo, by omega, by omega, by go_num, HFO5, HNO, HO, HOP5, HBW⟩
    ·
     have t8 : ((inn.length : Int) == 0) = false := by rw [beq_eq_false_iff_ne]; have := List.length_pos_iff.2 hne; omega
     have HNE := Aside0.mk hne;clear hne
     cases hid : idleB o with
     | true =>
      have HID := Aside0.mk (show idleB ⟨o.f0, o.f1, o.f2, o.f3, o.f4, o.f5, o.f6, o.f7, o.f8⟩ = true from hid)
      have HIO := Aside0.mk hid;clear hid
      go_wp2_with (first | (go_at_call 68; (with_reducible refine (idle_c _ _ _ _ _ _ _ _ _ _).mono ?_); rintro e w7 ⟨he, hb⟩; rw [HID.out] at he; obtain rfl := he; replace HO := Aside0.mk (Kd.xbL HO.out hb); replace HOP := Aside0.mk (HOP.out.below hb); replace HS2 := Aside0.mk (HS2.out.below hb); replace HP2 := Aside0.mk (HP2.out.below hb); replace BP := Aside0.mk (xaK BP.out hb); have HZ7 := Aside0.mk hb.size; replace HBW := Aside0.mk (xaV HBW.out hb); clear hb; clear pc0 pz0 pc1 pz1 pc2 pz2 pc3 pz3 pc4 pz4 pc5 pz5 pc6 pz6 pc7 pz7 pc8 pz8 pc9 pz9; obtain ⟨pc0, pc1, pc2, pc3, pc4, pc5, pc6, pc7, pc8, pc9, pz0, pz1, pz2, pz3, pz4, pz5, pz6, pz7, pz8, pz9⟩ := blk10 BP) | ((with_reducible refine xaR (b := .append) (xs := #[.tmp 48, .tmp 49]) rfl ?_); at_builtin; refine Kd.xdH kp (w0 := w) w.heap.size rfl (.tmp 48) (.tmp 49) 97 124 (.pointer none) 8 rfl Tryz.underlying97 xfA rfl (by decide) (by omega) u3 ho h2 A2 inn.length c2 (fun _ => True) (fun _ => False) rfl rfl HO.out ?aR (fun _ _ h => h) (fun _ h => h.elim) (fun _ _ => trivial) HBW.out HBW.out.size ?aL ?_; (case aR => have h3 := HS2.out.C; rw [HL2.out] at h3; exact h3); (case aL => have := HOL.out i; have := HOP.out.len; have := HILQ.out; have := HL2.out; omega); intro v1 w6 ho1 hb hg hat; have HO1 := Aside0.mk ho1; have HAT := Aside0.mk hat; have HGR := Aside0.mk hg; have HBX := Aside0.mk hb; clear ho1 hb hg hat))
      have HT3 : Aside0 (trL (ps.take (i + 1)) = trL (ps.take i) ++ inn) := ⟨by
       rw [HT2.out]
       have h1 := HNE.out
       match inn, h1 with
       | [], h1 => exact absurd rfl h1
       | [.mk o' ps'], h1 => rw [joinP, if_pos HIO.out]
       | p1 :: p2 :: r, h1 => rw [joinP, if_pos HIO.out]⟩
      obtain ⟨Fn, hFn, hNn, hPn⟩ := xgB (w := w) (F := F) HGR.out HAT.out HOW.out HWR.out (by have := HZ5.out; have := HZ7.out; omega) HFO.out HNO.out HOP.out (fun k hk => ⟨hk.1.imp_left (HF0.out k), by have := hk.2; have := HZ7.out; omega⟩) HP2.out
      rw [← HT3.out] at hPn
      have HFN := Aside0.mk hFn;have HNN := Aside0.mk hNn;have HPN := Aside0.mk hPn;clear hFn hNn hPn
      go_roundg (gk - 1)
      case measure => omega
      case rel => exact ⟨i + 1, ho ++ h2, Fn, by omega, by omega, by go_num, HFN, HNN, HO1, HPN, HBX⟩
     | false =>
      have HID := Aside0.mk (show idleB ⟨o.f0, o.f1, o.f2, o.f3, o.f4, o.f5, o.f6, o.f7, o.f8⟩ = false from hid)
      have HIO := Aside0.mk (show ¬ idleB o = true by rw [hid]; decide)
      clear hid
      by_cases h4 : o.f0 = 4
      ·
       have t9 : (o.f0 == 4) = true := beq_iff_eq.2 h4
       by_cases h1 : inn.length = 1
       ·
        obtain ⟨q1, hq1⟩ := List.length_eq_one_iff.1 h1
        obtain ⟨o', ps'⟩ := q1
        have HLI := Aside0.mk h1
        rw [h1]
        clear t8
        have hl2 : h2.length = 1 := by rw [HL2.out, h1]
        obtain ⟨g2, hg2⟩ := List.length_eq_one_iff.1 hl2
        have hp9 := HP2.out
        rw [hq1, hg2, PRL] at hp9
        have hp2 := hp9.1;clear hp9;have hC2 := HS2.out.C
        rw [hl2, hg2] at hC2
        obtain ⟨ad2, cc2, hA2, hcl2, hK2, hc2⟩ := Kd.C_get hC2 0 0 (by omega) (by decide)
        subst hA2
        have HCELL2 : Aside0 (w5.cell? ad2 = some (.pointer (some ⟨g2, 0, none⟩))) := ⟨by
         have h5 : cc2 = [encP g2] := hK2
         have h6 := hc2 0 (encP g2) (by rw [h5]; rfl)
         exact h6⟩
        rw [PR] at hp2
        obtain ⟨hF2, A3, c3, h3, hblk2, hl3, hS3, hP3⟩ := hp2
        unfold cellsP at hblk2
        have B2 := Aside0.mk hblk2;have HS3 := Aside0.mk hS3;have HP3 := Aside0.mk hP3;have HL3 := Aside0.mk hl3;have HEQ := Aside0.mk hq1;have H4 := Aside0.mk h4;clear hcl2 hK2 hc2 hC2 hblk2 hl3 hS3 hP3 hF2 hl2 hg2 hq1 h1 h4
        by_cases h5 : o'.f0 = 4
        ·
         have t11 : (o'.f0 == 4) = true := beq_iff_eq.2 h5
         have HJ : Aside0 (trL (ps.take (i + 1)) = trL (ps.take i) ++ ps') := ⟨by rw [HT2.out, HEQ.out, joinP, if_neg HIO.out, if_pos ⟨H4.out, h5⟩]⟩
         have HPL3 : Aside0 (ps'.length ≤ 8192) := ⟨by
          have h7 := HILC.out
          rw [HEQ.out, codeL, codeL, codeP, if_neg (fun h => by have := (xbV o'.f0).1 h; omega)] at h7
          simp only [List.length_append, List.length_cons, List.length_nil] at h7
          have := xeM ps'
          omega⟩
         clear h5
         go_wp2_with (first | (go_at_call 68; (with_reducible refine (idle_c _ _ _ _ _ _ _ _ _ _).mono ?_); rintro e w7 ⟨he, hb⟩; rw [HID.out] at he; obtain rfl := he; replace HO := Aside0.mk (Kd.xbL HO.out hb); replace HOP := Aside0.mk (HOP.out.below hb); replace HS2 := Aside0.mk (HS2.out.below hb); replace HP2 := Aside0.mk (HP2.out.below hb); replace BP := Aside0.mk (xaK BP.out hb); have HZ7 := Aside0.mk hb.size; have hcell2 := (hb.cell (p := ad2) (cell_lt HCELL2.out)).trans HCELL2.out; replace B2 := Aside0.mk (xaK B2.out hb); have qc0 : w7.cell? ⟨g2, 0, none⟩ = some (.int .i64 o'.f0) := (xaA B2.out 0).trans rfl; have qc9 : w7.cell? ⟨g2, 9, none⟩ = some (.slice A3 ps'.length c3) := (xaA B2.out 9).trans rfl; replace HS3 := Aside0.mk (HS3.out.below hb); replace HP3 := Aside0.mk (HP3.out.below hb); replace HBW := Aside0.mk (xaV HBW.out hb); clear hb; clear pc0 pz0 pc1 pz1 pc2 pz2 pc3 pz3 pc4 pz4 pc5 pz5 pc6 pz6 pc7 pz7 pc8 pz8 pc9 pz9; obtain ⟨pc0, pc1, pc2, pc3, pc4, pc5, pc6, pc7, pc8, pc9, pz0, pz1, pz2, pz3, pz4, pz5, pz6, pz7, pz8, pz9⟩ := blk10 BP) | ((with_reducible refine xaR (b := .append) (xs := #[.tmp 73, .tmp 79]) rfl ?_); at_builtin; refine Kd.xdH kp (w0 := w) w.heap.size rfl (.tmp 73) (.tmp 79) 97 124 (.pointer none) 8 rfl Tryz.underlying97 xfA rfl (by decide) (by omega) u3 ho h3 A3 ps'.length c3 (fun _ => True) (fun _ => False) rfl rfl HO.out ?aR (fun _ _ h => h) (fun _ h => h.elim) (fun _ _ => trivial) HBW.out HBW.out.size ?aL ?_; (case aR => have h5 := HS3.out.C; rw [HL3.out] at h5; exact h5); (case aL => have := HOL.out i; have := HOP.out.len; have := HPL3.out; have := HL3.out; omega); intro v1 w6 ho1 hb hg hat; have HO1 := Aside0.mk ho1; have HAT := Aside0.mk hat; have HGR := Aside0.mk hg; have HBX := Aside0.mk hb; clear ho1 hb hg hat))
         obtain ⟨Fn, hFn, hNn, hPn⟩ := xgB (w := w) (F := F) (F2 := fun k => (F0 k ∨ wr.heap.size ≤ k) ∧ k < w5.heap.size) (l2 := ps') (h2 := h3) HGR.out HAT.out HOW.out HWR.out (by have := HZ5.out; have := HZ7.out; omega) HFO.out HNO.out HOP.out (fun k hk => ⟨hk.1.imp_left (HF0.out k), by have := hk.2; have := HZ7.out; omega⟩) HP3.out
         rw [← HJ.out] at hPn
         have HFN := Aside0.mk hFn;have HNN := Aside0.mk hNn;have HPN := Aside0.mk hPn;clear hFn hNn hPn
         go_roundg (gk - 1)
         case measure => omega
         case rel => exact ⟨i + 1, ho ++ h3, Fn, by omega, by omega, by go_num, HFN, HNN, HO1, HPN, HBX⟩
        ·
         have t11 : (o'.f0 == 4) = false := beq_eq_false_iff_ne.2 h5
         have HJ : Aside0 (trL (ps.take (i + 1)) = trL (ps.take i) ++ [.mk o inn]) := ⟨by rw [HT2.out, HEQ.out, joinP, if_neg HIO.out, if_neg (fun h => h5 h.2)]⟩
         clear h5
         go_wp2_with (first | (go_at_call 68; (with_reducible refine (idle_c _ _ _ _ _ _ _ _ _ _).mono ?_); rintro e w7 ⟨he, hb⟩; rw [HID.out] at he; obtain rfl := he; replace HO := Aside0.mk (Kd.xbL HO.out hb); replace HOP := Aside0.mk (HOP.out.below hb); replace HS2 := Aside0.mk (HS2.out.below hb); replace HP2 := Aside0.mk (HP2.out.below hb); replace BP := Aside0.mk (xaK BP.out hb); have HZ7 := Aside0.mk hb.size; have hcell2 := (hb.cell (p := ad2) (cell_lt HCELL2.out)).trans HCELL2.out; replace B2 := Aside0.mk (xaK B2.out hb); have qc0 : w7.cell? ⟨g2, 0, none⟩ = some (.int .i64 o'.f0) := (xaA B2.out 0).trans rfl; have qc9 : w7.cell? ⟨g2, 9, none⟩ = some (.slice A3 ps'.length c3) := (xaA B2.out 9).trans rfl; replace HS3 := Aside0.mk (HS3.out.below hb); replace HP3 := Aside0.mk (HP3.out.below hb); replace HBW := Aside0.mk (xaV HBW.out hb); clear hb; clear pc0 pz0 pc1 pz1 pc2 pz2 pc3 pz3 pc4 pz4 pc5 pz5 pc6 pz6 pc7 pz7 pc8 pz8 pc9 pz9; obtain ⟨pc0, pc1, pc2, pc3, pc4, pc5, pc6, pc7, pc8, pc9, pz0, pz1, pz2, pz3, pz4, pz5, pz6, pz7, pz8, pz9⟩ := blk10 BP) | ((with_reducible refine xaU (N := 35) rfl ?_); refine xaT ?hg (N := 35) ?hd (cs := #[.int .i64 o.f0, .float .f64 o.f1, .float .f64 o.f2, .int .i64 o.f3, .int .i64 o.f4, .int .i64 o.f5, .int .i64 o.f6, .int .i64 o.f7, .int .i64 o.f8, .slice (some ad2) 1 c2]) (t := 126) ?hr ?_; (case hd => rfl); (case hg => rfl); (case hr => first | (go_simp; done) | (go_simp; rfl)); intro gn hgn w8 hbox hb; have BN := Aside0.mk hbox; have HGN := Aside0.mk hgn; replace HO := Aside0.mk (Kd.xbL HO.out hb); replace HOP := Aside0.mk (HOP.out.below hb); replace HS2 := Aside0.mk (HS2.out.below hb); replace HP2 := Aside0.mk (HP2.out.below hb); have HZ8 := Aside0.mk hb.size; replace HBW := Aside0.mk (xaV HBW.out hb); clear hb hbox hgn hcell2 qc0 qc9; clear pc0 pz0 pc1 pz1 pc2 pz2 pc3 pz3 pc4 pz4 pc5 pz5 pc6 pz6 pc7 pz7 pc8 pz8 pc9 pz9) | ((with_reducible refine xaR (b := .append) (xs := #[.tmp 28, .tmp 36]) rfl ?_); at_builtin; refine Kd.xbZ kp (w0 := w) w.heap.size rfl (.tmp 28) (.tmp 36) 97 124 (.pointer none) 8 rfl Tryz.underlying97 xfA rfl (by decide) (by omega) u3 ho gn [encP gn] (fun _ => True) (fun _ => False) rfl ?aX rfl (fun _ hk => hk.elim) (fun _ _ => trivial) ?aR ?aB ?aS ?aL ?_; (case aX => show Value.slice (some ⟨_, 0, none⟩) 1 1 = _; simp); (case aR => repeat (first | exact HO.out | apply Kd.xbJ | apply Kd.xbK | apply Kd.R_drew)); (case aB => repeat (first | exact HBW.out | apply xaC | apply xaJ | apply xaM)); (case aS => exact xbG (by repeat (first | exact HBW.out | apply xaC | apply xaJ | apply xaM))); (case aL => have := HOL.out i; have := HOP.out.len; omega); intro v1 w6 ho1 hb hg hat; have HO1 := Aside0.mk ho1; have HAT := Aside0.mk hat; have HGR := Aside0.mk hg; have HBX := Aside0.mk hb; clear ho1 hb hg hat))
         have hpn : PR w8 base (fun k => (F0 k ∨ wr.heap.size ≤ k) ∧ k < w8.heap.size) (.mk o inn) gn := by
          rw [PR]
          exact ⟨⟨Or.inr (by rw [HGN.out]; have := HZ5.out; have := HZ7.out; omega), blk_lt BN.out⟩, some ad2, c2, h2, (by unfold cellsP; rw [HLI.out]; exact BN.out), HL2.out, ((HS2.out.new).mono (fun k h _ => ⟨Or.inr h.1, h.2⟩)).low (by have := HBASE.out; have := HWR.out; omega), PRL.mono (fun k h _ => ⟨h.1, by have := h.2; have := HZ7.out; have := HZ8.out; omega⟩) _ _ HP2.out⟩
         obtain ⟨Fn, hFn, hNn, hPn⟩ := xgB (w := w) (F := F) (F2 := fun k => (F0 k ∨ wr.heap.size ≤ k) ∧ k < w8.heap.size) (l2 := [.mk o inn]) (h2 := [gn]) HGR.out HAT.out HOW.out HWR.out (by have := HZ5.out; have := HZ7.out; have := HZ8.out; omega) HFO.out HNO.out HOP.out (fun k hk => ⟨hk.1.imp_left (HF0.out k), hk.2⟩) (by rw [PRL, PRL]; exact ⟨hpn, trivial⟩)
         rw [← HJ.out] at hPn
         have HFN := Aside0.mk hFn;have HNN := Aside0.mk hNn;have HPN := Aside0.mk hPn;clear hFn hNn hPn hpn
         go_roundg (gk - 1)
         case measure => omega
         case rel => exact ⟨i + 1, ho ++ [gn], Fn, by omega, by omega, by go_num, HFN, HNN, HO1, HPN, HBX⟩
       ·
        have t10 : ((inn.length : Int) == 1) = false := by rw [beq_eq_false_iff_ne]; omega
        have HJ : Aside0 (trL (ps.take (i + 1)) = trL (ps.take i) ++ [.mk o inn]) := ⟨by
         rw [HT2.out]
         have h2 := HNE.out
         match inn, h2, h1 with
         | [], h2, h1 => exact absurd rfl h2
         | [.mk o' ps'], h2, h1 => exact absurd rfl h1
         | p1 :: p2 :: r, h2, h1 => rw [joinP, if_neg HIO.out]⟩
        clear h4 h1
        go_wp2_with (first | (go_at_call 68; (with_reducible refine (idle_c _ _ _ _ _ _ _ _ _ _).mono ?_); rintro e w7 ⟨he, hb⟩; rw [HID.out] at he; obtain rfl := he; replace HO := Aside0.mk (Kd.xbL HO.out hb); replace HOP := Aside0.mk (HOP.out.below hb); replace HS2 := Aside0.mk (HS2.out.below hb); replace HP2 := Aside0.mk (HP2.out.below hb); replace BP := Aside0.mk (xaK BP.out hb); have HZ7 := Aside0.mk hb.size; replace HBW := Aside0.mk (xaV HBW.out hb); clear hb; clear pc0 pz0 pc1 pz1 pc2 pz2 pc3 pz3 pc4 pz4 pc5 pz5 pc6 pz6 pc7 pz7 pc8 pz8 pc9 pz9; obtain ⟨pc0, pc1, pc2, pc3, pc4, pc5, pc6, pc7, pc8, pc9, pz0, pz1, pz2, pz3, pz4, pz5, pz6, pz7, pz8, pz9⟩ := blk10 BP) | ((with_reducible refine xaU (N := 35) rfl ?_); refine xaT ?hg (N := 35) ?hd (cs := #[.int .i64 o.f0, .float .f64 o.f1, .float .f64 o.f2, .int .i64 o.f3, .int .i64 o.f4, .int .i64 o.f5, .int .i64 o.f6, .int .i64 o.f7, .int .i64 o.f8, .slice A2 inn.length c2]) (t := 126) ?hr ?_; (case hd => rfl); (case hg => rfl); (case hr => first | (go_simp; done) | (go_simp; rfl)); intro gn hgn w8 hbox hb; have BN := Aside0.mk hbox; have HGN := Aside0.mk hgn; replace HO := Aside0.mk (Kd.xbL HO.out hb); replace HOP := Aside0.mk (HOP.out.below hb); replace HS2 := Aside0.mk (HS2.out.below hb); replace HP2 := Aside0.mk (HP2.out.below hb); have HZ8 := Aside0.mk hb.size; replace HBW := Aside0.mk (xaV HBW.out hb); clear hb hbox hgn; clear pc0 pz0 pc1 pz1 pc2 pz2 pc3 pz3 pc4 pz4 pc5 pz5 pc6 pz6 pc7 pz7 pc8 pz8 pc9 pz9) | ((with_reducible refine xaR (b := .append) (xs := #[.tmp 28, .tmp 36]) rfl ?_); at_builtin; refine Kd.xbZ kp (w0 := w) w.heap.size rfl (.tmp 28) (.tmp 36) 97 124 (.pointer none) 8 rfl Tryz.underlying97 xfA rfl (by decide) (by omega) u3 ho gn [encP gn] (fun _ => True) (fun _ => False) rfl ?aX rfl (fun _ hk => hk.elim) (fun _ _ => trivial) ?aR ?aB ?aS ?aL ?_; (case aX => show Value.slice (some ⟨_, 0, none⟩) 1 1 = _; simp); (case aR => repeat (first | exact HO.out | apply Kd.xbJ | apply Kd.xbK | apply Kd.R_drew)); (case aB => repeat (first | exact HBW.out | apply xaC | apply xaJ | apply xaM)); (case aS => exact xbG (by repeat (first | exact HBW.out | apply xaC | apply xaJ | apply xaM))); (case aL => have := HOL.out i; have := HOP.out.len; omega); intro v1 w6 ho1 hb hg hat; have HO1 := Aside0.mk ho1; have HAT := Aside0.mk hat; have HGR := Aside0.mk hg; have HBX := Aside0.mk hb; clear ho1 hb hg hat))
        have hpn : PR w8 base (fun k => (F0 k ∨ wr.heap.size ≤ k) ∧ k < w8.heap.size) (.mk o inn) gn := by
         rw [PR]
         exact ⟨⟨Or.inr (by rw [HGN.out]; have := HZ5.out; have := HZ7.out; omega), blk_lt BN.out⟩, A2, c2, h2, BN.out, HL2.out, ((HS2.out.new).mono (fun k h _ => ⟨Or.inr h.1, h.2⟩)).low (by have := HBASE.out; have := HWR.out; omega), PRL.mono (fun k h _ => ⟨h.1, by have := h.2; have := HZ7.out; have := HZ8.out; omega⟩) _ _ HP2.out⟩
        obtain ⟨Fn, hFn, hNn, hPn⟩ := xgB (w := w) (F := F) (F2 := fun k => (F0 k ∨ wr.heap.size ≤ k) ∧ k < w8.heap.size) (l2 := [.mk o inn]) (h2 := [gn]) HGR.out HAT.out HOW.out HWR.out (by have := HZ5.out; have := HZ7.out; have := HZ8.out; omega) HFO.out HNO.out HOP.out (fun k hk => ⟨hk.1.imp_left (HF0.out k), hk.2⟩) (by rw [PRL, PRL]; exact ⟨hpn, trivial⟩)
        rw [← HJ.out] at hPn
        have HFN := Aside0.mk hFn;have HNN := Aside0.mk hNn;have HPN := Aside0.mk hPn;clear hFn hNn hPn hpn
        go_roundg (gk - 1)
        case measure => omega
        case rel => exact ⟨i + 1, ho ++ [gn], Fn, by omega, by omega, by go_num, HFN, HNN, HO1, HPN, HBX⟩
      ·
       have t9 : (o.f0 == 4) = false := beq_eq_false_iff_ne.2 h4
       have HJ : Aside0 (trL (ps.take (i + 1)) = trL (ps.take i) ++ [.mk o inn]) := ⟨by
        rw [HT2.out]
        have h1 := HNE.out
        match inn, h1 with
        | [], h1 => exact absurd rfl h1
        | [.mk o' ps'], h1 => rw [joinP, if_neg HIO.out, if_neg (fun h => h4 h.1)]
        | p1 :: p2 :: r, h1 => rw [joinP, if_neg HIO.out]⟩
       clear h4
       go_wp2_with (first | (go_at_call 68; (with_reducible refine (idle_c _ _ _ _ _ _ _ _ _ _).mono ?_); rintro e w7 ⟨he, hb⟩; rw [HID.out] at he; obtain rfl := he; replace HO := Aside0.mk (Kd.xbL HO.out hb); replace HOP := Aside0.mk (HOP.out.below hb); replace HS2 := Aside0.mk (HS2.out.below hb); replace HP2 := Aside0.mk (HP2.out.below hb); replace BP := Aside0.mk (xaK BP.out hb); have HZ7 := Aside0.mk hb.size; replace HBW := Aside0.mk (xaV HBW.out hb); clear hb; clear pc0 pz0 pc1 pz1 pc2 pz2 pc3 pz3 pc4 pz4 pc5 pz5 pc6 pz6 pc7 pz7 pc8 pz8 pc9 pz9; obtain ⟨pc0, pc1, pc2, pc3, pc4, pc5, pc6, pc7, pc8, pc9, pz0, pz1, pz2, pz3, pz4, pz5, pz6, pz7, pz8, pz9⟩ := blk10 BP) | ((with_reducible refine xaU (N := 35) rfl ?_); refine xaT ?hg (N := 35) ?hd (cs := #[.int .i64 o.f0, .float .f64 o.f1, .float .f64 o.f2, .int .i64 o.f3, .int .i64 o.f4, .int .i64 o.f5, .int .i64 o.f6, .int .i64 o.f7, .int .i64 o.f8, .slice A2 inn.length c2]) (t := 126) ?hr ?_; (case hd => rfl); (case hg => rfl); (case hr => first | (go_simp; done) | (go_simp; rfl)); intro gn hgn w8 hbox hb; have BN := Aside0.mk hbox; have HGN := Aside0.mk hgn; replace HO := Aside0.mk (Kd.xbL HO.out hb); replace HOP := Aside0.mk (HOP.out.below hb); replace HS2 := Aside0.mk (HS2.out.below hb); replace HP2 := Aside0.mk (HP2.out.below hb); have HZ8 := Aside0.mk hb.size; replace HBW := Aside0.mk (xaV HBW.out hb); clear hb hbox hgn; clear pc0 pz0 pc1 pz1 pc2 pz2 pc3 pz3 pc4 pz4 pc5 pz5 pc6 pz6 pc7 pz7 pc8 pz8 pc9 pz9) | ((with_reducible refine xaR (b := .append) (xs := #[.tmp 28, .tmp 36]) rfl ?_); at_builtin; refine Kd.xbZ kp (w0 := w) w.heap.size rfl (.tmp 28) (.tmp 36) 97 124 (.pointer none) 8 rfl Tryz.underlying97 xfA rfl (by decide) (by omega) u3 ho gn [encP gn] (fun _ => True) (fun _ => False) rfl ?aX rfl (fun _ hk => hk.elim) (fun _ _ => trivial) ?aR ?aB ?aS ?aL ?_; (case aX => show Value.slice (some ⟨_, 0, none⟩) 1 1 = _; simp); (case aR => repeat (first | exact HO.out | apply Kd.xbJ | apply Kd.xbK | apply Kd.R_drew)); (case aB => repeat (first | exact HBW.out | apply xaC | apply xaJ | apply xaM)); (case aS => exact xbG (by repeat (first | exact HBW.out | apply xaC | apply xaJ | apply xaM))); (case aL => have := HOL.out i; have := HOP.out.len; omega); intro v1 w6 ho1 hb hg hat; have HO1 := Aside0.mk ho1; have HAT := Aside0.mk hat; have HGR := Aside0.mk hg; have HBX := Aside0.mk hb; clear ho1 hb hg hat))
       have hpn : PR w8 base (fun k => (F0 k ∨ wr.heap.size ≤ k) ∧ k < w8.heap.size) (.mk o inn) gn := by
        rw [PR]
        exact ⟨⟨Or.inr (by rw [HGN.out]; have := HZ5.out; have := HZ7.out; omega), blk_lt BN.out⟩, A2, c2, h2, BN.out, HL2.out, ((HS2.out.new).mono (fun k h _ => ⟨Or.inr h.1, h.2⟩)).low (by have := HBASE.out; have := HWR.out; omega), PRL.mono (fun k h _ => ⟨h.1, by have := h.2; have := HZ7.out; have := HZ8.out; omega⟩) _ _ HP2.out⟩
       obtain ⟨Fn, hFn, hNn, hPn⟩ := xgB (w := w) (F := F) (F2 := fun k => (F0 k ∨ wr.heap.size ≤ k) ∧ k < w8.heap.size) (l2 := [.mk o inn]) (h2 := [gn]) HGR.out HAT.out HOW.out HWR.out (by have := HZ5.out; have := HZ7.out; have := HZ8.out; omega) HFO.out HNO.out HOP.out (fun k hk => ⟨hk.1.imp_left (HF0.out k), hk.2⟩) (by rw [PRL, PRL]; exact ⟨hpn, trivial⟩)
       rw [← HJ.out] at hPn
       have HFN := Aside0.mk hFn;have HNN := Aside0.mk hNn;have HPN := Aside0.mk hPn;clear hFn hNn hPn hpn
       go_roundg (gk - 1)
       case measure => omega
       case rel => exact ⟨i + 1, ho ++ [gn], Fn, by omega, by omega, by go_num, HFN, HNN, HO1, HPN, HBX⟩
  ·
   go_wp2_with fail
   go_ret
   obtain ⟨A', c', rfl, hs2⟩ := Sl.of_R HO.out
   have e : ps.take i = ps := List.take_of_length_le (by omega)
   have hop := HOP.out
   rw [e] at hop
   have hop := PRL.mono (fun k h1 _ => (HFO.out k h1).1) _ _ hop
   exact ⟨A', c', ho, by rw [hop.len]; rfl, hop.len, hs2, hop, HBW.out⟩
theorem trC : ∀ n, n ≤ 8193 → TrC n
  | 0, _ => fun ps h => absurd h (Nat.not_lt_zero _)
  | n + 1, hn => fun ps h w base F A c hs hb hS hP => trim_step n (trC n (by omega)) ps h (by omega) w base F A c hs hb hS hP
theorem trimmed_c (ps : List PT) (hmax : (codeL ps).length ≤ 8192) (w : World) (base : Nat) (F : Nat → Prop) (A : Option Addr) (c : Nat) (hs : List Nat) (hbase : base ≤ w.heap.size) (hS : Sl kp 124 w base F A c hs) (hP : PRL w base F ps hs) :
    Calls Tryz.prog 43 #[.slice A ps.length c] w fun e w' => ∃ A' c' hs', e = .returned (.slice A' (trL ps).length c') ∧ hs'.length = (trL ps).length ∧ Sl kp 124 w' w.heap.size (fun _ => True) A' c' hs' ∧ PRL w' base (fun k => F k ∨ w.heap.size ≤ k) (trL ps) hs' ∧ Below w.heap.size w w' := trC 8193 (Nat.le_refl _) ps (by omega) w base F A c hs hbase hS hP
end Go.Proofs.YtkabcgmegljebaaGreatDoor.H
