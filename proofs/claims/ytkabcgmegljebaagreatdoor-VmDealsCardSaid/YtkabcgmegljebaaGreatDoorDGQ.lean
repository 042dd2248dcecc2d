/- Contracts and facts of functions of the program, joined in one text. -/
import Derived.Test.YtkabcgmegljebaaGreatDoorDGP
import Derived.Test.YtkabcgmegljebaaGreatDoorDGA
import Derived.Test.YtkabcgmegljebaaGreatDoorDGD
import Derived.Test.YtkabcgmegljebaaGreatDoorDGO
set_option maxHeartbeats 8000000
set_option maxRecDepth 100000
set_option linter.unusedVariables false
set_option linter.unusedSimpArgs false
namespace Go.Proofs.YtkabcgmegljebaaGreatDoor.H
open Go.RowKit Go.Proofs.YtkabcgmegljebaaGreatDoorW.PrintWords Go.Proofs.YtkabcgmegljebaaGreatDoorW.PrintLast Go.Proofs.YtkabcgmegljebaaGreatDoorW.PrintMore
open Go.Proofs.YtkabcgmegljebaaGreatDoor.Q
def ofF (f : S48) : S79 := ⟨f.f0, (f.f1 : Int), f.f2⟩
theorem bits_f (x : Nat) : xeA.f x = some (x : Int) := by unfold xeA.f; rfl
theorem of_l0 (l : List S48) (hl : l.length ≤ 4096) : ∀ (f i : Nat), i + f = l.length → Ev (fun k => xbH.l0 k l ((l.take i).map ofF) (i : Int)) (l.map ofF)
 | 0, i, h => by
  refine Ev.step (f := fun _ => some (l.map ofF)) (fun k => ?_) (Ev.now _)
  rw [xbH.l0, if_neg (by omega), List.take_of_length_le (by omega)]
 | f + 1, i, h => by
  have hlt : i < l.length := by omega
  have hrec := of_l0 l hl f (i + 1) (by omega)
  have hw : wrap64 ((i : Int) + 1) = ((i + 1 : Nat) : Int) := by rw [L.w64 (by omega) (by omega)]; push_cast; rfl
  refine Ev.step (fun k => ?_) hrec
  rw [xbH.l0, if_pos (by omega), if_pos (by omega), rd48 hlt, bits_f, Option.bind_some, if_pos (by rw [List.length_map, List.length_take]; omega), hw, xeG ofF l i hlt]
  rfl
theorem of_c (l : List S48) (A : Option Addr) (c : Nat) (w : World) (hr : Kd.C k48 w A l.length l) (hl : l.length ≤ 4096) (hc : l.length ≤ c) :
  Calls Tryz.prog 25 #[.slice A l.length c] w fun e w' => ∃ v, e = .returned v ∧ Kd.R k79 79 w' w.heap.size (fun _ => True) v (l.map ofF) ∧ Below w.heap.size w w' := by
 obtain ⟨k, hk⟩ := of_l0 l hl l.length 0 (by omega)
 have h := hk k (Nat.le_refl _)
 exact xbH.calls k A c l (l.map ofF) w hr hc h
theorem rd79 {l : List S48} {i : Nat} (h : i < l.length) : rd_T79 (l.map ofF) (i : Int) = ofF l[i] := by
  unfold rd_T79; simp [h]
theorem sameN_c (x : Int) (w : World) : Calls Tryz.prog 30 #[.int .u64 x, .int .u64 x] w fun e w' => e = .returned (.bool true) ∧ w' = w := by
 have h : (x == x) = true := beq_self_eq_true x
 go_enter Tryz.func30, Tryz.ntmps30
 go_wp2
 go_ret
 exact ⟨rfl, rfl⟩
theorem same_c (l : List S48) (A A2 : Option Addr) (c c2 : Nat) (w : World) (hr : Kd.C k48 w A l.length l) (hr2 : Kd.C k79 w A2 l.length (l.map ofF)) (hl : l.length ≤ 4096) :
  Calls Tryz.prog 13 #[.slice A l.length c, .slice A2 l.length c2] w fun e w' => e = .returned (.bool true) ∧ Below w.heap.size w w' := by
 have HR := Aside0.mk hr;have HR2 := Aside0.mk hr2;have HL := Aside0.mk hl
 have t0 : ((l.length : Int) != (l.length : Int)) = false := bne_self_eq_false _
 clear hr hr2 hl
 go_enter Tryz.func13, Tryz.ntmps13
 go_wp2_with fail
 go_loopg [5] (l.length) (fun kq v5 w' => ∃ i : Nat, i ≤ l.length ∧ kq + i = l.length ∧ v5 = .int .i64 i ∧ Aside0 (Below w.heap.size w w'))
 case atStart => exact ⟨0, by omega, by omega, rfl, ⟨by repeat (first | exact Below.refl _ _ | apply xaJ | apply xaM)⟩⟩
 case round =>
  obtain ⟨i, hi, hk, rfl, HBW⟩ := hrel
  by_cases hlt : i < l.length
  ·
   obtain ⟨ad, e, h0, h1, h2⟩ := at_T48 (Kd.xbP HR.out HBW.out) (i : Int) (by omega) (by omega)
   subst e
   obtain ⟨ad2, e, g0, g1, g2⟩ := at_T79 (Kd.xbP HR2.out HBW.out) (i : Int) (by omega) (by omega)
   subst e
   rw [rd48 hlt] at h0 h1 h2
   rw [rd79 hlt] at g0 g1 g2
   rw [Int.toNat_natCast] at h0 h1 h2 g0 g1 g2
   generalize l[i] = x at h0 h1 h2 g0 g1 g2
   obtain ⟨x0, x1, x2⟩ := x
   simp only [ofF] at h0 h1 h2 g0 g1 g2
   have hmx : (i : Int) + 1 ≤ 9223372036854775807 := by have := HL.out; omega
   have u0 : (x0 != x0) = false := bne_self_eq_false _
   have u2 : (x2 != x2) = false := bne_self_eq_false _
   go_wp2_with fail
   go_quiet (first | (go_at_call 29; exact Calls.quiet_of_same (xeB _ _)) | (go_at_call 30; exact Calls.quiet_of_same (sameN_c _ _)))
   go_wp2
   go_roundg (gk - 1)
   case measure => omega
   case rel => exact ⟨i + 1, by omega, by omega, by go_num, ⟨xaJ HBW.out _⟩⟩
  ·
   go_wp2_with fail
   go_ret
   exact ⟨rfl, HBW.out⟩
instance flat79 : Flat k79 := ⟨fun {w w' x cs} h => by rw [k79_open h]; exact k79_mk w' x⟩
theorem laid_c (ps : List PT) (w : World) (base : Nat) (F : Nat → Prop) (A : Option Addr) (c : Nat) (hs : List Nat) (hS : Sl kp 124 w base F A c hs) (hP : PRL w base F ps hs) (hl : (codeL ps).length ≤ 8192) :
  Calls Tryz.prog 42 #[.slice none 0 0, .slice A ps.length c] w fun e w' => ∃ A' c', e = .returned (.slice A' (codeL ps).length c') ∧ Sl k37 37 w' w.heap.size (fun _ => True) A' c' (codeL ps) ∧ Below w.heap.size w w' := by
 have h := laC _ ps (Nat.lt_succ_self _) w base F A c hs hS hP w none 0 [] (Below.refl _ _) (Sl.nil _ _ _ _ _) (by rw [List.length_nil]; omega)
 simp only [List.nil_append] at h
 exact h
section
variable (l : List S37) (A : Option Addr) (c : Nat) (w : World)
theorem trim_ok (b : List PT) (hb : xbX l = [b]) (hbl : (codeL b).length ≤ 8192) (hk : KT w) (hr : Kd.C k37 w A l.length l) (he : (chk l).1 = 0) (hw : ∀ o ∈ l, o.f1 < 18446744073709551616) : Calls Tryz.prog 26 #[.slice A l.length c] w fun e w' => ∃ A', e = .returned (.tuple #[.slice A' (codeL (trL b)).length (codeL (trL b)).length, .int .i64 0]) ∧ Sl k37 37 w' w.heap.size (fun _ => True) A' (codeL (trL b)).length (codeL (trL b)) ∧ Below w.heap.size w w' := by
 have hck := check31 l A c w hk hr
 rw [he] at hck
 generalize (chk l).2.1 = a1 at hck
 have hpc : ∀ w1, Kd.C k37 w1 A l.length l → Calls Tryz.prog 44 #[.slice A l.length c] w1 fun e w' => ∃ A' c' hs, e = .returned (.slice A' b.length c') ∧ hs.length = b.length ∧ Sl kp 124 w' w1.heap.size (fun _ => True) A' c' hs ∧ PRL w' w1.heap.size (fun _ => True) b hs ∧ Below w1.heap.size w1 w' := fun w1 hr1 => by
  refine (pieces_c l he hw w1 A c hr1).mono ?_
  rintro e w' ⟨b', A', c', hs, e1, h1, h2, h3, h4, h5⟩
  rw [hb] at e1
  injection e1 with e1
  subst e1
  exact ⟨A', c', hs, h1, h2, h3, h4, h5⟩
 have htl : (codeL (trL b)).length ≤ 8192 := Nat.le_trans (xfT b).2 hbl
 have HC := Aside0.mk hck;have HPC := Aside0.mk hpc;have HBL := Aside0.mk hbl;have HTL := Aside0.mk htl;have HR := Aside0.mk hr;clear hk hr he hck hpc hw hb hbl htl
 go_enter Tryz.func26, Tryz.ntmps26
 go_upto_region 4 with (go_at_call 31; (with_reducible refine (HC.out).mono ?_); rintro e w1 ⟨rfl, hb⟩; have HB := Aside0.mk hb; clear hb)
 clear HC
 go_wp2_with (first | (go_at_call 44; (with_reducible refine (HPC.out _ (Kd.xbP HR.out HB.out)).mono ?_); rintro e w2 ⟨A2, c2, hs2, rfl, hl2, hS2, hP2, hb⟩; have HS2 := Aside0.mk hS2; have HP2 := Aside0.mk hP2; have HB2 := Aside0.mk hb; clear hl2 hS2 hP2 hb) | (go_at_call 43; (with_reducible refine (trimmed_c _ HBL.out _ _ _ _ _ _ HB2.out.size HS2.out HP2.out).mono ?_); rintro e w3 ⟨A3, c3, hs3, rfl, hl3, hS3, hP3, hb⟩; have HS3 := Aside0.mk (hS3.low HB2.out.size); have HP3 := Aside0.mk (PRL.mono (G := fun _ => True) (fun _ _ _ => trivial) _ _ hP3); have HB3 := Aside0.mk (HB2.out.trans (hb.mono HB2.out.size)); clear hl3 hS3 hP3 hb) | (go_at_call 42; (with_reducible refine (laid_c _ _ _ _ _ _ _ HS3.out HP3.out HTL.out).mono ?_); rintro e w4 ⟨A4, c4, rfl, hs4, hb⟩; have HS4 := Aside0.mk hs4; have HB4 := Aside0.mk (HB3.out.trans (hb.mono HB3.out.size)); clear hs4 hb) | (go_at_call 41; (with_reducible refine (clip_op _ _ _ _ HS4.out.le HS4.out.lim).mono ?_); rintro e w' ⟨rfl, hw_⟩; obtain rfl := hw_.symm))
 go_ret2
 have hz : w.heap.size ≤ w3.heap.size := Nat.le_trans HB.out.size HB3.out.size
 have hh := HS4.out.head (codeL (trL b)).length (codeL (trL b)).length (Nat.le_refl _) (Nat.le_refl _) HS4.out.le
 rw [List.take_length] at hh
 exact ⟨A4, rfl, hh.low hz, HB.out.trans (HB4.out.mono HB.out.size)⟩
end
inductive TT where
 | leaf (x : S103)
 | un (x : S103) (a : TT)
 | both (x : S103) (a b : TT)
def TT.deep : TT → Int
 | .leaf _ => 1
 | .un _ a => a.deep + 1
 | .both _ a b => max a.deep b.deep + 1
inductive Lay : Nat → TT → List S103 → Prop where
 | leaf (s : Nat) (x : S103) (h : partsP x.f0 = 0) (hz : x.f1 = 0 ∧ x.f2 = 0) : Lay s (.leaf x) [x]
 | un (s : Nat) (x : S103) (a : TT) (l : List S103) (h : partsP x.f0 = 1) (ha : Lay s a l) (h1 : x.f1 = (s : Int) + l.length - 1) : Lay s (.un x a) (l ++ [x])
 | both (s : Nat) (x : S103) (a b : TT) (l m : List S103) (h : partsP x.f0 = 2) (ha : Lay s a l) (hb : Lay (s + l.length) b m) (h1 : x.f1 = (s : Int) + l.length - 1) (h2 : x.f2 = (s : Int) + l.length + m.length - 1) : Lay s (.both x a b) (l ++ m ++ [x])
theorem Lay.pos {s : Nat} {T : TT} {l : List S103} (h : Lay s T l) : 1 ≤ l.length := by cases h <;> simp only [List.length_append, List.length_cons, List.length_nil] <;> omega
def seg (t : List S103) (s e : Nat) : List S103 := (t.drop s).take (e + 1 - s)
theorem seg_len {t : List S103} {s e : Nat} (h : s ≤ e) (he : e < t.length) : (seg t s e).length = e + 1 - s := by unfold seg; rw [List.length_take, List.length_drop]; omega
theorem seg_app {t : List S103} {s m e : Nat} (h : s ≤ m) (h2 : m ≤ e) (he : e < t.length) : seg t s e = seg t s m ++ seg t (m + 1) e := by
  unfold seg
  rw [show e + 1 - s = (m + 1 - s) + (e - m) by omega, List.take_add, List.drop_drop, show s + (m + 1 - s) = m + 1 by omega, show e + 1 - (m + 1) = e - m by omega]
theorem seg_one {t : List S103} {e : Nat} (he : e < t.length) : seg t e e = [t[e]] := by
  unfold seg
  rw [show e + 1 - e = 1 by omega, List.drop_eq_getElem_cons he]; rfl
theorem seg_all {t : List S103} (h : 0 < t.length) : seg t 0 (t.length - 1) = t := by
  unfold seg
  rw [List.drop_zero, List.take_of_length_le (by omega)]
def RowI (t : List S103) (i : Nat) (f d : List Int) : Prop := ∀ j, j < i → ∃ (s : Nat) (T : TT), f.getD j 0 = (s : Int) ∧ s ≤ j ∧ d.getD j 0 = T.deep ∧ Lay s T (seg t s j)
theorem rd_nat (l : List Int) (j : Nat) : rdI l (j : Int) = l.getD j 0 := by unfold rdI; rw [Int.toNat_natCast]
theorem rowI_set {t : List S103} {i : Nat} {f d : List Int} (h : RowI t i f d) (hf : i < f.length) (hd : i < d.length) (s : Nat) (T : TT) (u v : Int) (hu : u = (s : Int)) (hs : s ≤ i) (hv : v = T.deep) (hl : Lay s T (seg t s i)) : RowI t (i + 1) (f.set i u) (d.set i v) := fun j hj => by
 rw [xfD, xfD]
 by_cases e : i = j
 ·
  subst e
  rw [if_pos ⟨rfl, hf⟩, if_pos ⟨rfl, hd⟩]
  exact ⟨s, T, hu, hs, hv, hl⟩
 ·
  rw [if_neg (fun q => e q.1), if_neg (fun q => e q.1)]
  exact h j (by omega)
theorem xhL (t : List S103) : ∀ (r : List S103) (i : Nat) (f d : List Int), t.drop i = r → i ≤ t.length → f.length = t.length → d.length = t.length → RowI t i f d → (ckGo r i f d).1 = none →
  RowI t t.length (ckGo r i f d).2.1 (ckGo r i f d).2.2
 | [], i, f, d, hr, hi, hf, hd, h, hn => by
  have h1 := congrArg List.length hr
  rw [List.length_drop, List.length_nil] at h1
  rw [ckGo, show t.length = i by omega]; exact h
 | x :: r, i, f, d, hr, hi, hf, hd, h, hn => by
  have hlt : i < t.length := by have h1 := congrArg List.length hr; rw [List.length_drop, List.length_cons] at h1; omega
  rw [List.drop_eq_getElem_cons hlt] at hr
  injection hr with hx hr
  rw [ckGo] at hn ⊢
  by_cases hc : (fieldsB x && (fitsP x.f0 x.f1 x.f2 i (f.set i (i : Int)) (d.set i 1)).1) = true
  ·
   rw [if_pos hc] at hn ⊢
   rw [Bool.and_eq_true] at hc
   have hfit := hc.2
   have hf1 : (f.set i (i : Int)).length = t.length := by rw [List.length_set]; exact hf
   have hd1 : (d.set i 1).length = t.length := by rw [List.length_set]; exact hd
   have hset : ∀ (l : List Int) (u v : Int), (l.set i u).set i v = l.set i v := fun l u v => by rw [List.set_set]
   have hold : ∀ (l : List Int) (u : Int) (j : Nat), j < i → (l.set i u).getD j 0 = l.getD j 0 := fun l u j hj => by rw [xfD, if_neg (fun q => by omega)]
   unfold fitsP at hfit hn ⊢
   by_cases h0 : partsP x.f0 = 0
   ·
    rw [if_pos h0] at hn hfit ⊢
    rw [Bool.and_eq_true] at hfit
    exact xhL t r (i + 1) _ _ hr (by omega) hf1 hd1 (rowI_set h (by omega) (by omega) i (.leaf x) _ _ rfl (Nat.le_refl _) rfl (by rw [seg_one hlt, hx]; exact .leaf i x h0 ⟨beq_iff_eq.1 hfit.1, beq_iff_eq.1 hfit.2⟩)) hn
   ·
    rw [if_neg h0] at hfit hn ⊢
    by_cases h1 : partsP x.f0 = 1
    ·
     rw [if_pos h1] at hfit hn ⊢
     by_cases h2 : i = 0 ∨ x.f1 ≠ (i : Int) - 1 ∨ x.f2 ≠ 0
     ·
      rw [if_pos h2] at hfit; cases hfit
     ·
      rw [if_neg h2] at hn ⊢
      have hi0 : 0 < i := Nat.pos_of_ne_zero (fun e => h2 (Or.inl e))
      have ha : x.f1 = (i : Int) - 1 := Classical.byContradiction (fun e => h2 (Or.inr (Or.inl e)))
      obtain ⟨s, T, e1, e2, e3, e4⟩ := h (i - 1) (by omega)
      have ei : (i : Int) - 1 = ((i - 1 : Nat) : Int) := by omega
      rw [hset, hset] at hn ⊢
      rw [ei, rd_nat, rd_nat, hold _ _ _ (by omega), hold _ _ _ (by omega)] at hn ⊢
      refine xhL t r (i + 1) _ _ hr (by omega) (by rw [List.length_set]; exact hf) (by rw [List.length_set]; exact hd) (rowI_set h (by omega) (by omega) s (.un x T) _ _ e1 (by omega) (by rw [e3]; rfl) ?_) hn
      rw [seg_app (m := i - 1) e2 (by omega) hlt, show i - 1 + 1 = i by omega, seg_one hlt, hx]
      exact .un s x T _ h1 e4 (by rw [seg_len e2 (by omega)]; omega)
    ·
     rw [if_neg h1] at hfit hn ⊢
     by_cases h2 : i = 0 ∨ x.f2 ≠ (i : Int) - 1 ∨ rdI (f.set i (i : Int)) ((i : Int) - 1) = 0 ∨ x.f1 ≠ rdI (f.set i (i : Int)) ((i : Int) - 1) - 1
     ·
      rw [if_pos h2] at hfit; cases hfit
     ·
      rw [if_neg h2] at hn ⊢
      have hi0 : 0 < i := Nat.pos_of_ne_zero (fun e => h2 (Or.inl e))
      have hb : x.f2 = (i : Int) - 1 := Classical.byContradiction (fun e => h2 (Or.inr (Or.inl e)))
      have ei : (i : Int) - 1 = ((i - 1 : Nat) : Int) := by omega
      obtain ⟨s, T, e1, e2, e3, e4⟩ := h (i - 1) (by omega)
      have hne : rdI (f.set i (i : Int)) ((i : Int) - 1) ≠ 0 := fun e => h2 (Or.inr (Or.inr (Or.inl e)))
      have ha : x.f1 = rdI (f.set i (i : Int)) ((i : Int) - 1) - 1 := Classical.byContradiction (fun e => h2 (Or.inr (Or.inr (Or.inr e))))
      rw [ei, rd_nat, hold _ _ _ (by omega), e1] at hne ha
      have hs0 : 0 < s := by omega
      obtain ⟨s', T', g1, g2, g3, g4⟩ := h (s - 1) (by omega)
      have ea : x.f1 = ((s - 1 : Nat) : Int) := by omega
      rw [hset, hset] at hn ⊢
      rw [ea, hb, ei, rd_nat, rd_nat, rd_nat, hold _ _ _ (by omega), hold _ _ _ (by omega), hold _ _ _ (by omega)] at hn ⊢
      have hp2 : partsP x.f0 = 2 := by rcases xgA x.f0 with q | q | q; exact absurd q h0; exact absurd q h1; exact q
      refine xhL t r (i + 1) _ _ hr (by omega) (by rw [List.length_set]; exact hf) (by rw [List.length_set]; exact hd) (rowI_set h (by omega) (by omega) s' (.both x T' T) _ _ g1 (by omega) (by rw [g3, e3]; rfl) ?_) hn
      have hls := seg_len g2 (show s - 1 < t.length by omega)
      rw [seg_app (m := i - 1) (by omega) (by omega) hlt, show i - 1 + 1 = i by omega, seg_one hlt, hx, seg_app (m := s - 1) g2 (by omega) (by omega), show s - 1 + 1 = s by omega]
      exact .both s' x T' T _ _ hp2 g4 (by rw [hls, show s' + (s - 1 + 1 - s') = s by omega]; exact e4) (by rw [hls]; omega) (by rw [hls, seg_len e2 (by omega)]; omega)
  ·
   rw [if_neg hc] at hn; cases hn
theorem check_lay {t : List S103} (h : (checkT t).1 = 0) : ∃ T, Lay 0 T t ∧ T.deep ≤ 64 ∧ 0 < t.length ∧ t.length ≤ 1024 := by
 unfold checkT at h
 by_cases h1 : 1024 < t.length
 ·
  rw [if_pos h1] at h; cases h
 ·
  rw [if_neg h1] at h
  by_cases h2 : t.length = 0
  ·
   rw [if_pos h2] at h; cases h
  ·
   rw [if_neg h2] at h
   have hlay := xhL t t 0 (List.replicate t.length 0) (List.replicate t.length 0) rfl (by omega) List.length_replicate List.length_replicate (fun j hj => absurd hj (Nat.not_lt_zero _))
   rcases hc : ckGo t 0 (List.replicate t.length 0) (List.replicate t.length 0) with ⟨_ | i, f, d⟩
   ·
    rw [hc] at h hlay
    obtain ⟨s, T, e1, e2, e3, e4⟩ := hlay rfl (t.length - 1) (by omega)
    have ei : (t.length : Int) - 1 = ((t.length - 1 : Nat) : Int) := by omega
    simp only at h e1 e3
    rw [ei, rd_nat, rd_nat, e1, e3] at h
    by_cases hs : (s : Int) ≠ 0
    ·
     rw [if_pos hs] at h; cases h
    ·
     rw [if_neg hs] at h
     by_cases hd : 64 < T.deep
     ·
      rw [if_pos hd] at h; cases h
     ·
      obtain rfl : s = 0 := by omega
      rw [seg_all (by omega)] at e4
      exact ⟨T, e4, by omega, by omega, by omega⟩
   ·
    rw [hc] at h; cases h
def opIx (k : Int) : Int := if k = 6 then 5 else if k = 7 then 6 else if k = 8 then 7 else k
def opOf (x : S103) : S37 := ⟨opIx x.f0, x.f3, x.f4, x.f5, x.f6, x.f7, x.f8, x.f9, x.f10⟩
def pcs : TT → List PT
 | .leaf x => if x.f0 = 1 then [] else [.mk (opOf x) []]
 | .un x a => [.mk (opOf x) (pcs a)]
 | .both _ a b => pcs a ++ pcs b
theorem parts0 {k : Int} (h : partsP k = 0) : k = 1 ∨ k = 2 ∨ k = 3 := by
 unfold partsP at h
 split at h
 ·
  assumption
 ·
  split at h <;> cases h
theorem parts1 {k : Int} (h : partsP k = 1) (hk : 1 ≤ k ∧ k ≤ 8) : k = 4 ∨ k = 6 ∨ k = 7 ∨ k = 8 := by
 unfold partsP at h
 split at h
 ·
  cases h
 ·
  split at h
  ·
   cases h
  ·
   omega
theorem parts2 {k : Int} (h : partsP k = 2) : k = 5 := by
 unfold partsP at h
 split at h
 ·
  cases h
 ·
  split at h
  ·
   assumption
  ·
   cases h
theorem kind_of {x : S103} (h : fieldsB x = true) : 1 ≤ x.f0 ∧ x.f0 ≤ 8 := by
 unfold fieldsB at h
 rw [Bool.and_eq_true] at h
 exact of_decide_eq_true h.1
theorem fields_bare (k a b : Int) (x3 x4 : Nat) (x5 x6 x7 x8 x9 x10 : Int) : fieldsB ⟨k, a, b, x3, x4, x5, x6, x7, x8, x9, x10⟩ = fieldsB ⟨k, 0, 0, x3, x4, x5, x6, x7, x8, x9, x10⟩ := by
 have e : sameT (keptT ⟨k, a, b, x3, x4, x5, x6, x7, x8, x9, x10⟩) ⟨k, a, b, x3, x4, x5, x6, x7, x8, x9, x10⟩ = sameT (keptT ⟨k, 0, 0, x3, x4, x5, x6, x7, x8, x9, x10⟩) ⟨k, 0, 0, x3, x4, x5, x6, x7, x8, x9, x10⟩ := by
  unfold sameT sameB keptT
  simp only
  repeat' split
  all_goals simp only [true_and]
 unfold fieldsB
 rw [e]
 rfl
theorem rd_ix {k : Int} (hk : k = 2 ∨ k = 3 ∨ k = 4 ∨ k = 6 ∨ k = 7 ∨ k = 8) : rdI kindsL (opIx k) = k := by
  rcases hk with rfl | rfl | rfl | rfl | rfl | rfl <;> rfl
theorem ck_one (x : S103) (hf : fieldsB x = true) (hp : partsP x.f0 = 0) (h1 : x.f1 = 0) (h2 : x.f2 = 0) : (checkT [x]).1 = 0 := by
 have e : ckGo [x] 0 [0] [0] = (none, [0], [1]) := by
  rw [ckGo, if_pos]
  ·
   unfold fitsP; rw [if_pos hp, ckGo]; rfl
  ·
   rw [hf, h1, h2]; unfold fitsP; rw [if_pos hp]; rfl
 unfold checkT
 rw [if_neg (by simp), if_neg (by simp)]
 show (match ckGo [x] 0 [0] [0] with | (some i, _, _) => ((171 : Int), (i : Int)) | (none, f, d) => if rdI f (([x].length : Int) - 1) ≠ 0 then (171, ([x].length : Int) - 1) else if 64 < rdI d (([x].length : Int) - 1) then (172, ([x].length : Int) - 1) else (0, 0)).1 = 0
 rw [e]; rfl
theorem ck_two (x : S103) (hf : fieldsB x = true) (hp : partsP x.f0 = 1) (h1 : x.f1 = 0) (h2 : x.f2 = 0) : (checkT [zeroT, x]).1 = 0 := by
 have hz : fieldsB zeroT = true := by decide +kernel
 have e : ckGo [zeroT, x] 0 [0, 0] [0, 0] = (none, [0, 0], [1, 2]) := by
  rw [ckGo, if_pos (by rw [hz]; rfl)]
  show ckGo [x] 1 [0, 0] [1, 0] = _
  rw [ckGo, if_pos]
  ·
   unfold fitsP; rw [h1, h2, if_neg (by rw [hp]; decide), if_pos hp, if_neg (by decide), ckGo]; rfl
  ·
   rw [hf, h1, h2]; unfold fitsP; rw [if_neg (by rw [hp]; decide), if_pos hp, if_neg (by decide)]; rfl
 unfold checkT
 rw [if_neg (by simp), if_neg (by simp)]
 show (match ckGo [zeroT, x] 0 [0, 0] [0, 0] with | (some i, _, _) => ((171 : Int), (i : Int)) | (none, f, d) => if rdI f (([zeroT, x].length : Int) - 1) ≠ 0 then (171, ([zeroT, x].length : Int) - 1) else if 64 < rdI d (([zeroT, x].length : Int) - 1) then (172, ([zeroT, x].length : Int) - 1) else (0, 0)).1 = 0
 rw [e]; rfl
theorem op_fine {x : S103} (hf : fieldsB x = true) (hk : x.f0 = 2 ∨ x.f0 = 3 ∨ x.f0 = 4 ∨ x.f0 = 6 ∨ x.f0 = 7 ∨ x.f0 = 8) : xcC (opOf x) = true := by
 have ht : termO (opOf x) = ⟨x.f0, 0, 0, x.f3, x.f4, x.f5, x.f6, x.f7, x.f8, x.f9, x.f10⟩ := by
  unfold termO opOf
  rw [rd_ix hk]
 have hb : fieldsB (termO (opOf x)) = true := by rw [ht, ← fields_bare x.f0 x.f1 x.f2]; exact hf
 have hr : 2 ≤ (opOf x).f0 ∧ (opOf x).f0 ≤ 7 := by
  show 2 ≤ opIx x.f0 ∧ opIx x.f0 ≤ 7
  rcases hk with h | h | h | h | h | h <;> rw [h] <;> decide
 unfold xcC
 rw [if_neg (by omega), if_neg (by omega), beq_iff_eq]
 unfold treeO
 by_cases ha : addsB (opOf x).f0 = true
 ·
  rw [if_pos ha]
  have hk2 : x.f0 = 2 ∨ x.f0 = 3 := by
   have h1 := (xbV _).1 ha
   change opIx x.f0 = 2 ∨ opIx x.f0 = 3 at h1
   rcases hk with h | h | h | h | h | h
   ·
    exact Or.inl h
   ·
    exact Or.inr h
   all_goals (rw [h] at h1; exact absurd h1 (by decide))
  exact ck_one _ hb (by rw [ht]; unfold partsP; rw [if_pos (Or.inr hk2)]) (by rw [ht]) (by rw [ht])
 ·
  rw [if_neg ha]
  have hk2 : x.f0 = 4 ∨ x.f0 = 6 ∨ x.f0 = 7 ∨ x.f0 = 8 := by
   rcases hk with h | h | h
   ·
    exact absurd (by show addsB (opIx x.f0) = true; rw [h]; rfl) ha
   ·
    exact absurd (by show addsB (opIx x.f0) = true; rw [h]; rfl) ha
   ·
    exact h
  exact ck_two _ hb (by rw [ht]; unfold partsP; rw [if_neg (by show ¬ (x.f0 = 1 ∨ x.f0 = 2 ∨ x.f0 = 3); omega), if_neg (by show ¬ x.f0 = 5; omega)]) (by rw [ht]) (by rw [ht])
structure GoodT (x : S103) : Prop where
  f : fieldsB x = true
  w : x.f3 < 18446744073709551616
theorem GoodT.op {x : S103} (h : GoodT x) (hk : x.f0 = 2 ∨ x.f0 = 3 ∨ x.f0 = 4 ∨ x.f0 = 6 ∨ x.f0 = 7 ∨ x.f0 = 8) : GoodO fixF (opOf x) :=
  ⟨op_ok (op_fine h.f hk), h.w, fix_wf _, op_fine h.f hk⟩
theorem un_kind {x : S103} (h : GoodT x) (hp : partsP x.f0 = 1) : (x.f0 = 4 ∨ x.f0 = 6 ∨ x.f0 = 7 ∨ x.f0 = 8) ∧ 4 ≤ (opOf x).f0 := by
 have hk := parts1 hp (kind_of h.f)
 refine ⟨hk, ?_⟩
 show 4 ≤ opIx x.f0
 rcases hk with e | e | e | e <;> rw [e] <;> decide
theorem xiB {x : S103} (hp : partsP x.f0 = 0) (h1 : x.f0 ≠ 1) : (x.f0 = 2 ∨ x.f0 = 3) ∧ (opOf x).f0 = x.f0 := by
 have hk := parts0 hp
 refine ⟨by omega, ?_⟩
 show opIx x.f0 = x.f0
 rcases hk with e | e | e
 ·
  exact absurd e h1
 ·
  rw [e]; rfl
 ·
  rw [e]; rfl
theorem pcs_wf {s : Nat} {T : TT} {l : List S103} (h : Lay s T l) (hg : ∀ x ∈ l, GoodT x) : ∀ p ∈ pcs T, WfG fixF p := by
 induction h with
 | leaf s x h hz =>
  rw [pcs]
  split
  ·
   intro p hp; cases hp
  ·
   rename_i h1
   intro p hp
   rw [List.mem_singleton.1 hp]
   obtain ⟨hk, he⟩ := xiB h h1
   exact .add _ (by rw [he]; exact hk) ((hg x (List.mem_singleton.2 rfl)).op (by omega))
 | un s x a l h ha h1 ih =>
  rw [pcs]
  intro p hp
  rw [List.mem_singleton.1 hp]
  have hx := hg x (List.mem_append_right _ (List.mem_singleton.2 rfl))
  obtain ⟨hk, he⟩ := un_kind hx h
  exact .take _ _ he (hx.op (by omega)) (ih (fun z hz => hg z (List.mem_append_left _ hz)))
 | both s x a b l m h ha hb h1 h2 iha ihb =>
  rw [pcs]
  intro p hp
  rcases List.mem_append.1 hp with hp | hp
  ·
   exact iha (fun z hz => hg z (List.mem_append_left _ (List.mem_append_left _ hz))) p hp
  ·
   exact ihb (fun z hz => hg z (List.mem_append_left _ (List.mem_append_right _ hz))) p hp
theorem pcs_dep {s : Nat} {T : TT} {l : List S103} (h : Lay s T l) : (depL (pcs T) : Int) + 1 ≤ T.deep ∧ (codeL (pcs T)).length ≤ 2 * l.length := by
 induction h with
 | leaf s x h hz =>
  rw [pcs, TT.deep]
  split
  ·
   rw [depL, codeL]; simp
  ·
   rename_i h1
   obtain ⟨hk, he⟩ := xiB h h1
   have ha : addsB (opOf x).f0 = true := (xbV _).2 (by rw [he]; exact hk)
   rw [depL, depP, if_pos ha, depL, codeL, codeP, if_pos ha, codeL]
   simp
 | un s x a l h ha h1 ih =>
  rw [pcs, TT.deep, depL, depP, depL, codeL, codeL, codeP]
  have h3 := ih.2;have h4 := ih.1
  refine ⟨?_, ?_⟩
  ·
   split <;> (push_cast; omega)
  ·
   split <;> (simp; omega)
 | both s x a b l m h ha hb h1 h2 iha ihb =>
  rw [pcs, TT.deep, depL_app, xeJ, List.length_append, List.length_append, List.length_append]
  refine ⟨by push_cast; omega, by simp; omega⟩
theorem tree_chk {T : TT} {l : List S103} (h : Lay 0 T l) (hg : ∀ x ∈ l, GoodT x) (hd : T.deep ≤ 64) (hl : l.length ≤ 1024) : (chk (codeL (pcs T))).1 = 0 ∧ (codeL (pcs T)).length ≤ 2048 := by
 obtain ⟨h1, h2⟩ := pcs_dep h
 have := chkL_eq fixF (pcs T) [] 0 0 0 (pcs_wf h hg) (Int.le_refl _) (Int.le_refl _) (by omega)
 rw [List.append_nil] at this
 refine ⟨?_, by omega⟩
 unfold chk
 rw [if_neg (by omega), this, chkGo, if_neg (by omega)]
def repF (mo : Int) : Int → List S48 → List (Int × S48) → List S48 × Int
  | _, out, [] => (out, 0)
  | room, out, p :: r => if room = 0 then ([], 81) else if (mon p.2.f0 (p.1 * mo)).2 = 0 then repF mo (room - 1) (out ++ [⟨(mon p.2.f0 (p.1 * mo)).1, p.2.f1, p.2.f2⟩]) r else ([], (mon p.2.f0 (p.1 * mo)).2)
noncomputable def meantF (x : S103) (l : List S48) (room : Int) : List S48 × Int :=
 if x.f0 = 2 then (if room = 0 then ([], 81) else ([⟨x.f5, x.f3, x.f7⟩], 0))
 else if x.f0 = 3 then (if (fixF (opOf x)).2 = 0 ∧ room < ((fixF (opOf x)).1.length : Int) then ((fixF (opOf x)).1, 81) else fixF (opOf x))
 else if x.f0 = 4 then (l.map ngF, 0)
 else if x.f0 = 6 then (if l.all (fun f => numB (mulN x.f3 f.f1)) = true then (l.map (scF x.f3), 0) else ([], 91))
 else if x.f0 = 7 then (l.filter (inW x.f5 x.f6), 0)
 else if x.f0 = 8 then repF x.f10 room l (pairs l 1 x.f9.toNat)
 else (l, 0)
def startF (x : S103) (n : Nat) (fr : List Nat) : Nat × List Nat :=
 if partsP x.f0 = 0 then (n, fr) else match fr with
  | [] => (0, [])
  | s :: r => if x.f0 = 5 then (match r with | [] => (0, []) | s' :: r' => (s', r')) else (s, r)
noncomputable def runF : List S103 → List S48 → List Nat → Except Int (List S48 × List Nat)
  | [], all, fr => .ok (all, fr)
  | x :: r, all, fr => if (meantF x (all.drop (startF x all.length fr).1) (4096 - (all.length : Int))).2 = 0 then runF r (all.take (startF x all.length fr).1 ++ (meantF x (all.drop (startF x all.length fr).1) (4096 - (all.length : Int))).1) ((startF x all.length fr).1 :: (startF x all.length fr).2) else .error (meantF x (all.drop (startF x all.length fr).1) (4096 - (all.length : Int))).2
noncomputable def flowsD (t : List S103) : List S48 × Int := if (checkT t).1 = 0 then (match runF t [] [] with | .ok p => (p.1, 0) | .error e => ([], e)) else ([], (checkT t).1)
theorem rep_push (mo : Int) : ∀ (ps : List (Int × S48)) (pre out : List S48), (pre ++ out).length ≤ 4096 → repF mo (4096 - ((pre ++ out).length : Int)) out ps = if (pushes mo (pre ++ out) ps).2 = 0 then ((pushes mo (pre ++ out) ps).1.drop pre.length, 0) else ([], (pushes mo (pre ++ out) ps).2)
 | [], pre, out, h => by rw [repF, pushes, if_pos rfl, List.drop_left' rfl]
 | p :: r, pre, out, h => by
  rw [repF, pushes]
  by_cases h1 : (pre ++ out).length = 4096
  ·
   rw [if_pos h1, if_pos (by omega)]; rfl
  ·
   rw [if_neg h1, if_neg (by omega)]
   by_cases h2 : (mon p.2.f0 (p.1 * mo)).2 = 0
   ·
    rw [if_pos h2, if_pos h2]
    have ih := rep_push mo r pre (out ++ [⟨(mon p.2.f0 (p.1 * mo)).1, p.2.f1, p.2.f2⟩]) (by rw [← List.append_assoc, List.length_append, List.length_singleton]; omega)
    rw [← List.append_assoc, List.length_append, List.length_singleton] at ih
    have e : (4096 : Int) - ((pre ++ out).length : Int) - 1 = 4096 - (((pre ++ out).length + 1 : Nat) : Int) := by push_cast; omega
    rw [e, ih]
   ·
    rw [if_neg h2, if_neg h2, if_neg h2]
theorem adds_len : ∀ (r acc : List S48), acc.length ≤ 4096 → (acc.length + r.length ≤ 4096 → adds acc r = (acc ++ r, 0)) ∧ (4096 < acc.length + r.length → (adds acc r).2 = 81)
 | [], acc, h => ⟨fun _ => by rw [adds, List.append_nil], fun h2 => by rw [List.length_nil] at h2; omega⟩
 | x :: r, acc, h => by
  rw [adds]
  by_cases h1 : acc.length = 4096
  ·
   rw [if_pos h1]
   exact ⟨fun h2 => by rw [List.length_cons] at h2; omega, fun _ => rfl⟩
  ·
   rw [if_neg h1]
   obtain ⟨i1, i2⟩ := adds_len r (acc ++ [x]) (by rw [List.length_append, List.length_singleton]; omega)
   rw [List.length_append, List.length_singleton] at i1 i2
   rw [List.length_cons]
   exact ⟨fun h2 => by rw [i1 (by omega), List.append_assoc]; rfl, fun h2 => i2 (by omega)⟩
theorem op_len {fxs : S37 → List S48 × Int} {o : S37} {fl t f2 : List S48} (h : 4 ≤ o.f0) (hw : OkW (fl ++ t)) (hl : (fl ++ t).length ≤ 4096) (he : opE fxs o fl.length (fl ++ t) = .ok f2) : f2.length ≤ 4096 := by
 rw [xgR h] at he
 rw [List.length_append] at hl
 by_cases h4 : o.f0 = 4
 ·
  rw [if_pos h4] at he; injection he with he; subst he; rw [List.length_append, List.length_map]; exact hl
 ·
  rw [if_neg h4] at he
  by_cases h5 : o.f0 = 5
  ·
   rw [if_pos h5] at he
   split at he
   ·
    injection he with he; subst he; rw [List.length_append, List.length_map]; exact hl
   ·
    cases he
  ·
   rw [if_neg h5] at he
   by_cases h6 : o.f0 = 6
   ·
    rw [if_pos h6] at he; injection he with he; subst he; rw [List.length_append]; have := List.length_filter_le (inW o.f3 o.f4) t; omega
   ·
    rw [if_neg h6] at he
    split at he
    ·
     injection he with he; subst he
     exact (xhW o.f8 (pairs t 1 o.f7.toNat) (fl ++ t) (by rw [List.length_append]; exact hl) (fun f hf => (hw f hf).1) (fun p hp => (hw _ (List.mem_append_right _ (pairs_in hp))).1)).1
    ·
     cases he
mutual
theorem evP_len (fxs : S37 → List S48 × Int) : ∀ (p : PT) (fl f1 : List S48), WfG fxs p → OkW fl → fl.length ≤ 4096 → evP fxs p fl = .ok f1 → f1.length ≤ 4096
 | .mk o ps, fl, f1, hw, hf, hl, he => by
  cases hw with
  | add _ h hg =>
   rw [evP, if_pos ((xbV _).2 h)] at he
   have n1 : ¬ o.f0 = 1 := by omega
   unfold act at he
   rcases h with h | h
   ·
    simp only [n1, if_false, if_pos h] at he
    by_cases h1 : fl.length = 4096
    ·
     rw [if_pos h1] at he; cases he
    ·
     rw [if_neg h1] at he; injection he with he; subst he; rw [List.length_append, List.length_singleton]; omega
   ·
    have n2 : ¬ o.f0 = 2 := by omega
    simp only [n1, n2, if_false, if_pos h] at he
    by_cases hx : (fxs o).2 = 0
    ·
     rw [if_pos hx] at he
     split at he
     ·
      injection he with he; subst he
      exact (adds_ok (fxs o).1 fl hl (fun f hf2 => (hf f hf2).1) (fun f hf2 => (hg.fx f hf2).1)).1
     ·
      cases he
    ·
     rw [if_neg hx] at he
     simp only [hx, if_false] at he
     cases he
  | take _ _ h hg hp =>
   rw [xgE h] at he
   cases h1 : evL fxs ps fl with
   | error e => rw [h1] at he; cases he
   | ok f2 =>
    rw [h1] at he
    obtain ⟨hk, t, rfl⟩ := evL_ok fxs ps fl f2 hp hf h1
    exact op_len h hk (evL_len fxs ps fl _ hp hf hl h1) he
theorem evL_len (fxs : S37 → List S48 × Int) : ∀ (l : List PT) (fl f1 : List S48), (∀ p ∈ l, WfG fxs p) → OkW fl → fl.length ≤ 4096 → evL fxs l fl = .ok f1 → f1.length ≤ 4096
 | [], fl, f1, hw, hf, hl, he => by
  rw [evL] at he; injection he with he; subst he; exact hl
 | p :: r, fl, f1, hw, hf, hl, he => by
  rw [evL] at he
  cases h1 : evP fxs p fl with
  | error e => rw [h1] at he; cases he
  | ok f2 =>
   rw [h1] at he
   exact evL_len fxs r f2 f1 (fun q hq => hw q (List.mem_cons_of_mem _ hq)) (evP_ok fxs p fl f2 (hw p (List.mem_cons_self ..)) hf h1).1 (evP_len fxs p fl f2 (hw p (List.mem_cons_self ..)) hf hl h1) he
end
section
variable {x : S103} {l : List S48} {room : Int}
theorem mean3_ok (h : x.f0 = 3) (h2 : (fixF (opOf x)).2 = 0) (h3 : ((fixF (opOf x)).1.length : Int) ≤ room) : meantF x l room = ((fixF (opOf x)).1, 0) := by
  unfold meantF
  rw [if_neg (show ¬ x.f0 = 2 by omega), if_pos h, if_neg (fun q => by have := q.2; omega), ← h2]
theorem xgU (h : x.f0 = 3) (h2 : (fixF (opOf x)).2 = 0) (h3 : room < ((fixF (opOf x)).1.length : Int)) : meantF x l room = ((fixF (opOf x)).1, 81) := by
  unfold meantF
  rw [if_neg (show ¬ x.f0 = 2 by omega), if_pos h, if_pos ⟨h2, h3⟩]
theorem xiA (h : x.f0 = 3) (h2 : ¬ (fixF (opOf x)).2 = 0) : meantF x l room = fixF (opOf x) := by
  unfold meantF
  rw [if_neg (show ¬ x.f0 = 2 by omega), if_pos h, if_neg (fun q => h2 q.1)]
theorem mean4 (h : x.f0 = 4) : meantF x l room = (l.map ngF, 0) := by
  unfold meantF
  rw [if_neg (show ¬ x.f0 = 2 by omega), if_neg (show ¬ x.f0 = 3 by omega), if_pos h]
theorem mean6 (h : x.f0 = 6) : meantF x l room = if l.all (fun f => numB (mulN x.f3 f.f1)) = true then (l.map (scF x.f3), 0) else ([], 91) := by
  unfold meantF
  rw [if_neg (show ¬ x.f0 = 2 by omega), if_neg (show ¬ x.f0 = 3 by omega), if_neg (show ¬ x.f0 = 4 by omega), if_pos h]
theorem mean7 (h : x.f0 = 7) : meantF x l room = (l.filter (inW x.f5 x.f6), 0) := by
  unfold meantF
  rw [if_neg (show ¬ x.f0 = 2 by omega), if_neg (show ¬ x.f0 = 3 by omega), if_neg (show ¬ x.f0 = 4 by omega), if_neg (show ¬ x.f0 = 6 by omega), if_pos h]
theorem mean8 (h : x.f0 = 8) : meantF x l room = repF x.f10 room l (pairs l 1 x.f9.toNat) := by
  unfold meantF
  rw [if_neg (show ¬ x.f0 = 2 by omega), if_neg (show ¬ x.f0 = 3 by omega), if_neg (show ¬ x.f0 = 4 by omega), if_neg (show ¬ x.f0 = 6 by omega), if_neg (show ¬ x.f0 = 7 by omega), if_pos h]
theorem xgT (h : x.f0 = 1 ∨ x.f0 = 5) : meantF x l room = (l, 0) := by
  unfold meantF
  rw [if_neg (show ¬ x.f0 = 2 by omega), if_neg (show ¬ x.f0 = 3 by omega), if_neg (show ¬ x.f0 = 4 by omega), if_neg (show ¬ x.f0 = 6 by omega), if_neg (show ¬ x.f0 = 7 by omega), if_neg (show ¬ x.f0 = 8 by omega)]
end
theorem xhJ (x : S103) (r : List S103) (all : List S48) (fr fr' : List Nat) (n : Nat) (hs : startF x all.length fr = (n, fr')) : runF (x :: r) all fr = if (meantF x (all.drop n) (4096 - (all.length : Int))).2 = 0 then runF r (all.take n ++ (meantF x (all.drop n) (4096 - (all.length : Int))).1) (n :: fr') else .error (meantF x (all.drop n) (4096 - (all.length : Int))).2 := by
  rw [runF, hs]
theorem run_lay {s : Nat} {T : TT} {l : List S103} (h : Lay s T l) (hg : ∀ x ∈ l, GoodT x) : ∀ (rest : List S103) (all : List S48) (fr : List Nat), OkW all → all.length ≤ 4096 → runF (l ++ rest) all fr = (evL fixF (pcs T) all).bind fun f1 => runF rest f1 (all.length :: fr) := by
 induction h with
 | leaf s x h hz =>
  intro rest all fr hw hl
  have hs : startF x all.length fr = (all.length, fr) := by unfold startF; rw [if_pos h]
  rw [List.singleton_append, xhJ _ _ _ _ _ _ hs, List.drop_length, List.take_length, pcs]
  rcases parts0 h with h1 | h1 | h1
  ·
   rw [xgT (Or.inl h1), if_pos rfl, if_pos h1, List.append_nil, evL]; rfl
  ·
   rw [if_neg (show ¬ x.f0 = 1 by omega), xgW, evP, if_pos ((xbV _).2 (Or.inl (by show opIx x.f0 = 2; rw [h1]; rfl)))]
   have ha : act (fixF (opOf x)) (opOf x) all [] = if all.length = 4096 then (all, [], 81) else (all ++ [⟨x.f5, x.f3, x.f7⟩], [], 0) := by
    unfold act
    rw [if_neg (by show ¬ opIx x.f0 = 1; rw [h1]; decide), if_pos (by show opIx x.f0 = 2; rw [h1]; rfl)]; rfl
   have em : meantF x [] (4096 - (all.length : Int)) = if all.length = 4096 then ([], 81) else ([⟨x.f5, x.f3, x.f7⟩], 0) := by
    unfold meantF
    rw [if_pos h1]
    by_cases h2 : all.length = 4096
    ·
     rw [if_pos h2, if_pos (show (4096 : Int) - (all.length : Int) = 0 by omega)]
    ·
     rw [if_neg h2, if_neg (show ¬ (4096 : Int) - (all.length : Int) = 0 by omega)]
   rw [ha, em]
   by_cases h2 : all.length = 4096
   ·
    rw [if_pos h2, if_pos h2]; rfl
   ·
    rw [if_neg h2, if_neg h2]; rfl
  ·
   rw [if_neg (show ¬ x.f0 = 1 by omega), xgW, evP, if_pos ((xbV _).2 (Or.inr (by show opIx x.f0 = 3; rw [h1]; rfl)))]
   have ha : act (fixF (opOf x)) (opOf x) all [] = if (fixF (opOf x)).2 = 0 then ((adds all (fixF (opOf x)).1).1, [], (adds all (fixF (opOf x)).1).2) else (all, [], (fixF (opOf x)).2) := by
    unfold act
    rw [if_neg (by show ¬ opIx x.f0 = 1; rw [h1]; decide), if_neg (by show ¬ opIx x.f0 = 2; rw [h1]; decide), if_pos (by show opIx x.f0 = 3; rw [h1]; rfl)]
   rw [ha]
   by_cases h2 : (fixF (opOf x)).2 = 0
   ·
    rw [if_pos h2]
    obtain ⟨i1, i2⟩ := adds_len (fixF (opOf x)).1 all hl
    by_cases h3 : all.length + (fixF (opOf x)).1.length ≤ 4096
    ·
     rw [i1 h3, mean3_ok h1 h2 (by omega)]; rfl
    ·
     rw [xgU h1 h2 (by omega)]
     have h4 := i2 (by omega)
     simp only [h4]
     rfl
   ·
    rw [if_neg h2, xiA h1 h2, if_neg h2]
    simp only [h2, if_false]
    rfl
 | un s x a l h ha h1 ih =>
  intro rest all fr hw hl
  have hx := hg x (List.mem_append_right _ (List.mem_singleton.2 rfl))
  have hga := fun z hz => hg z (List.mem_append_left _ hz)
  obtain ⟨hk, he⟩ := un_kind hx h
  have hn5 : ¬ x.f0 = 5 := by omega
  rw [List.append_assoc, ih hga _ all fr hw hl, pcs, xgW, xgE he]
  cases h2 : evL fixF (pcs a) all with
  | error e => rfl
  | ok f1 =>
   obtain ⟨h3, t, rfl⟩ := evL_ok fixF (pcs a) all f1 (pcs_wf ha hga) hw h2
   have h4 := evL_len fixF (pcs a) all _ (pcs_wf ha hga) hw hl h2
   show runF ([x] ++ rest) (all ++ t) (all.length :: fr) = (opE fixF (opOf x) all.length (all ++ t)).bind fun f1 => runF rest f1 (all.length :: fr)
   have hs : startF x (all ++ t).length (all.length :: fr) = (all.length, fr) := by
    unfold startF
    rw [if_neg (by rw [h]; decide)]
    simp only [hn5, if_false]
   rw [List.singleton_append, xhJ _ _ _ _ _ _ hs, xgR he, List.drop_left' rfl, List.take_left' rfl]
   rcases hk with hk | hk | hk | hk
   ·
    have e : (opOf x).f0 = 4 := by show opIx x.f0 = 4; rw [hk]; rfl
    rw [mean4 hk, if_pos e]; rfl
   ·
    have e : (opOf x).f0 = 5 := by show opIx x.f0 = 5; rw [hk]; rfl
    rw [mean6 hk, if_neg (show ¬ (opOf x).f0 = 4 by omega), if_pos e]
    by_cases hall : t.all (fun f => numB (mulN x.f3 f.f1)) = true
    ·
     rw [if_pos hall, if_pos (show t.all (fun f => numB (mulN (opOf x).f1 f.f1)) = true from hall)]; rfl
    ·
     rw [if_neg hall, if_neg (show ¬ t.all (fun f => numB (mulN (opOf x).f1 f.f1)) = true from hall)]; rfl
   ·
    have e : (opOf x).f0 = 6 := by show opIx x.f0 = 6; rw [hk]; rfl
    rw [mean7 hk, if_neg (show ¬ (opOf x).f0 = 4 by omega), if_neg (show ¬ (opOf x).f0 = 5 by omega), if_pos e]; rfl
   ·
    have e : (opOf x).f0 = 7 := by show opIx x.f0 = 7; rw [hk]; rfl
    rw [mean8 hk, if_neg (show ¬ (opOf x).f0 = 4 by omega), if_neg (show ¬ (opOf x).f0 = 5 by omega), if_neg (show ¬ (opOf x).f0 = 6 by omega)]
    rw [rep_push x.f10 (pairs t 1 x.f9.toNat) all t h4]
    show _ = Except.bind (if (pushes x.f10 (all ++ t) (pairs t 1 x.f9.toNat)).2 = 0 then Except.ok (pushes x.f10 (all ++ t) (pairs t 1 x.f9.toNat)).1 else Except.error (pushes x.f10 (all ++ t) (pairs t 1 x.f9.toNat)).2) _
    by_cases hp : (pushes x.f10 (all ++ t) (pairs t 1 x.f9.toNat)).2 = 0
    ·
     rw [if_pos hp, if_pos hp]
     obtain ⟨u, eu, _⟩ := xgQ x.f10 (pairs t 1 x.f9.toNat) (all ++ t)
     show runF rest (all ++ (pushes x.f10 (all ++ t) (pairs t 1 x.f9.toNat)).1.drop all.length) (all.length :: fr) = runF rest (pushes x.f10 (all ++ t) (pairs t 1 x.f9.toNat)).1 (all.length :: fr)
     rw [eu, List.append_assoc, List.drop_left' rfl]
    ·
     rw [if_neg hp, if_neg hp, if_neg hp]; rfl
 | both s x a b l m h ha hb h1 h2 iha ihb =>
  intro rest all fr hw hl
  have hga := fun z hz => hg z (List.mem_append_left _ (List.mem_append_left _ hz))
  have hgb := fun z hz => hg z (List.mem_append_left _ (List.mem_append_right _ hz))
  have hk := parts2 h
  rw [List.append_assoc, List.append_assoc, iha hga _ all fr hw hl, pcs, evL_app]
  cases h2 : evL fixF (pcs a) all with
  | error e => rfl
  | ok f1 =>
   obtain ⟨h3, t, rfl⟩ := evL_ok fixF (pcs a) all f1 (pcs_wf ha hga) hw h2
   have h4 := evL_len fixF (pcs a) all _ (pcs_wf ha hga) hw hl h2
   show runF (m ++ ([x] ++ rest)) (all ++ t) (all.length :: fr) = (evL fixF (pcs b) (all ++ t)).bind fun f1 => runF rest f1 (all.length :: fr)
   rw [ihb hgb _ (all ++ t) (all.length :: fr) h3 h4]
   cases h5 : evL fixF (pcs b) (all ++ t) with
   | error e => rfl
   | ok f2 =>
    obtain ⟨h6, u, rfl⟩ := evL_ok fixF (pcs b) (all ++ t) f2 (pcs_wf hb hgb) h3 h5
    show runF ([x] ++ rest) (all ++ t ++ u) ((all ++ t).length :: all.length :: fr) = runF rest (all ++ t ++ u) (all.length :: fr)
    have hs : startF x (all ++ t ++ u).length ((all ++ t).length :: all.length :: fr) = (all.length, fr) := by
     unfold startF
     rw [if_neg (by rw [h]; decide)]
     simp only [hk, if_true]
    rw [List.singleton_append, xhJ _ _ _ _ _ _ hs, List.append_assoc, List.drop_left' rfl, List.take_left' rfl]
    rw [xgT (Or.inr hk), if_pos rfl]
theorem flows_law {T : TT} {t : List S103} (hc : (checkT t).1 = 0) (h : Lay 0 T t) (hg : ∀ x ∈ t, GoodT x) (hl : (codeL (pcs T)).length ≤ 8192) (a : Int) : flowsD t = runT fixF (0, a) (codeL (pcs T)) := by
 have hr := run_lay h hg [] [] [] OkW.nil (by decide)
 rw [List.append_nil] at hr
 have hwp : ∀ p ∈ pcs T, WfP p := fun p hp => by
  have : ∀ q, WfG fixF q → WfP q := fun q hq => by
   induction hq with
   | add o h _ => exact .add o h
   | take o ps h _ _ ih => exact .take o ps h ih
  exact this p (pcs_wf h hg p hp)
 unfold flowsD
 rw [if_pos hc, runT_E fixF hl, run_code fixF hwp, hr]
 cases evL fixF (pcs T) [] <;> rfl
def Fit : List S103 → Nat → Prop
  | [], _ => True
  | x :: r, n => GoodT x ∧ (partsP x.f0 = 0 → (x.f1 = 0 ∧ x.f2 = 0) ∧ Fit r (n + 1)) ∧ (partsP x.f0 = 1 → 1 ≤ n ∧ Fit r n) ∧ (partsP x.f0 = 2 → 2 ≤ n ∧ Fit r (n - 1))
theorem fit_lay {s : Nat} {T : TT} {l : List S103} (h : Lay s T l) (hg : ∀ x ∈ l, GoodT x) : ∀ (rest : List S103) (n : Nat), Fit rest (n + 1) → Fit (l ++ rest) n := by
 induction h with
 | leaf s x h hz =>
  intro rest n hr
  exact ⟨hg x (List.mem_singleton.2 rfl), fun _ => ⟨hz, hr⟩, fun h1 => absurd h1 (by rw [h]; decide), fun h1 => absurd h1 (by rw [h]; decide)⟩
 | un s x a l h ha h1 ih =>
  intro rest n hr
  rw [List.append_assoc]
  exact ih (fun z hz => hg z (List.mem_append_left _ hz)) _ _ ⟨hg x (List.mem_append_right _ (List.mem_singleton.2 rfl)), fun h1 => absurd h1 (by rw [h]; decide), fun _ => ⟨by omega, hr⟩, fun h1 => absurd h1 (by rw [h]; decide)⟩
 | both s x a b l m h ha hb h1 h2 iha ihb =>
  intro rest n hr
  rw [List.append_assoc, List.append_assoc]
  exact iha (fun z hz => hg z (List.mem_append_left _ (List.mem_append_left _ hz))) _ _ (ihb (fun z hz => hg z (List.mem_append_left _ (List.mem_append_right _ hz))) _ _ ⟨hg x (List.mem_append_right _ (List.mem_singleton.2 rfl)), fun h1 => absurd h1 (by rw [h]; decide), fun h1 => absurd h1 (by rw [h]; decide), fun _ => ⟨by omega, hr⟩⟩)
def Inc : List Nat → Nat → Prop
  | [], _ => True
  | s :: r, n => s ≤ n ∧ Inc r s
theorem start_ok {x : S103} {r : List S103} {n : Nat} {fr : List Nat} (hf : Fit (x :: r) fr.length) (hi : Inc fr n) : (startF x n fr).1 ≤ n ∧ Inc (startF x n fr).2 (startF x n fr).1 ∧ Fit r ((startF x n fr).2.length + 1) := by
 obtain ⟨hg, h0, h1, h2⟩ := hf
 unfold startF
 rcases xgA x.f0 with hp | hp | hp
 ·
  rw [if_pos hp]
  exact ⟨Nat.le_refl _, hi, (h0 hp).2⟩
 ·
  rw [if_neg (by rw [hp]; decide)]
  obtain ⟨h3, h4⟩ := h1 hp
  have hn5 : ¬ x.f0 = 5 := fun e => by rw [e] at hp; cases hp
  match fr, hi, h3, h4 with
  | [], _, h3, _ => simp at h3
  | s :: fr', hi, _, h4 => simp only [hn5, if_false]; exact ⟨hi.1, hi.2, h4⟩
 ·
  rw [if_neg (by rw [hp]; decide)]
  obtain ⟨h3, h4⟩ := h2 hp
  have h5 := parts2 hp
  match fr, hi, h3, h4 with
  | [], _, h3, _ => simp at h3
  | [s], _, h3, _ => simp at h3
  | s :: s' :: fr', hi, _, h4 => simp only [h5, if_true]; exact ⟨Nat.le_trans hi.2.1 hi.1, hi.2.2, h4⟩
theorem rep_ok (mo : Int) : ∀ (ps : List (Int × S48)) (room : Int) (out : List S48), 0 ≤ room → OkW out → (∀ p ∈ ps, numB p.2.f1 = true ∧ p.2.f1 < 18446744073709551616) → (repF mo room out ps).2 = 0 → OkW (repF mo room out ps).1 ∧ ((repF mo room out ps).1.length : Int) ≤ out.length + room
 | [], room, out, h0, hw, hp, he => by rw [repF]; exact ⟨hw, by simp only; omega⟩
 | p :: r, room, out, h0, hw, hp, he => by
  rw [repF] at he ⊢
  by_cases h1 : room = 0
  ·
   rw [if_pos h1] at he; cases he
  ·
   rw [if_neg h1] at he ⊢
   by_cases h2 : (mon p.2.f0 (p.1 * mo)).2 = 0
   ·
    rw [if_pos h2] at he ⊢
    obtain ⟨h3, h4⟩ := rep_ok mo r (room - 1) (out ++ [⟨(mon p.2.f0 (p.1 * mo)).1, p.2.f1, p.2.f2⟩]) (by omega) (hw.app (fun f hf => by rw [List.mem_singleton.1 hf]; exact hp p (List.mem_cons_self ..))) (fun q hq => hp q (List.mem_cons_of_mem _ hq)) he
    rw [List.length_append, List.length_singleton] at h4
    exact ⟨h3, by push_cast at h4; omega⟩
   ·
    rw [if_neg h2] at he; exact absurd he h2
theorem num3 {x : S103} (hg : GoodT x) (hk : x.f0 = 2 ∨ x.f0 = 6) : numB x.f3 = true := by
 have h := (xeH hg.f).1
 unfold okT at h
 rcases hk with hk | hk
 ·
  rw [if_pos hk] at h; simp only [Bool.and_eq_true] at h; exact h.1.1
 ·
  rw [if_neg (by omega), if_neg (by omega), if_pos hk] at h; exact h
theorem mean2 {x : S103} {l : List S48} {room : Int} (h : x.f0 = 2) : meantF x l room = if room = 0 then ([], 81) else ([⟨x.f5, x.f3, x.f7⟩], 0) := by unfold meantF; rw [if_pos h]
theorem meant_ok {x : S103} {l : List S48} {room : Int} (hg : GoodT x) (hw : OkW l) (h0 : 0 ≤ room) (he : (meantF x l room).2 = 0) : OkW (meantF x l room).1 ∧ ((meantF x l room).1.length : Int) ≤ l.length + room := by
 have hk := kind_of hg.f
 have hc : x.f0 = 1 ∨ x.f0 = 2 ∨ x.f0 = 3 ∨ x.f0 = 4 ∨ x.f0 = 5 ∨ x.f0 = 6 ∨ x.f0 = 7 ∨ x.f0 = 8 := by omega
 rcases hc with h | h | h | h | h | h | h | h
 ·
  rw [xgT (Or.inl h)]; exact ⟨hw, by simp only; omega⟩
 ·
  rw [mean2 h] at he ⊢
  by_cases h1 : room = 0
  ·
   rw [if_pos h1] at he; cases he
  ·
   rw [if_neg h1]
   exact ⟨fun f hf => by rw [List.mem_singleton.1 hf]; exact ⟨num3 hg (Or.inl h), hg.w⟩, by simp only [List.length_singleton]; omega⟩
 ·
  by_cases h1 : (fixF (opOf x)).2 = 0
  ·
   by_cases h2 : ((fixF (opOf x)).1.length : Int) ≤ room
   ·
    rw [mean3_ok h h1 h2]; exact ⟨fix_wf _, by simp only; omega⟩
   ·
    rw [xgU h h1 (by omega)] at he; cases he
  ·
   rw [xiA h h1] at he; exact absurd he h1
 ·
  rw [mean4 h]
  exact ⟨fun f hf => by obtain ⟨g, hg2, rfl⟩ := List.mem_map.1 hf; exact ⟨neg_num (hw g hg2).1, neg_lt (hw g hg2).2⟩, by simp only [List.length_map]; omega⟩
 ·
  rw [xgT (Or.inr h)]; exact ⟨hw, by simp only; omega⟩
 ·
  rw [mean6 h] at he ⊢
  by_cases h1 : l.all (fun f => numB (mulN x.f3 f.f1)) = true
  ·
   rw [if_pos h1]
   exact ⟨fun f hf => by obtain ⟨g, hg2, rfl⟩ := List.mem_map.1 hf; exact ⟨List.all_eq_true.1 h1 g hg2, mulN_lt (num3 hg (Or.inr h)) (hw g hg2).1⟩, by simp only [List.length_map]; omega⟩
  ·
   rw [if_neg h1] at he; cases he
 ·
  rw [mean7 h]
  exact ⟨hw.sub (fun f hf => (List.mem_filter.1 hf).1), by have := List.length_filter_le (inW x.f5 x.f6) l; simp only; omega⟩
 ·
  rw [mean8 h] at he ⊢
  exact rep_ok _ _ _ _ h0 hw (fun p hp => hw _ (pairs_in hp)) he
theorem repeated_c (l : List S48) (N : Nat) (mo room : Int) (A : Option Addr) (c : Nat) (w : World) (hr : Kd.C k48 w A l.length l) (hl : l.length ≤ 4096) (hN : 1 ≤ N ∧ N ≤ 4096) (hmo : 0 ≤ mo ∧ mo ≤ 100000) (hroom : 0 ≤ room ∧ room ≤ 4096) :
  Calls Tryz.prog 76 #[.slice A l.length c, .int .i64 (N : Int), .int .i64 mo, .int .i64 room] w fun e w' => ∃ A' c', e = .returned (.tuple #[.slice A' (repF mo room l (pairs l 1 N)).1.length c', .int .i64 (repF mo room l (pairs l 1 N)).2]) ∧ Sl k48 48 w' w.heap.size (fun _ => True) A' c' (repF mo room l (pairs l 1 N)).1 ∧ Below w.heap.size w w' := by
 obtain ⟨res, hres⟩ : ∃ res, res = repF mo room l (pairs l 1 N) := ⟨_, rfl⟩
 rw [← hres]
 have HRES := Aside0.mk hres;have HR := Aside0.mk hr;have HL := Aside0.mk hl;have HN := Aside0.mk hN;have HMO := Aside0.mk hmo;have HROOM := Aside0.mk hroom
 have HL8 : Aside0 ((([] : List S48).length + l.length) * 24 ≤ 140737488355328) := ⟨by rw [List.length_nil]; omega⟩
 clear hres hr hl hN hmo hroom
 go_enter Tryz.func76, Tryz.ntmps76
 go_wp2_with ((with_reducible refine xaR (b := .append) (xs := #[.const (.slice none 0 0), .tmp 16]) rfl ?_); go_loud (refine Sl.xcZ rfl (.const (.slice none 0 0)) (.tmp 16) 24 (.agg #[.int .i64 0, .float .f64 0, .int .i64 0]) 24 rfl Tryz.underlying24 info48 rfl (by decide) (by omega) (xs := ([] : List S48)) (ys := l) rfl rfl (Sl.nil k48 48 w w.heap.size (fun _ => True)) HR.out (Nat.le_refl _) HL8.out ?_; intro A1 c1 w1 ho hf _; rw [List.nil_append] at ho; have HO := Aside0.mk (ho.mono (G := fun _ => True) (fun _ _ _ => trivial)); have HB := Aside0.mk (hf.xcW (base := w.heap.size) (Nat.le_refl _) (fun k hk => by obtain ⟨a, ha, _⟩ := hk; cases ha)); clear ho hf; rw [List.length_nil, Nat.zero_add]))
 go_loopg [3, 10, 11] (N) (fun kq v3 v10 v11 w' => ∃ (k : Nat) (rm : Int) (out : List S48) (Ao : Option Addr) (co : Nat), 1 ≤ k ∧ k ≤ N ∧ kq + k = N + 1 ∧ v3 = .int .i64 rm ∧ v10 = .slice Ao out.length co ∧ v11 = .int .i64 k ∧ 0 ≤ rm ∧ rm ≤ 4096 ∧ Aside0 ((out.length : Int) + rm ≤ 8192) ∧ Aside0 (repF mo rm out (pairs l k N) = res) ∧ Aside0 (Sl k48 48 w' w.heap.size (fun _ => True) Ao co out) ∧ Aside0 (Below w.heap.size w w'))
 case atStart => exact ⟨1, room, l, A1, c1, by omega, HN.out.1, by omega, rfl, rfl, rfl, HROOM.out.1, HROOM.out.2, ⟨by have := HL.out; have := HROOM.out; omega⟩, ⟨HRES.out.symm⟩, HO, HB⟩
 case round =>
  clear HO HB
  obtain ⟨k, rm, out, Ao, co, hk1, hk2, hk, rfl, rfl, rfl, hr0, hr1, HOL, HP, HO, HB⟩ := hrel
  obtain ⟨q0, hq0⟩ : ∃ q, q = gk := ⟨_, rfl⟩
  rw [← hq0] at hk
  have HQ0 := Aside0.mk hq0;clear hq0
  by_cases hlt : k < N
  rotate_left
  ·
   have t1 : decide (k < N) = false := decide_eq_false hlt
   have e : res = (out, 0) := by rw [← HP.out, xhY l k N (by omega), repF]
   have HE := Aside0.mk e;clear e hlt
   go_wp2_with fail
   go_ret2
   rw [HE.out]
   exact ⟨Ao, co, rfl, HO.out, HB.out⟩
  have t1 : decide (k < N) = true := decide_eq_true hlt
  by_cases hL : 0 < l.length
  rotate_left
  ·
   have t2 : decide (0 < l.length) = false := decide_eq_false hL
   have e : res = (out, 0) := by rw [← HP.out, List.eq_nil_of_length_eq_zero (show l.length = 0 by omega), xhX, repF]
   have HE := Aside0.mk e;clear e hL
   go_wp2_with fail
   go_ret2
   rw [HE.out]
   exact ⟨Ao, co, rfl, HO.out, HB.out⟩
  have t2 : decide (0 < l.length) = true := decide_eq_true hL
  go_wp2_with fail
  go_loopg [3, 10, 30] (l.length) (fun iq v3 v10 v30 w' => ∃ (i : Nat) (rm : Int) (out : List S48) (Ao : Option Addr) (co : Nat), i ≤ l.length ∧ iq + i = l.length ∧ v3 = .int .i64 rm ∧ v10 = .slice Ao out.length co ∧ v30 = .int .i64 i ∧ 0 ≤ rm ∧ rm ≤ 4096 ∧ Aside0 ((out.length : Int) + rm ≤ 8192) ∧ Aside0 (repF mo rm out ((l.drop i).map (fun f => ((k : Int), f)) ++ pairs l (k + 1) N) = res) ∧ Aside0 (Sl k48 48 w' w.heap.size (fun _ => True) Ao co out) ∧ Aside0 (Below w.heap.size w w'))
  case atStart => exact ⟨0, rm, out, Ao, co, by omega, by omega, rfl, rfl, rfl, hr0, hr1, HOL, ⟨by rw [List.drop_zero, ← pairs_step _ _ _ hlt]; exact HP.out⟩, HO, HB⟩
  case round =>
   clear HO HB HOL HP hr0 hr1
   obtain ⟨i, rm, out, Ao, co, hi, hik, rfl, rfl, rfl, hr0, hr1, HOL, HP, HO, HB⟩ := hrel
   by_cases hil : i < l.length
   ·
    have t3 : decide (i < l.length) = true := decide_eq_true hil
    obtain ⟨ad, e, h0, h1, h2⟩ := at_T48 (Kd.xbP HR.out HB.out) (i : Int) (by omega) (by omega)
    subst e
    rw [rd48 hil] at h0 h1 h2
    rw [Int.toNat_natCast] at h0 h1 h2
    have HT := Aside0.mk (List.drop_eq_getElem_cons hil)
    obtain ⟨x, hx⟩ : ∃ x, x = l[i] := ⟨_, rfl⟩
    rw [← hx] at h0 h1 h2 HT
    clear hx
    have B13 := Aside0.mk (xbB wr (.cells #[.int .i64 x.f0, .float .f64 x.f1, .int .i64 x.f2] 48))
    obtain ⟨f0, f1, f2, x0, x1, x2⟩ := blk3 B13
    by_cases hf : rm = 0
    ·
     have t4 : (rm == 0) = true := beq_iff_eq.2 hf
     have HFF := Aside0.mk hf;clear hf
     go_wp2_with fail
     go_ret2
     have e1 : res = ([], 81) := by rw [← HP.out, HT.out, List.map_cons, List.cons_append, repF, if_pos HFF.out]
     rw [e1]
     exact ⟨none, 0, rfl, Sl.nil _ _ _ _ _, xaC HB.out _⟩
    ·
     have t4 : (rm == 0) = false := beq_eq_false_iff_ne.2 hf
     have HNF := Aside0.mk hf
     have hwr : IntKind.i64.wrap (rm - 1) = rm - 1 := by rw [i64_w]; unfold wrap64; omega
     have HR1 : Aside0 (0 ≤ rm - 1 ∧ rm - 1 ≤ 4096) := ⟨by omega⟩
     have HL9 : Aside0 ((out.length + 1) * 24 ≤ 140737488355328) := ⟨by have := HOL.out; omega⟩
     have HOL1 : Aside0 (((out.length + 1 : Nat) : Int) + (rm - 1) ≤ 8192) := ⟨by have := HOL.out; push_cast; omega⟩
     clear hf
     have hm0 : 0 ≤ (k : Int) * mo := Int.mul_nonneg (by omega) HMO.out.1
     have hm1 : (k : Int) * mo ≤ 409600000 := by
      have h1 := Int.mul_le_mul (show (k : Int) ≤ 4096 by have := HN.out; omega) HMO.out.2 HMO.out.1 (by omega)
      omega
     obtain ⟨⟨dd, ee⟩, hde⟩ : ∃ p, p = mon x.f0 ((k : Int) * mo) := ⟨_, rfl⟩
     have hmc := xhD x.f0 ((k : Int) * mo) (wr.alloc (.cells #[.int .i64 x.f0, .float .f64 x.f1, .int .i64 x.f2] 48))
     rw [← hde] at hmc
     have HDE := Aside0.mk hde;have HMC := Aside0.mk hmc;clear hde hmc
     by_cases he : ee = 0
     ·
      subst he
      go_upto_region 15 with (go_at_call 79; (with_reducible refine HMC.out.mono ?_); rintro e w' ⟨rfl, nk, rfl⟩)
      have HB2 := Aside0.mk (xbA (j := 0) (v := .int .i64 dd) (xaJ (xaC (Below.refl wr.heap.size wr) (.cells #[.int .i64 x.f0, .float .f64 x.f1, .int .i64 x.f2] 48)) nk) (Nat.le_refl _))
      have B14 := Aside0.mk (xaS (xaH B13.out nk) 0 (.int .i64 dd) rfl)
      clear f0 f1 f2 x0 x1 x2 B13 HMC h0 h1 h2
      generalize ((wr.alloc (.cells #[.int .i64 x.f0, .float .f64 x.f1, .int .i64 x.f2] 48)).drewN nk).setCell ⟨wr.heap.size, 0, none⟩ (.int .i64 dd) = W2 at HB2 B14 ⊢
      generalize wr.heap.size = gf at B14 ⊢
      obtain ⟨f0, f1, f2, x0, x1, x2⟩ := blk3 B14
      have hmx : (i : Int) + 1 ≤ 9223372036854775807 := by have := HL.out; omega
      clear hm0 hm1 hwr
      go_wp2_with ((with_reducible refine xaR (b := .append) (xs := #[.tmp 52, .tmp 54]) rfl ?_); go_loud (refine Sl.xcZ rfl (.tmp 52) (.tmp 54) 24 (.agg #[.int .i64 0, .float .f64 0, .int .i64 0]) 24 rfl Tryz.underlying24 info48 rfl (by decide) (by omega) (ys := [(⟨dd, x.f1, x.f2⟩ : S48)]) rfl rfl ((HO.out.below HB2.out).below (xaC (Below.refl _ _) _)) (lit_C (k48_mk W2 (⟨dd, x.f1, x.f2⟩ : S48))) (xaC (HB.out.trans (HB2.out.mono HB.out.size)) _).size HL9.out ?_; intro A5 c5 w6 ho hf _; have HO1 := Aside0.mk (ho.mono (G := fun _ => True) (fun _ _ _ => trivial)); have HB1 := Aside0.mk ((xaC (HB.out.trans (HB2.out.mono HB.out.size)) _).trans (hf.xcW (xaC (HB.out.trans (HB2.out.mono HB.out.size)) _).size (fun k hk => (HO.out.own_bd k hk).1))); clear ho hf))
      have HP1 : Aside0 (repF mo (rm - 1) (out ++ [⟨dd, x.f1, x.f2⟩]) ((l.drop (i + 1)).map (fun f => ((k : Int), f)) ++ pairs l (k + 1) N) = res) := ⟨by
       rw [← HP.out, HT.out, List.map_cons, List.cons_append, repF, if_neg HNF.out]
       simp only
       rw [← HDE.out, if_pos rfl]⟩
      go_roundg (gk - 1)
      case measure => omega
      case rel => exact ⟨i + 1, rm - 1, out ++ [⟨dd, x.f1, x.f2⟩], A5, c5, by omega, by omega, rfl, by rw [List.length_append]; rfl, by go_num, HR1.out.1, HR1.out.2, ⟨by rw [List.length_append]; exact HOL1.out⟩, HP1, HO1, HB1⟩
     ·
      have t5 : (ee != 0) = true := bne_iff_ne.2 he
      have HNE := Aside0.mk he;clear he
      go_wp2_with (go_at_call 79; (with_reducible refine HMC.out.mono ?_); rintro e w' ⟨rfl, nk, rfl⟩)
      go_ret2
      have e1 : res = ([], ee) := by
       rw [← HP.out, HT.out, List.map_cons, List.cons_append, repF, if_neg HNF.out]
       simp only
       rw [← HDE.out, if_neg HNE.out]
      rw [e1]
      exact ⟨none, 0, rfl, Sl.nil _ _ _ _ _, xaJ (xaC HB.out _) nk⟩
   ·
    have t3 : decide (i < l.length) = false := decide_eq_false hil
    have hkx : (k : Int) + 1 ≤ 9223372036854775807 := by have := HN.out; omega
    have HP1 : Aside0 (repF mo rm out (pairs l (k + 1) N) = res) := ⟨by rw [← HP.out, List.drop_eq_nil_of_le (by omega)]; rfl⟩
    go_wp2_with fail
    rw [← HQ0.out]
    go_roundg (q0 - 1)
    case measure => omega
    case rel => exact ⟨k + 1, rm, out, Ao, co, by omega, by omega, by omega, rfl, rfl, by go_num, hr0, hr1, HOL, HP1, HO, HB⟩
theorem fixed_x (x : S103) (hf : fieldsB x = true) (hk : x.f0 = 3) (hz : x.f1 = 0 ∧ x.f2 = 0) (w : World) : Calls Tryz.prog 72 #[.agg #[.int .i64 x.f0, .int .i64 x.f1, .int .i64 x.f2, .float .f64 x.f3, .float .f64 x.f4, .int .i64 x.f5, .int .i64 x.f6, .int .i64 x.f7, .int .i64 x.f8, .int .i64 x.f9, .int .i64 x.f10]] w fun e w' => ∃ A' c', e = .returned (.tuple #[.slice A' (fixF (opOf x)).1.length c', .int .i64 (fixF (opOf x)).2]) ∧ Sl k48 48 w' w.heap.size (fun _ => True) A' c' (fixF (opOf x)).1 ∧ Below w.heap.size w w' := by
 obtain ⟨h1, h2⟩ := xeH hf
 obtain ⟨x0, x1, x2, x3, x4, x5, x6, x7, x8, x9, x10⟩ := x
 simp only at hk hz
 obtain ⟨rfl, rfl⟩ := hz
 subst hk
 unfold okT at h1
 simp [xiC] at h1
 obtain ⟨⟨⟨⟨⟨⟨⟨hx, hy⟩, hc1⟩, ha⟩, hb1⟩, hab⟩, hn⟩, hcur⟩ := h1
 have hm : x10 = 0 := by
  unfold sameT keptT sameB at h2
  simp at h2
  exact h2.symm
 subst hm
 exact fixed1 x8 x7 x3 x4 x5 x6 x9 _ _ w (fun w => leg_c x8 x7 x3 x4 x5 x6 x9 hc1 hcur hx hy w)
theorem meant_id1 (x : S103) (l : List S48) (room : Int) (A : Option Addr) (c : Nat) (w : World) (hk : x.f0 = 1) (hr : Kd.C k48 w A l.length l) : Calls Tryz.prog 48 #[.agg #[.int .i64 x.f0, .int .i64 x.f1, .int .i64 x.f2, .float .f64 x.f3, .float .f64 x.f4, .int .i64 x.f5, .int .i64 x.f6, .int .i64 x.f7, .int .i64 x.f8, .int .i64 x.f9, .int .i64 x.f10], .slice A l.length c, .int .i64 room] w fun e w' => ∃ A' c', e = .returned (.tuple #[.slice A' (meantF x l room).1.length c', .int .i64 (meantF x l room).2]) ∧ Kd.C k48 w' A' (meantF x l room).1.length (meantF x l room).1 ∧ Below w.heap.size w w' := by
 have HB := Aside0.mk (Below.refl w.heap.size w)
 have t2 : (x.f0 == 2) = false := by rw [hk]; rfl
 have t3 : (x.f0 == 3) = false := by rw [hk]; rfl
 have t4 : (x.f0 == 4) = false := by rw [hk]; rfl
 have t6 : (x.f0 == 6) = false := by rw [hk]; rfl
 have t7 : (x.f0 == 7) = false := by rw [hk]; rfl
 have t8 : (x.f0 == 8) = false := by rw [hk]; rfl
 rw [xgT (Or.inl hk)]
 have HR := Aside0.mk hr;clear hk hr
 go_enter Tryz.func48, Tryz.ntmps48
 go_wp2_with ((with_reducible refine xaU (N := 3) rfl ?_); refine xaT ?hg (N := 3) ?hd (cs := #[.int .i64 x.f0, .int .i64 x.f1, .int .i64 x.f2, .float .f64 x.f3, .float .f64 x.f4, .int .i64 x.f5, .int .i64 x.f6, .int .i64 x.f7, .int .i64 x.f8, .int .i64 x.f9, .int .i64 x.f10]) (t := 103) ?hr ?_; (case hd => rfl); (case hg => rfl); (case hr => first | (go_simp; done) | (go_simp; rfl)); intro gt hg w1 hbox hb; have BT := Aside0.mk hbox; replace HB := Aside0.mk (xaV HB.out hb); clear hb hbox hg; obtain ⟨⟨d0, d1, d2, d3, d4, d5, d6, d7, d8, d9, d10⟩, y_⟩ := blk11 BT; clear y_)
 go_ret2
 exact ⟨A, c, rfl, Kd.xbP HR.out HB.out, HB.out⟩
theorem meant_id5 (x : S103) (l : List S48) (room : Int) (A : Option Addr) (c : Nat) (w : World) (hk : x.f0 = 5) (hr : Kd.C k48 w A l.length l) : Calls Tryz.prog 48 #[.agg #[.int .i64 x.f0, .int .i64 x.f1, .int .i64 x.f2, .float .f64 x.f3, .float .f64 x.f4, .int .i64 x.f5, .int .i64 x.f6, .int .i64 x.f7, .int .i64 x.f8, .int .i64 x.f9, .int .i64 x.f10], .slice A l.length c, .int .i64 room] w fun e w' => ∃ A' c', e = .returned (.tuple #[.slice A' (meantF x l room).1.length c', .int .i64 (meantF x l room).2]) ∧ Kd.C k48 w' A' (meantF x l room).1.length (meantF x l room).1 ∧ Below w.heap.size w w' := by
 have HB := Aside0.mk (Below.refl w.heap.size w)
 have t2 : (x.f0 == 2) = false := by rw [hk]; rfl
 have t3 : (x.f0 == 3) = false := by rw [hk]; rfl
 have t4 : (x.f0 == 4) = false := by rw [hk]; rfl
 have t6 : (x.f0 == 6) = false := by rw [hk]; rfl
 have t7 : (x.f0 == 7) = false := by rw [hk]; rfl
 have t8 : (x.f0 == 8) = false := by rw [hk]; rfl
 rw [xgT (Or.inr hk)]
 have HR := Aside0.mk hr;clear hk hr
 go_enter Tryz.func48, Tryz.ntmps48
 go_wp2_with ((with_reducible refine xaU (N := 3) rfl ?_); refine xaT ?hg (N := 3) ?hd (cs := #[.int .i64 x.f0, .int .i64 x.f1, .int .i64 x.f2, .float .f64 x.f3, .float .f64 x.f4, .int .i64 x.f5, .int .i64 x.f6, .int .i64 x.f7, .int .i64 x.f8, .int .i64 x.f9, .int .i64 x.f10]) (t := 103) ?hr ?_; (case hd => rfl); (case hg => rfl); (case hr => first | (go_simp; done) | (go_simp; rfl)); intro gt hg w1 hbox hb; have BT := Aside0.mk hbox; replace HB := Aside0.mk (xaV HB.out hb); clear hb hbox hg; obtain ⟨⟨d0, d1, d2, d3, d4, d5, d6, d7, d8, d9, d10⟩, y_⟩ := blk11 BT; clear y_)
 go_ret2
 exact ⟨A, c, rfl, Kd.xbP HR.out HB.out, HB.out⟩
theorem meant_pay (x : S103) (l : List S48) (room : Int) (A : Option Addr) (c : Nat) (w : World) (hk : x.f0 = 2) : Calls Tryz.prog 48 #[.agg #[.int .i64 x.f0, .int .i64 x.f1, .int .i64 x.f2, .float .f64 x.f3, .float .f64 x.f4, .int .i64 x.f5, .int .i64 x.f6, .int .i64 x.f7, .int .i64 x.f8, .int .i64 x.f9, .int .i64 x.f10], .slice A l.length c, .int .i64 room] w fun e w' => ∃ A' c', e = .returned (.tuple #[.slice A' (meantF x l room).1.length c', .int .i64 (meantF x l room).2]) ∧ Kd.C k48 w' A' (meantF x l room).1.length (meantF x l room).1 ∧ Below w.heap.size w w' := by
 have HB := Aside0.mk (Below.refl w.heap.size w)
 have t2 : (x.f0 == 2) = true := by rw [hk]; rfl
 rw [mean2 hk]
 clear hk
 by_cases hz : room = 0
 ·
  have t9 : (room == 0) = true := beq_iff_eq.2 hz
  rw [if_pos hz]
  clear hz
  go_enter Tryz.func48, Tryz.ntmps48
  go_wp2_with ((with_reducible refine xaU (N := 3) rfl ?_); refine xaT ?hg (N := 3) ?hd (cs := #[.int .i64 x.f0, .int .i64 x.f1, .int .i64 x.f2, .float .f64 x.f3, .float .f64 x.f4, .int .i64 x.f5, .int .i64 x.f6, .int .i64 x.f7, .int .i64 x.f8, .int .i64 x.f9, .int .i64 x.f10]) (t := 103) ?hr ?_; (case hd => rfl); (case hg => rfl); (case hr => first | (go_simp; done) | (go_simp; rfl)); intro gt hg w1 hbox hb; have BT := Aside0.mk hbox; replace HB := Aside0.mk (xaV HB.out hb); clear hb hbox hg; obtain ⟨⟨d0, d1, d2, d3, d4, d5, d6, d7, d8, d9, d10⟩, y_⟩ := blk11 BT; clear y_)
  go_ret2
  exact ⟨none, 0, rfl, Kd.C_nil _ _, HB.out⟩
 ·
  have t9 : (room == 0) = false := beq_eq_false_iff_ne.2 hz
  rw [if_neg hz]
  clear hz
  go_enter Tryz.func48, Tryz.ntmps48
  go_wp2_with ((with_reducible refine xaU (N := 3) rfl ?_); refine xaT ?hg (N := 3) ?hd (cs := #[.int .i64 x.f0, .int .i64 x.f1, .int .i64 x.f2, .float .f64 x.f3, .float .f64 x.f4, .int .i64 x.f5, .int .i64 x.f6, .int .i64 x.f7, .int .i64 x.f8, .int .i64 x.f9, .int .i64 x.f10]) (t := 103) ?hr ?_; (case hd => rfl); (case hg => rfl); (case hr => first | (go_simp; done) | (go_simp; rfl)); intro gt hg w1 hbox hb; have BT := Aside0.mk hbox; replace HB := Aside0.mk (xaV HB.out hb); clear hb hbox hg; obtain ⟨⟨d0, d1, d2, d3, d4, d5, d6, d7, d8, d9, d10⟩, y_⟩ := blk11 BT; clear y_)
  go_ret2
  exact ⟨_, 1, rfl, lit_C (k48_mk _ (⟨x.f5, x.f3, x.f7⟩ : S48)), xaC HB.out _⟩
theorem meant_fix (x : S103) (l : List S48) (room : Int) (A : Option Addr) (c : Nat) (w : World) (hk : x.f0 = 3) (hf : ∀ w, Calls Tryz.prog 72 #[.agg #[.int .i64 x.f0, .int .i64 x.f1, .int .i64 x.f2, .float .f64 x.f3, .float .f64 x.f4, .int .i64 x.f5, .int .i64 x.f6, .int .i64 x.f7, .int .i64 x.f8, .int .i64 x.f9, .int .i64 x.f10]] w fun e w' => ∃ A' c', e = .returned (.tuple #[.slice A' (fixF (opOf x)).1.length c', .int .i64 (fixF (opOf x)).2]) ∧ Sl k48 48 w' w.heap.size (fun _ => True) A' c' (fixF (opOf x)).1 ∧ Below w.heap.size w w') : Calls Tryz.prog 48 #[.agg #[.int .i64 x.f0, .int .i64 x.f1, .int .i64 x.f2, .float .f64 x.f3, .float .f64 x.f4, .int .i64 x.f5, .int .i64 x.f6, .int .i64 x.f7, .int .i64 x.f8, .int .i64 x.f9, .int .i64 x.f10], .slice A l.length c, .int .i64 room] w fun e w' => ∃ A' c', e = .returned (.tuple #[.slice A' (meantF x l room).1.length c', .int .i64 (meantF x l room).2]) ∧ Kd.C k48 w' A' (meantF x l room).1.length (meantF x l room).1 ∧ Below w.heap.size w w' := by
 have HB := Aside0.mk (Below.refl w.heap.size w)
 have t2 : (x.f0 == 2) = false := by rw [hk]; rfl
 have t3 : (x.f0 == 3) = true := by rw [hk]; rfl
 by_cases h2 : (fixF (opOf x)).2 = 0
 ·
  by_cases h3 : ((fixF (opOf x)).1.length : Int) ≤ room
  ·
   rw [mean3_ok hk h2 h3]
   generalize fixF (opOf x) = r at hf h2 h3
   obtain ⟨rl, re⟩ := r
   simp only at hf h2 h3 ⊢
   subst h2
   have t9 : decide ((rl.length : Int) > room) = false := decide_eq_false (by omega)
   have t10 : decide (room < (rl.length : Int)) = false := decide_eq_false (by omega)
   have HF := Aside0.mk hf;clear hf h3 hk
   go_enter Tryz.func48, Tryz.ntmps48
   go_wp2_with (first | ((with_reducible refine xaU (N := 3) rfl ?_); refine xaT ?hg (N := 3) ?hd (cs := #[.int .i64 x.f0, .int .i64 x.f1, .int .i64 x.f2, .float .f64 x.f3, .float .f64 x.f4, .int .i64 x.f5, .int .i64 x.f6, .int .i64 x.f7, .int .i64 x.f8, .int .i64 x.f9, .int .i64 x.f10]) (t := 103) ?hr ?_; (case hd => rfl); (case hg => rfl); (case hr => first | (go_simp; done) | (go_simp; rfl)); intro gt hg w1 hbox hb; have BT := Aside0.mk hbox; replace HB := Aside0.mk (xaV HB.out hb); clear hb hbox hg; obtain ⟨⟨d0, d1, d2, d3, d4, d5, d6, d7, d8, d9, d10⟩, y_⟩ := blk11 BT; clear y_) | (go_at_call 72; (with_reducible refine (HF.out _).mono ?_); rintro e w5 ⟨A', c', rfl, hs, hb⟩; have HS := Aside0.mk hs.C; have HB2 := Aside0.mk (HB.out.trans (hb.mono HB.out.size)); clear hs hb))
   go_ret2
   exact ⟨A', c', rfl, HS.out, HB2.out⟩
  ·
   rw [xgU hk h2 (by omega)]
   generalize fixF (opOf x) = r at hf h2 h3
   obtain ⟨rl, re⟩ := r
   simp only at hf h2 h3 ⊢
   subst h2
   have t9 : decide ((rl.length : Int) > room) = true := decide_eq_true (by omega)
   have t10 : decide (room < (rl.length : Int)) = true := decide_eq_true (by omega)
   have HF := Aside0.mk hf;clear hf h3 hk
   go_enter Tryz.func48, Tryz.ntmps48
   go_wp2_with (first | ((with_reducible refine xaU (N := 3) rfl ?_); refine xaT ?hg (N := 3) ?hd (cs := #[.int .i64 x.f0, .int .i64 x.f1, .int .i64 x.f2, .float .f64 x.f3, .float .f64 x.f4, .int .i64 x.f5, .int .i64 x.f6, .int .i64 x.f7, .int .i64 x.f8, .int .i64 x.f9, .int .i64 x.f10]) (t := 103) ?hr ?_; (case hd => rfl); (case hg => rfl); (case hr => first | (go_simp; done) | (go_simp; rfl)); intro gt hg w1 hbox hb; have BT := Aside0.mk hbox; replace HB := Aside0.mk (xaV HB.out hb); clear hb hbox hg; obtain ⟨⟨d0, d1, d2, d3, d4, d5, d6, d7, d8, d9, d10⟩, y_⟩ := blk11 BT; clear y_) | (go_at_call 72; (with_reducible refine (HF.out _).mono ?_); rintro e w5 ⟨A', c', rfl, hs, hb⟩; have HS := Aside0.mk hs.C; have HB2 := Aside0.mk (HB.out.trans (hb.mono HB.out.size)); clear hs hb))
   go_ret2
   exact ⟨A', c', rfl, HS.out, HB2.out⟩
 ·
  rw [xiA hk h2]
  generalize fixF (opOf x) = r at hf h2
  obtain ⟨rl, re⟩ := r
  simp only at hf h2 ⊢
  have t9 : (re == 0) = false := beq_eq_false_iff_ne.2 h2
  have HF := Aside0.mk hf;clear hf h2 hk
  go_enter Tryz.func48, Tryz.ntmps48
  go_wp2_with (first | ((with_reducible refine xaU (N := 3) rfl ?_); refine xaT ?hg (N := 3) ?hd (cs := #[.int .i64 x.f0, .int .i64 x.f1, .int .i64 x.f2, .float .f64 x.f3, .float .f64 x.f4, .int .i64 x.f5, .int .i64 x.f6, .int .i64 x.f7, .int .i64 x.f8, .int .i64 x.f9, .int .i64 x.f10]) (t := 103) ?hr ?_; (case hd => rfl); (case hg => rfl); (case hr => first | (go_simp; done) | (go_simp; rfl)); intro gt hg w1 hbox hb; have BT := Aside0.mk hbox; replace HB := Aside0.mk (xaV HB.out hb); clear hb hbox hg; obtain ⟨⟨d0, d1, d2, d3, d4, d5, d6, d7, d8, d9, d10⟩, y_⟩ := blk11 BT; clear y_) | (go_at_call 72; (with_reducible refine (HF.out _).mono ?_); rintro e w5 ⟨A', c', rfl, hs, hb⟩; have HS := Aside0.mk hs.C; have HB2 := Aside0.mk (HB.out.trans (hb.mono HB.out.size)); clear hs hb))
  go_ret2
  exact ⟨A', c', rfl, HS.out, HB2.out⟩
theorem meant_give (x : S103) (l : List S48) (room : Int) (A : Option Addr) (c : Nat) (w : World) (hk : x.f0 = 4) (hr : Kd.C k48 w A l.length l) (hl : l.length ≤ 4096) : Calls Tryz.prog 48 #[.agg #[.int .i64 x.f0, .int .i64 x.f1, .int .i64 x.f2, .float .f64 x.f3, .float .f64 x.f4, .int .i64 x.f5, .int .i64 x.f6, .int .i64 x.f7, .int .i64 x.f8, .int .i64 x.f9, .int .i64 x.f10], .slice A l.length c, .int .i64 room] w fun e w' => ∃ A' c', e = .returned (.tuple #[.slice A' (meantF x l room).1.length c', .int .i64 (meantF x l room).2]) ∧ Kd.C k48 w' A' (meantF x l room).1.length (meantF x l room).1 ∧ Below w.heap.size w w' := by
 have HB := Aside0.mk (Below.refl w.heap.size w)
 have t2 : (x.f0 == 2) = false := by rw [hk]; rfl
 have t3 : (x.f0 == 3) = false := by rw [hk]; rfl
 have t4 : (x.f0 == 4) = true := by rw [hk]; rfl
 rw [mean4 hk]
 have HR := Aside0.mk hr;have HL := Aside0.mk hl;clear hk hr hl
 go_enter Tryz.func48, Tryz.ntmps48
 go_wp2_with (first | ((with_reducible refine xaU (N := 3) rfl ?_); refine xaT ?hg (N := 3) ?hd (cs := #[.int .i64 x.f0, .int .i64 x.f1, .int .i64 x.f2, .float .f64 x.f3, .float .f64 x.f4, .int .i64 x.f5, .int .i64 x.f6, .int .i64 x.f7, .int .i64 x.f8, .int .i64 x.f9, .int .i64 x.f10]) (t := 103) ?hr ?_; (case hd => rfl); (case hg => rfl); (case hr => first | (go_simp; done) | (go_simp; rfl)); intro gt hg w1 hbox hb; have BT := Aside0.mk hbox; replace HB := Aside0.mk (xaV HB.out hb); clear hb hbox hg; obtain ⟨⟨d0, d1, d2, d3, d4, d5, d6, d7, d8, d9, d10⟩, y_⟩ := blk11 BT; clear y_) | (go_at_call 73; (with_reducible refine (flowGive _ _ _ _ (Kd.xbP HR.out HB.out) HL.out).mono ?_); rintro e w5 ⟨v, rfl, hq, hb⟩; obtain ⟨A', c', rfl, hs⟩ := Sl.of_R hq; have HS := Aside0.mk hs.C; have HB2 := Aside0.mk (HB.out.trans (hb.mono HB.out.size)); clear hs hb hq))
 go_ret2
 exact ⟨A', c', by simp only [List.length_map]; rfl, HS.out, HB2.out⟩
theorem meant_win (x : S103) (l : List S48) (room : Int) (A : Option Addr) (c : Nat) (w : World) (hk : x.f0 = 7) (hr : Kd.C k48 w A l.length l) (hl : l.length ≤ 4096) : Calls Tryz.prog 48 #[.agg #[.int .i64 x.f0, .int .i64 x.f1, .int .i64 x.f2, .float .f64 x.f3, .float .f64 x.f4, .int .i64 x.f5, .int .i64 x.f6, .int .i64 x.f7, .int .i64 x.f8, .int .i64 x.f9, .int .i64 x.f10], .slice A l.length c, .int .i64 room] w fun e w' => ∃ A' c', e = .returned (.tuple #[.slice A' (meantF x l room).1.length c', .int .i64 (meantF x l room).2]) ∧ Kd.C k48 w' A' (meantF x l room).1.length (meantF x l room).1 ∧ Below w.heap.size w w' := by
 have HB := Aside0.mk (Below.refl w.heap.size w)
 have t2 : (x.f0 == 2) = false := by rw [hk]; rfl
 have t3 : (x.f0 == 3) = false := by rw [hk]; rfl
 have t4 : (x.f0 == 4) = false := by rw [hk]; rfl
 have t6 : (x.f0 == 6) = false := by rw [hk]; rfl
 have t7 : (x.f0 == 7) = true := by rw [hk]; rfl
 rw [mean7 hk]
 have HR := Aside0.mk hr;have HL := Aside0.mk hl;clear hk hr hl
 go_enter Tryz.func48, Tryz.ntmps48
 go_wp2_with (first | ((with_reducible refine xaU (N := 3) rfl ?_); refine xaT ?hg (N := 3) ?hd (cs := #[.int .i64 x.f0, .int .i64 x.f1, .int .i64 x.f2, .float .f64 x.f3, .float .f64 x.f4, .int .i64 x.f5, .int .i64 x.f6, .int .i64 x.f7, .int .i64 x.f8, .int .i64 x.f9, .int .i64 x.f10]) (t := 103) ?hr ?_; (case hd => rfl); (case hg => rfl); (case hr => first | (go_simp; done) | (go_simp; rfl)); intro gt hg w1 hbox hb; have BT := Aside0.mk hbox; replace HB := Aside0.mk (xaV HB.out hb); clear hb hbox hg; obtain ⟨⟨d0, d1, d2, d3, d4, d5, d6, d7, d8, d9, d10⟩, y_⟩ := blk11 BT; clear y_) | (go_at_call 75; (with_reducible refine (flowWindow _ _ _ _ _ _ (Kd.xbP HR.out HB.out) HL.out).mono ?_); rintro e w5 ⟨A', c', rfl, hs, hb⟩; have HS := Aside0.mk hs; have HB2 := Aside0.mk (HB.out.trans (hb.mono HB.out.size)); clear hs hb))
 go_ret2
 exact ⟨A', c', rfl, HS.out, HB2.out⟩
theorem meant_scale (x : S103) (l : List S48) (room : Int) (A : Option Addr) (c : Nat) (w : World) (hk : x.f0 = 6) (hr : Kd.C k48 w A l.length l) (hl : l.length ≤ 4096) (hx : numB x.f3 = true) (hn : ∀ f ∈ l, numB f.f1 = true) : Calls Tryz.prog 48 #[.agg #[.int .i64 x.f0, .int .i64 x.f1, .int .i64 x.f2, .float .f64 x.f3, .float .f64 x.f4, .int .i64 x.f5, .int .i64 x.f6, .int .i64 x.f7, .int .i64 x.f8, .int .i64 x.f9, .int .i64 x.f10], .slice A l.length c, .int .i64 room] w fun e w' => ∃ A' c', e = .returned (.tuple #[.slice A' (meantF x l room).1.length c', .int .i64 (meantF x l room).2]) ∧ Kd.C k48 w' A' (meantF x l room).1.length (meantF x l room).1 ∧ Below w.heap.size w w' := by
 have HB := Aside0.mk (Below.refl w.heap.size w)
 have t2 : (x.f0 == 2) = false := by rw [hk]; rfl
 have t3 : (x.f0 == 3) = false := by rw [hk]; rfl
 have t4 : (x.f0 == 4) = false := by rw [hk]; rfl
 have t6 : (x.f0 == 6) = true := by rw [hk]; rfl
 rw [mean6 hk]
 have HR := Aside0.mk hr;have HL := Aside0.mk hl;have HX := Aside0.mk hx;have HN := Aside0.mk hn;clear hk hr hl hx hn
 by_cases ha : l.all (fun f => numB (mulN x.f3 f.f1)) = true
 ·
  rw [if_pos ha]
  have HA := Aside0.mk (List.all_eq_true.1 ha)
  clear ha
  go_enter Tryz.func48, Tryz.ntmps48
  go_wp2_with (first | ((with_reducible refine xaU (N := 3) rfl ?_); refine xaT ?hg (N := 3) ?hd (cs := #[.int .i64 x.f0, .int .i64 x.f1, .int .i64 x.f2, .float .f64 x.f3, .float .f64 x.f4, .int .i64 x.f5, .int .i64 x.f6, .int .i64 x.f7, .int .i64 x.f8, .int .i64 x.f9, .int .i64 x.f10]) (t := 103) ?hr ?_; (case hd => rfl); (case hg => rfl); (case hr => first | (go_simp; done) | (go_simp; rfl)); intro gt hg w1 hbox hb; have BT := Aside0.mk hbox; replace HB := Aside0.mk (xaV HB.out hb); clear hb hbox hg; obtain ⟨⟨d0, d1, d2, d3, d4, d5, d6, d7, d8, d9, d10⟩, y_⟩ := blk11 BT; clear y_) | (go_at_call 74; (with_reducible refine (xhE _ _ _ _ _ (Kd.xbP HR.out HB.out) HL.out HX.out HN.out HA.out).mono ?_); rintro e w5 ⟨v, rfl, hq, hb⟩; obtain ⟨A', c', rfl, hs⟩ := Sl.of_R hq; have HS := Aside0.mk hs.C; have HB2 := Aside0.mk (HB.out.trans (hb.mono HB.out.size)); clear hs hb hq))
  go_ret2
  exact ⟨A', c', by simp only [List.length_map]; rfl, HS.out, HB2.out⟩
 ·
  rw [if_neg ha]
  have HA : Aside0 (∃ f ∈ l, numB (mulN x.f3 f.f1) = false) := ⟨by
   have h1 := Bool.eq_false_iff.2 ha
   rw [List.all_eq_false] at h1
   obtain ⟨f, hf, h2⟩ := h1
   exact ⟨f, hf, Bool.eq_false_iff.2 h2⟩⟩
  clear ha
  go_enter Tryz.func48, Tryz.ntmps48
  go_wp2_with (first | ((with_reducible refine xaU (N := 3) rfl ?_); refine xaT ?hg (N := 3) ?hd (cs := #[.int .i64 x.f0, .int .i64 x.f1, .int .i64 x.f2, .float .f64 x.f3, .float .f64 x.f4, .int .i64 x.f5, .int .i64 x.f6, .int .i64 x.f7, .int .i64 x.f8, .int .i64 x.f9, .int .i64 x.f10]) (t := 103) ?hr ?_; (case hd => rfl); (case hg => rfl); (case hr => first | (go_simp; done) | (go_simp; rfl)); intro gt hg w1 hbox hb; have BT := Aside0.mk hbox; replace HB := Aside0.mk (xaV HB.out hb); clear hb hbox hg; obtain ⟨⟨d0, d1, d2, d3, d4, d5, d6, d7, d8, d9, d10⟩, y_⟩ := blk11 BT; clear y_) | (go_at_call 74; (with_reducible refine (xgD _ _ _ _ _ (Kd.xbP HR.out HB.out) HL.out HX.out HN.out HA.out).mono ?_); rintro e w5 ⟨rfl, hb⟩; have HB2 := Aside0.mk (HB.out.trans (hb.mono HB.out.size)); clear hb))
  go_ret2
  exact ⟨none, 0, rfl, Kd.C_nil _ _, HB2.out⟩
theorem meant_rep (x : S103) (l : List S48) (room : Int) (A : Option Addr) (c : Nat) (w : World) (hk : x.f0 = 8) (hr : Kd.C k48 w A l.length l) (hl : l.length ≤ 4096) (hn : 1 ≤ x.f9 ∧ x.f9 ≤ 4096) (hm : 1 ≤ x.f10 ∧ x.f10 ≤ 1200) (hroom : 0 ≤ room ∧ room ≤ 4096) : Calls Tryz.prog 48 #[.agg #[.int .i64 x.f0, .int .i64 x.f1, .int .i64 x.f2, .float .f64 x.f3, .float .f64 x.f4, .int .i64 x.f5, .int .i64 x.f6, .int .i64 x.f7, .int .i64 x.f8, .int .i64 x.f9, .int .i64 x.f10], .slice A l.length c, .int .i64 room] w fun e w' => ∃ A' c', e = .returned (.tuple #[.slice A' (meantF x l room).1.length c', .int .i64 (meantF x l room).2]) ∧ Kd.C k48 w' A' (meantF x l room).1.length (meantF x l room).1 ∧ Below w.heap.size w w' := by
 have HB := Aside0.mk (Below.refl w.heap.size w)
 have t2 : (x.f0 == 2) = false := by rw [hk]; rfl
 have t3 : (x.f0 == 3) = false := by rw [hk]; rfl
 have t4 : (x.f0 == 4) = false := by rw [hk]; rfl
 have t6 : (x.f0 == 6) = false := by rw [hk]; rfl
 have t7 : (x.f0 == 7) = false := by rw [hk]; rfl
 have t8 : (x.f0 == 8) = true := by rw [hk]; rfl
 rw [mean8 hk]
 have hc : ∀ w1, Below w.heap.size w w1 → Calls Tryz.prog 76 #[.slice A l.length c, .int .i64 x.f9, .int .i64 x.f10, .int .i64 room] w1 fun e w' => ∃ A' c', e = .returned (.tuple #[.slice A' (repF x.f10 room l (pairs l 1 x.f9.toNat)).1.length c', .int .i64 (repF x.f10 room l (pairs l 1 x.f9.toNat)).2]) ∧ Sl k48 48 w' w1.heap.size (fun _ => True) A' c' (repF x.f10 room l (pairs l 1 x.f9.toNat)).1 ∧ Below w1.heap.size w1 w' := fun w1 hb => by
  have h1 := repeated_c l x.f9.toNat x.f10 room A c w1 (Kd.xbP hr hb) hl (by omega) (by omega) hroom
  rw [show ((x.f9.toNat : Nat) : Int) = x.f9 by omega] at h1
  exact h1
 have HC := Aside0.mk hc;clear hk hr hl hn hm hroom hc
 generalize repF x.f10 room l (pairs l 1 x.f9.toNat) = r at HC ⊢
 go_enter Tryz.func48, Tryz.ntmps48
 go_wp2_with (first | ((with_reducible refine xaU (N := 3) rfl ?_); refine xaT ?hg (N := 3) ?hd (cs := #[.int .i64 x.f0, .int .i64 x.f1, .int .i64 x.f2, .float .f64 x.f3, .float .f64 x.f4, .int .i64 x.f5, .int .i64 x.f6, .int .i64 x.f7, .int .i64 x.f8, .int .i64 x.f9, .int .i64 x.f10]) (t := 103) ?hr ?_; (case hd => rfl); (case hg => rfl); (case hr => first | (go_simp; done) | (go_simp; rfl)); intro gt hg w1 hbox hb; have BT := Aside0.mk hbox; replace HB := Aside0.mk (xaV HB.out hb); clear hb hbox hg; obtain ⟨⟨d0, d1, d2, d3, d4, d5, d6, d7, d8, d9, d10⟩, y_⟩ := blk11 BT; clear y_) | (go_at_call 76; (with_reducible refine (HC.out _ HB.out).mono ?_); rintro e w5 ⟨A', c', rfl, hs, hb⟩; have HS := Aside0.mk hs.C; have HB2 := Aside0.mk (HB.out.trans (hb.mono HB.out.size)); clear hs hb))
 go_ret2
 exact ⟨A', c', rfl, HS.out, HB2.out⟩
theorem meant_c (x : S103) (l : List S48) (room : Int) (A : Option Addr) (c : Nat) (w : World) (hg : GoodT x) (hz : partsP x.f0 = 0 → x.f1 = 0 ∧ x.f2 = 0) (hr : Kd.C k48 w A l.length l) (hl : l.length ≤ 4096) (hw : OkW l) (hroom : 0 ≤ room ∧ room ≤ 4096) : Calls Tryz.prog 48 #[.agg #[.int .i64 x.f0, .int .i64 x.f1, .int .i64 x.f2, .float .f64 x.f3, .float .f64 x.f4, .int .i64 x.f5, .int .i64 x.f6, .int .i64 x.f7, .int .i64 x.f8, .int .i64 x.f9, .int .i64 x.f10], .slice A l.length c, .int .i64 room] w fun e w' => ∃ A' c', e = .returned (.tuple #[.slice A' (meantF x l room).1.length c', .int .i64 (meantF x l room).2]) ∧ Kd.C k48 w' A' (meantF x l room).1.length (meantF x l room).1 ∧ Below w.heap.size w w' := by
 have hk := kind_of hg.f
 have hc : x.f0 = 1 ∨ x.f0 = 2 ∨ x.f0 = 3 ∨ x.f0 = 4 ∨ x.f0 = 5 ∨ x.f0 = 6 ∨ x.f0 = 7 ∨ x.f0 = 8 := by omega
 rcases hc with h | h | h | h | h | h | h | h
 ·
  exact meant_id1 x l room A c w h hr
 ·
  exact meant_pay x l room A c w h
 ·
  exact meant_fix x l room A c w h (fixed_x x hg.f h (hz (by rw [h]; rfl)))
 ·
  exact meant_give x l room A c w h hr hl
 ·
  exact meant_id5 x l room A c w h hr
 ·
  exact meant_scale x l room A c w h hr hl (num3 hg (Or.inr h)) (fun f hf => (hw f hf).1)
 ·
  exact meant_win x l room A c w h hr hl
 ·
  have h1 := (xeH hg.f).1
  unfold okT at h1
  rw [if_neg (by omega), if_neg (by omega), if_neg (by omega), if_neg (by omega), if_pos h, Bool.and_eq_true, xiC, xiC] at h1
  exact meant_rep x l room A c w h hr hl h1.1 h1.2 hroom
end Go.Proofs.YtkabcgmegljebaaGreatDoor.H
