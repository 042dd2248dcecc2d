/- Contracts and facts of functions of the program, joined in one text. -/
import Derived.Test.YtkabcgmegljebaaGreatDoorDGA
import Derived.ArgAppend
set_option maxHeartbeats 8000000
set_option maxRecDepth 100000
set_option linter.unusedVariables false
set_option linter.unusedSimpArgs false
namespace Go.Proofs.YtkabcgmegljebaaGreatDoor.H
open Go.RowKit Go.Proofs.YtkabcgmegljebaaGreatDoorW.PrintWords Go.Proofs.YtkabcgmegljebaaGreatDoorW.PrintLast Go.Proofs.YtkabcgmegljebaaGreatDoorW.PrintMore
open Go.Proofs.YtkabcgmegljebaaGreatDoor.Q
theorem xgD (y : Nat) (A : Option Addr) (c : Nat) (l : List S48) (w : World) (hr : Kd.C k48 w A l.length l) (hl : l.length ≤ 4096) (hy : numB y = true) (hn : ∀ f ∈ l, numB f.f1 = true) (hbad : ∃ f ∈ l, numB (mulN y f.f1) = false) :
  Calls Tryz.prog 74 #[.float .f64 y, .slice A l.length c] w fun e w' => e = .returned (.tuple #[.slice none 0 0, .int .i64 91]) ∧ Below w.heap.size w w' := by
 have HR := Aside0.mk hr;have HL := Aside0.mk hl;have HY := Aside0.mk hy
 have HB := Aside0.mk (Below.refl w.heap.size w)
 have HOK : Aside0 (∀ i (h : i < l.length), floatBits .mul .f64 y l[i].f1 = some (mulN y l[i].f1)) := ⟨fun i h => xfQ hy (hn _ (List.getElem_mem h))⟩
 have HBAD : Aside0 (∃ i, ∃ h : i < l.length, numB (mulN y l[i].f1) = false) := ⟨by obtain ⟨f, hf, hb⟩ := hbad; obtain ⟨i, hi, rfl⟩ := List.getElem_of_mem hf; exact ⟨i, hi, hb⟩⟩
 clear hr hl hy hn hbad
 go_enter Tryz.func74, Tryz.ntmps74
 go_wp2_with (first | (go_at_call 97; (with_reducible refine (xfL y true HY.out _).mono ?_); rintro e w' ⟨rfl, hw_⟩; obtain rfl := hw_.symm) | ((with_reducible refine xaU (N := 14) rfl ?_); refine Kd.xfN k48 _ 48 rfl (N := 14) rfl 24 _ _ rfl (l.length : Int) rfl rfl Tryz.underlying24 (.agg #[.int .i64 0, .float .f64 0, .int .i64 0]) 24 info48 rfl (by decide) (by omega) z48 (ok := fun _ => True) (okp := fun _ => True) (xeZ _ _ _ z48) (fun _ hk => hk) trivial (by omega) (by have := HL.out; omega) (Below.refl _ _) (Nat.le_refl _) ?_; intro v0 w1 ho hb hg_ hnew_; clear hg_ hnew_; have HO := Aside0.mk ho; replace HB := Aside0.mk hb; clear ho hb))
 go_loopg [6, 17] (l.length) (fun kq v3 v11 w' => ∃ i : Nat, i ≤ l.length ∧ kq + i = l.length ∧ v11 = .int .i64 i ∧ Aside0 (∀ j (h : j < l.length), j < i → numB (mulN y l[j].f1) = true) ∧ Aside0 (Kd.R k48 48 w' w.heap.size (fun _ => True) v3 ((l.take i).map (scF y))) ∧ Aside0 (Below w.heap.size w w'))
 case atStart => exact ⟨0, by omega, by omega, rfl, ⟨fun j h h' => by omega⟩, ⟨by repeat (first | exact HO.out | apply Kd.xbK | apply Kd.R_drew)⟩, ⟨by repeat (first | exact HB.out | apply xaJ | apply xaM)⟩⟩
 case round =>
  obtain ⟨i, hi, hk, rfl, HSO, HO, HB⟩ := hrel
  by_cases hlt : i < l.length
  ·
   obtain ⟨ad, e, h0, h1, h2⟩ := at_T48 (Kd.xbP HR.out HB.out) (i : Int) (by omega) (by omega)
   subst e
   rw [rd48 hlt] at h0 h1 h2
   rw [Int.toNat_natCast] at h0 h1 h2
   have HT := Aside0.mk (xeG (scF y) l i hlt)
   have hok := HOK.out i hlt
   obtain ⟨x, hx⟩ : ∃ x, x = l[i] := ⟨_, rfl⟩
   have HXX := Aside0.mk hx
   rw [← hx] at h0 h1 h2 hok
   clear hx
   have hmx : (i : Int) + 1 ≤ 9223372036854775807 := by have := HL.out; omega
   have hmul : ∀ t w, (binOp .mul t (.float .f64 y) (.float .f64 x.f1)).run Tryz.prog w = .ok (.float .f64 (mulN y x.f1)) w := fun t w => run_float_arith w .mul t .f64 y x.f1 (mulN y x.f1) hok
   clear hok
   by_cases hnm : numB (mulN y x.f1) = true
   ·
    have HNM := Aside0.mk hnm;clear hnm
    go_wp2_with (first | (go_at_call 97; (with_reducible refine (xfL (mulN y x.f1) true HNM.out _).mono ?_); rintro e w' ⟨rfl, hw_⟩; obtain rfl := hw_.symm) | ((with_reducible refine xaR (b := .append) (xs := #[.tmp 30, .tmp 32]) rfl ?_); at_builtin; refine Kd.xbZ k48 (w0 := w) w.heap.size rfl (.tmp 30) (.tmp 32) 24 48 (.agg #[.int .i64 0, .float .f64 0, .int .i64 0]) 24 rfl Tryz.underlying24 info48 rfl (by decide) (by omega) u6 ((l.take i).map (scF y)) (scF y x) [.int .i64 x.f0, .float .f64 (mulN y x.f1), .int .i64 x.f2] (fun _ => True) (fun _ => False) rfl ?aX (xeZ _ _ _ (scF y x)) (fun _ hk => hk.elim) (fun _ _ => trivial) (Kd.xbJ HO.out _) (xaC HB.out _) (xbG (xaC HB.out _)) ?aL ?_; (case aX => show Value.slice (some ⟨wr.heap.size + 1, 0, none⟩) 1 1 = _; simp); (case aL => have := HL.out; simp only [List.length_map, List.length_take]; omega); intro v1 w2 ho hb hg hat; rw [HXX.out, ← HT.out] at ho; replace HO := Aside0.mk ho; replace HB := Aside0.mk hb; clear ho hb hg hat))
    go_roundg (gk - 1)
    case measure => omega
    case rel => exact ⟨i + 1, by omega, by omega, by go_num, ⟨fun j h h' => by
     rcases Nat.lt_or_ge j i with h1 | h1
     ·
      exact HSO.out j h h1
     ·
      obtain rfl : j = i := by omega
      rw [← HXX.out]; exact HNM.out⟩, HO, HB⟩
   ·
    have HNM := Aside0.mk (Bool.eq_false_iff.2 hnm)
    clear hnm
    go_wp2_with ((go_at_call 97; (with_reducible refine (xfL (mulN y x.f1) false HNM.out _).mono ?_); rintro e w' ⟨rfl, hw_⟩; obtain rfl := hw_.symm))
    go_ret2
    exact ⟨rfl, by repeat (first | exact HB.out | apply xaJ | apply xaM | apply xaC)⟩
  ·
   exfalso
   obtain ⟨j, h, hb⟩ := HBAD.out
   have := HSO.out j h (by omega)
   rw [hb] at this; cases this
structure Fr (F : Nat → Prop) (w w' : World) : Prop where
 os : w'.os = w.os
 tape : w'.tape = w.tape
 output : w'.output = w.output
 size : w.heap.size ≤ w'.heap.size
 block : ∀ k, k < w.heap.size → ¬ F k → w'.heap[k]? = w.heap[k]?
def Gr (F : Nat → Prop) (n m : Nat) : Nat → Prop := fun k => F k ∨ (n ≤ k ∧ k < m)
section
variable {F : Nat → Prop} {w W w1 : World}
theorem Fr.refl (F : Nat → Prop) (w : World) : Fr F w w := ⟨rfl, rfl, rfl, Nat.le_refl _, fun _ _ _ => rfl⟩
theorem Fr.below (h : Fr F w W) (hb : Below W.heap.size W w1) : Fr F w w1 := ⟨hb.os.trans h.os, hb.tape.trans h.tape, hb.output.trans h.output, Nat.le_trans h.size hb.size, fun k hk hF => (hb.block k (Nat.lt_of_lt_of_le hk h.size)).trans (h.block k hk hF)⟩
theorem Fr.alloc (h : Fr F w W) (o : Obj) : Fr F w (W.alloc o) := h.below (xaC (Below.refl _ _) o)
theorem Fr.drewN (h : Fr F w W) (n : Nat) : Fr F w (W.drewN n) := h.below (xaJ (Below.refl _ _) n)
theorem Fr.drew (h : Fr F w W) : Fr F w W.drew := h.below (xaM (Below.refl _ _))
theorem Fr.grown (h : Fr F w W) {row : Option Nat} (hg : W.grownBy w1 row) (hr : ∀ k, row = some k → F k ∨ w.heap.size ≤ k) : Fr F w w1 :=
  ⟨hg.os.trans h.os, hg.tape.trans h.tape, hg.output.trans h.output, Nat.le_trans h.size hg.size, fun k hk hF => (hg.block k (Nat.lt_of_lt_of_le hk h.size) (fun e => by rcases hr k e.symm with h1 | h1; exact hF h1; omega)).trans (h.block k hk hF)⟩
theorem Fr.set (h : Fr F w W) {p : Addr} (u : Value) (hp : F p.block ∨ w.heap.size ≤ p.block) : Fr F w (W.setCell p u) := by
 refine ⟨h.os, h.tape, h.output, ?_, fun k hk hF => ?_⟩
 ·
  have : (W.setCell p u).heap.size = W.heap.size := by simp
  rw [this]; exact h.size
 ·
  rw [Below.heap_setCell W p u k (fun e => by subst e; rcases hp with h1 | h1; exact hF h1; omega)]
  exact h.block k hk hF
theorem Fr.setCells {b : Nat} (hb : F b ∨ w.heap.size ≤ b) : ∀ (vs : List Value) (o : Nat) {W : World}, Fr F w W → Fr F w (W.setCells b o vs)
  | [], _, _, h => h
  | v :: r, o, W, h => Fr.setCells hb r (o + 1) (h.set (p := ⟨b, o, none⟩) v hb)
theorem Fr.mono {G : Nat → Prop} (h : Fr F w W) (hG : ∀ k, k < w.heap.size → F k → G k) : Fr G w W := ⟨h.os, h.tape, h.output, h.size, fun k hk hn => h.block k hk (fun hF => hn (hG k hk hF))⟩
theorem Fr.trans (h : Fr F w W) (h1 : Fr (Gr F w.heap.size W.heap.size) W w1) : Fr F w w1 :=
  ⟨h1.os.trans h.os, h1.tape.trans h.tape, h1.output.trans h.output, Nat.le_trans h.size h1.size, fun k hk hF => (h1.block k (Nat.lt_of_lt_of_le hk h.size) (fun hG => by rcases hG with h2 | h2; exact hF h2; omega)).trans (h.block k hk hF)⟩
theorem Fr.step (h : Fr F w W) (h1 : Fr F W w1) : Fr F w w1 := h.trans (h1.mono (fun k _ hk => Or.inl hk))
theorem Fr.xcW {base : Nat} (h : Fr F w W) (hb : base ≤ w.heap.size) (hF : ∀ k, F k → base ≤ k) : Below base w W :=
  ⟨h.os, h.tape, h.output, h.size, fun k hk => h.block k (by omega) (fun hk2 => by have := hF k hk2; omega)⟩
theorem Fr.blk {g : Nat} {o : Obj} (h : Fr F w W) (hr : w.heap[g]? = some o) (hF : ¬ F g) : W.heap[g]? = some o := (h.block g (blk_lt hr) hF).trans hr
theorem Gr.sub {n n' m : Nat} (h : n ≤ n') : ∀ k, Gr F n' m k → Gr F n m k := fun k hk => hk.imp_right (fun h1 => ⟨Nat.le_trans h h1.1, h1.2⟩)
end
def own (A : Option Addr) : Nat → Prop := fun k => ∃ a, A = some a ∧ a.block = k
class Flat {α : Type} (d : Kd α) : Prop where
  K : ∀ {w w' : World} {x : α} {cs : List Value}, d.K w x cs → d.K w' x cs
instance : Flat k48 := ⟨fun {w w' x cs} h => by rw [k48_open h]; exact k48_mk w' x⟩
instance : Flat k37 := ⟨fun {w w' x cs} h => by rw [k37_open h]; exact k37_mk w' x⟩
instance : Flat k103 := ⟨fun {w w' x cs} h => by rw [k103_open h]; exact xgV w' x⟩
instance (k : IntKind) : Flat (Kd.int k) := ⟨fun h => h⟩
structure Sl {α : Type} (d : Kd α) (e : TypeId) (w : World) (base : Nat) (F : Nat → Prop) (A : Option Addr) (c : Nat) (xs : List α) : Prop where
 le : xs.length ≤ c
 lim : xs.length ≤ 9223372036854775807
 row : (A = none ∧ c = 0) ∨ ∃ b off cur inner, A = some ⟨b, off, none⟩ ∧ F b ∧ base ≤ b ∧ w.heap[b]? = some (.cells cur e (0, 0)) ∧ off + c * d.sz ≤ cur.size ∧ Reps (d.K w) d.sz xs inner ∧ (cur.toList.drop off).take (xs.length * d.sz) = inner
section
variable {α : Type} {d : Kd α} {e : TypeId} {w w1 : World} {base : Nat} {F G : Nat → Prop} {A : Option Addr} {c : Nat} {xs : List α}
theorem Sl.nil (d : Kd α) (e : TypeId) (w : World) (base : Nat) (F : Nat → Prop) : Sl d e w base F none 0 [] := ⟨Nat.le_refl _, Nat.zero_le _, Or.inl ⟨rfl, rfl⟩⟩
theorem Sl.mono (h : Sl d e w base F A c xs) (hG : ∀ k, F k → k < w.heap.size → G k) : Sl d e w base G A c xs :=
  ⟨h.le, h.lim, h.row.imp_right (fun ⟨b, off, cur, inner, h1, h2, h3, h4, h5⟩ => ⟨b, off, cur, inner, h1, hG b h2 (blk_lt h4), h3, h4, h5⟩)⟩
theorem Sl.frame [Flat d] (h : Sl d e w base F A c xs) (hm : ∀ k, F k → k < w.heap.size → w1.heap[k]? = w.heap[k]?) : Sl d e w1 base F A c xs :=
  ⟨h.le, h.lim, h.row.imp_right (fun ⟨b, off, cur, inner, h1, h2, h3, h4, h5, h6, h7⟩ => ⟨b, off, cur, inner, h1, h2, h3, (hm b h2 (blk_lt h4)).trans h4, h5, h6.imp_ (fun _ _ hp => Flat.K hp), h7⟩)⟩
theorem Sl.below [Flat d] (h : Sl d e w base F A c xs) (hb : Below w.heap.size w w1) : Sl d e w1 base F A c xs := h.frame (fun k _ hk => hb.block k hk)
theorem Sl.fr [Flat d] (h : Sl d e w base F A c xs) (hf : Fr G w w1) (hd : ∀ k, F k → ¬ G k) : Sl d e w1 base F A c xs := h.frame (fun k h1 hk => hf.block k hk (hd k h1))
theorem Sl.set [Flat d] (h : Sl d e w base F A c xs) {g t : Nat} {cells : Array Value} (hb : w.heap[g]? = some (.cells cells t (0, 0))) (ht : e ≠ t) (j : Nat) (u : Value) : Sl d e (w.setCell ⟨g, j, none⟩ u) base F A c xs :=
  ⟨h.le, h.lim, h.row.imp_right (fun ⟨b, off, cur, inner, h1, h2, h3, h4, h5, h6, h7⟩ => ⟨b, off, cur, inner, h1, h2, h3, (Below.heap_setCell w ⟨g, j, none⟩ u b (fun e1 => by
    subst e1; rw [h4] at hb; injection hb with hb; injection hb with _ hb; exact ht hb)).trans h4, h5, h6.imp_ (fun _ _ hp => Flat.K hp), h7⟩)⟩
theorem Sl.cell (h : Sl d e w base F A c xs) {b off : Nat} {cur : Array Value} (hb : w.heap[b]? = some (.cells cur e (0, 0))) (j : Nat) : w.cell? ⟨b, off + j, none⟩ = (cur.toList.drop off)[j]? := by
  rw [xaA hb, List.getElem?_drop, Array.getElem?_toList]
theorem Sl.C (h : Sl d e w base F A c xs) : Kd.C d w A xs.length xs := by
 refine ⟨rfl, h.lim, fun hn => ?_⟩
 rcases h.row with ⟨rfl, rfl⟩ | ⟨b, off, cur, inner, rfl, h2, h3, h4, h5, h6, h7⟩
 ·
  have := h.le; omega
 ·
  refine ⟨_, rfl, fun j p hp => ⟨(inner.drop (j * d.sz)).take d.sz, d.K_len (h6.2 j p hp), h6.2 j p hp, fun i u hu => ?_⟩⟩
  rw [List.getElem?_take] at hu
  split at hu
  ·
   rename_i hi
   rw [List.getElem?_drop, ← h7, List.getElem?_take] at hu
   split at hu
   ·
    rw [Addr.add_lit, h.cell h4]; exact hu
   ·
    cases hu
  ·
   cases hu
theorem Sl.of_own {base' n : Nat} {v : Value} {inner : List Value} (h : w.ownsRow base' e d.sz v n inner) (hr : Reps (d.K w) d.sz xs inner) (hn : xs.length = n) (hF : ∀ k, base' ≤ k → k < w.heap.size → F k) (hb : base ≤ base') : ∃ A c, v = .slice A n c ∧ Sl d e w base F A c xs ∧ (∀ a, A = some a → base' ≤ a.block) := by
 subst hn
 rcases h.2 with ⟨rfl, h0⟩ | ⟨g, cap, cur, rfl, h1, h2, h3, h4, h5, h6⟩
 ·
  exact ⟨none, 0, by rw [h0], ⟨by omega, by omega, Or.inl ⟨rfl, rfl⟩⟩, fun a ha => by cases ha⟩
 ·
  exact ⟨_, cap, rfl, ⟨h3, by simp only [maxLen] at h4; omega, Or.inr ⟨g, 0, cur, inner, rfl, hF g h1 (blk_lt h2), by omega, h2, by omega, hr, by rw [List.drop_zero]; exact h6⟩⟩, fun a ha => by injection ha with ha; subst ha; exact h1⟩
theorem Sl.of_R [Flat d] {ok : Nat → Prop} {v : Value} (h : Kd.R d e w base ok v xs) : ∃ A c, v = .slice A xs.length c ∧ Sl d e w base ok A c xs := by
 obtain ⟨h0, inner, ho, hr⟩ := h
 have hr' : Reps (d.K w) d.sz xs inner := hr.imp_ (fun _ _ hp => d.K_of_M hp)
 rcases ho.2 with ⟨rfl, hz⟩ | ⟨g, cap, cur, rfl, h1, h2, h3, h4, h5, h6⟩
 ·
  exact ⟨none, 0, by rw [hz], by omega, by omega, Or.inl ⟨rfl, rfl⟩⟩
 ·
  exact ⟨_, cap, rfl, h3, by simp only [maxLen] at h4; omega, Or.inr ⟨g, 0, cur, inner, rfl, h0 g rfl, h1, h2, by omega, hr', by rw [List.drop_zero]; exact h6⟩⟩
theorem xhR {R : α → List Value → Prop} {sz : Nat} {ps : List α} {cs : List Value} (h : Reps R sz ps cs) (m : Nat) (hm : m ≤ ps.length) : Reps R sz (ps.take m) (cs.take (m * sz)) := by
 refine ⟨?_, fun j p hj => ?_⟩
 ·
  rw [List.length_take, List.length_take, h.1, Nat.min_eq_left hm, Nat.min_eq_left (Nat.mul_le_mul_right _ hm)]
 ·
  rw [List.getElem?_take] at hj
  split at hj
  ·
   rename_i hlt
   have h1 := h.2 j p hj
   have h2 : j * sz + sz ≤ m * sz := by
    have := Nat.mul_le_mul_right sz (show j + 1 ≤ m by omega)
    rwa [Nat.add_mul, Nat.one_mul] at this
   rw [List.drop_take, List.take_take, Nat.min_eq_left (by omega)]
   exact h1
  ·
   cases hj
theorem Sl.head (h : Sl d e w base F A c xs) (m c' : Nat) (hm : m ≤ xs.length) (hc : m ≤ c') (hc' : c' ≤ c) : Sl d e w base F A c' (xs.take m) := by
 have hl : (xs.take m).length = m := by rw [List.length_take]; omega
 refine ⟨by omega, by have := h.lim; omega, ?_⟩
 rcases h.row with ⟨rfl, rfl⟩ | ⟨b, off, cur, inner, rfl, h2, h3, h4, h5, h6, h7⟩
 ·
  exact Or.inl ⟨rfl, by omega⟩
 ·
  refine Or.inr ⟨b, off, cur, inner.take (m * d.sz), rfl, h2, h3, h4, ?_, xhR h6 m hm, ?_⟩
  ·
   have := Nat.mul_le_mul_right d.sz hc'; omega
  ·
   rw [hl, ← h7, List.take_take, Nat.min_eq_left (Nat.mul_le_mul_right _ hm)]
theorem xeX {R : α → List Value → Prop} {sz : Nat} {ps qs : List α} {cs ds : List Value} (h : Reps R sz ps cs) (h' : Reps R sz qs ds) : Reps R sz (ps ++ qs) (cs ++ ds) := by
 refine ⟨by rw [List.length_append, List.length_append, h.1, h'.1, Nat.add_mul], fun j p hj => ?_⟩
 by_cases hlt : j < ps.length
 ·
  rw [List.getElem?_append_left hlt] at hj
  have h1 := h.2 j p hj
  have h2 : j * sz + sz ≤ cs.length := by
   have := Nat.mul_le_mul_right sz (show j + 1 ≤ ps.length by omega)
   rw [Nat.add_mul, Nat.one_mul] at this
   rw [h.1]; exact this
  rw [List.drop_append_of_le_length (by omega), List.take_append_of_le_length (by rw [List.length_drop]; omega)]
  exact h1
 ·
  rw [List.getElem?_append_right (by omega)] at hj
  have h1 := h'.2 (j - ps.length) p hj
  have h2 : j * sz = cs.length + (j - ps.length) * sz := by
   rw [h.1, ← Nat.add_mul]; congr 1; omega
  rw [h2, List.drop_append, List.drop_of_length_le (by omega), List.nil_append, Nat.add_sub_cancel_left]
  exact h1
def putR : Array Value → Nat → List Value → Array Value
  | cs, _, [] => cs
  | cs, o, v :: r => putR (cs.setIfInBounds o v) (o + 1) r
theorem xhU : ∀ (vs : List Value) (cs : Array Value) (o : Nat), (putR cs o vs).size = cs.size
  | [], _, _ => rfl
  | v :: r, cs, o => by rw [putR, xhU r]; simp
theorem xhV : ∀ (vs : List Value) (cs : Array Value) (o : Nat), o + vs.length ≤ cs.size → (putR cs o vs).toList = cs.toList.take o ++ (vs ++ cs.toList.drop (o + vs.length))
 | [], cs, o, h => by simp [putR]
 | v :: r, cs, o, h => by
  rw [List.length_cons] at h
  rw [putR, xhV r _ (o + 1) (by simp; omega)]
  simp only [Array.toList_setIfInBounds, List.length_cons]
  have hl : o < cs.toList.length := by simp; omega
  have e1 : (cs.toList.set o v).take (o + 1) = cs.toList.take o ++ [v] := by
   rw [List.take_succ_eq_append_getElem (by rw [List.length_set]; exact hl), List.getElem_set_self]
   congr 1
   apply List.ext_getElem?
   intro i
   rw [List.getElem?_take, List.getElem?_take]
   split
   ·
    rw [List.getElem?_set_ne (by omega)]
   ·
    rfl
  have e2 : (cs.toList.set o v).drop (o + 1 + r.length) = cs.toList.drop (o + (r.length + 1)) := by
   rw [List.drop_set_of_lt (by omega), show o + 1 + r.length = o + (r.length + 1) by omega]
  rw [e1, e2]
  simp
theorem putR_head (vs : List Value) (cs : Array Value) (o off n : Nat) (h : o + vs.length ≤ cs.size) (hn : off + n ≤ o) : ((putR cs o vs).toList.drop off).take n = (cs.toList.drop off).take n := by
 rw [xhV vs cs o h]
 apply List.ext_getElem?
 intro i
 rw [List.getElem?_take, List.getElem?_take]
 split
 ·
  rename_i hi
  have h1 : (cs.toList.take o).length = o := by rw [List.length_take]; simp; omega
  rw [List.getElem?_drop, List.getElem?_drop, List.getElem?_append_left (by omega), List.getElem?_take, if_pos (by omega)]
 ·
  rfl
def Old {α : Type} (d : Kd α) (e : TypeId) (w w1 : World) (A A1 : Option Addr) (n : Nat) : Prop :=
  (A1 = A ∨ ∀ a, A1 = some a → w.heap.size ≤ a.block) ∧ ∀ (base : Nat) (F : Nat → Prop) (Ao : Option Addr) (co : Nat) (ys : List α), Sl d e w base F Ao co ys → (∀ a a', A = some a → Ao = some a' → a'.block = a.block → a'.off + ys.length * d.sz ≤ a.off + n * d.sz) → Sl d e w1 base F Ao co ys
theorem xfB {b t : Nat} : ∀ (vs : List Value) (o : Nat) (cs : Array Value) (w : World), w.heap[b]? = some (.cells cs t (0, 0)) → (w.setCells b o vs).heap[b]? = some (.cells (putR cs o vs) t (0, 0))
  | [], _, _, _, h => h
  | v :: r, o, cs, w, h => by rw [World.setCells, putR]; exact xfB r (o + 1) _ _ (xaS h o v rfl)
theorem Sl.append_run [Flat d] {P : Program} (t ty : TypeId) (z : Value) (bytes : Nat) (ht : P.underlying t = some (.slice e)) (hinfo : (P.info? e).map (fun i => (i.zero, i.size, i.bytes)) = some (some z, d.sz, bytes)) (hz : z.cells.size = d.sz) (hs0 : 0 < d.sz) (hb0 : 0 < bytes)
  (h : Sl d e w base F A c xs) (hbase : base ≤ w.heap.size) {A' : Option Addr} {m c' : Nat} {ys : List α} (hy : Kd.C d w A' m ys) (hl : (xs.length + m) * bytes ≤ 140737488355328) :
  ∃ A1 c1 w1, (Builtin.append_ #[t, t] ty #[.slice A xs.length c, .slice A' m c']).run P w = .ok (.slice A1 (xs.length + m) c1) w1 ∧ Sl d e w1 base (Gr F w.heap.size w1.heap.size) A1 c1 (xs ++ ys) ∧ Fr (own A) w w1 ∧
   Old d e w w1 A A1 xs.length := by
 obtain ⟨i0, hi, hzz⟩ := Option.map_eq_some_iff.1 hinfo
 simp only [Prod.mk.injEq] at hzz
 obtain ⟨hz0, hz1, hz2⟩ := hzz
 have hm : ys.length = m := hy.1
 have hlen : xs.length + m ≤ 140737488355328 := Nat.le_trans (Nat.le_mul_of_pos_right _ hb0) hl
 have hup : Sl d e w base (Gr F w.heap.size w.heap.size) A c xs := h.mono (fun k hk _ => Or.inl hk)
 rcases A' with _ | ad
 ·
  have h0 : m = 0 := by
   rcases Nat.eq_zero_or_pos m with h0 | h0
   ·
    exact h0
   ·
    obtain ⟨ad, he, _⟩ := hy.2.2 h0
    cases he
  subst h0
  obtain rfl : ys = [] := List.eq_nil_of_length_eq_zero hm
  refine ⟨A, c, w, ?_, by rw [List.append_nil]; exact hup, Fr.refl _ _, Or.inl rfl, fun _ _ _ _ _ h _ => h⟩
  rcases h.row with ⟨rfl, rfl⟩ | ⟨b, off, cur, inner, rfl, _⟩
  ·
   have h1 : xs.length = 0 := by have := h.le; omega
   simp [Builtin.append_, run_underlying ht, sizeOf, typeInfo, hi, Builtin.lenOf, Builtin.firstCells, h1]
  ·
   simp [Builtin.append_, run_underlying ht, sizeOf, typeInfo, hi, Builtin.lenOf, Builtin.firstCells, h.le, storeCells]
 ·
  obtain ⟨news, hnr, hnc⟩ := xdA.inner_ hy
  have hone : ∀ u ∈ news, u.oneCell' = true := Kd.reps_one hnr hs0 (fun p c hp u hu => d.K_one hp u hu)
  have hnl : news.length = m * d.sz := by rw [hnr.1, hm]
  rcases h.row with ⟨rfl, rfl⟩ | ⟨b, off, cur, inner, rfl, h2, h3, h4, h5, h6, h7⟩
  ·
   have h1 : xs = [] := List.eq_nil_of_length_eq_zero (by have := h.le; omega)
   subst h1
   obtain ⟨v1, w1, hrun, ho, hg, _, hat⟩ := run_append_own_at (P := P) w w.heap.size t ty e i0 z d.sz bytes ht hi hz0 hz1 hz2 hz hs0 (.slice none 0 0) 0 [] (own_nil _ _ _ _) ad m c' news hnl hnc hone (by simp only [maxLen]; omega) (by simpa using hl) (Nat.le_refl _)
   rw [List.nil_append] at ho
   obtain ⟨A1, c1, rfl, hs, hnew⟩ := Sl.of_own (base := base) (F := Gr F w.heap.size w1.heap.size) ho (hnr.imp_ (fun _ _ hp => Flat.K hp)) (by omega) (fun k h1 h2 => Or.inr ⟨h1, h2⟩) hbase
   refine ⟨A1, c1, w1, hrun, hs, (Fr.refl _ w).grown hg (fun k hk => by simp [Value.ownBlock] at hk), Or.inr hnew, fun _ _ _ _ _ h _ => h.frame (fun k _ hk => hg.block k hk (by simp [Value.ownBlock]))⟩
  ·
   have hil : inner.length = xs.length * d.sz := h6.1
   have hread : ∀ j u, inner[j]? = some u → w.cell? (Addr.add ⟨b, off, none⟩ j) = some u := fun j u hu => by
    rw [Addr.add_lit, h.cell h4]
    rw [← h7, List.getElem?_take] at hu
    split at hu
    ·
     exact hu
    ·
     cases hu
   by_cases hroom : xs.length + m ≤ c
   ·
    have hfit : off + xs.length * d.sz + news.length ≤ cur.size := by
     have := Nat.mul_le_mul_right d.sz hroom
     rw [Nat.add_mul] at this
     rw [hnl]; omega
    have hrun := run_append_room_cells (P := P) w t ty e i0 ht hi b off xs.length c ad m c' news (by rw [hz1]; exact hnl) hnc hone hroom (fun j hj => by
     rw [hz1, xaA h4, Array.getElem?_eq_getElem (by omega)]; rfl) (fun j hj => xaB h4 _)
    rw [hz1] at hrun
    refine ⟨_, c, _, hrun, ⟨by rw [List.length_append, hm]; exact hroom, by rw [List.length_append, hm]; omega, Or.inr ⟨b, off, putR cur (off + xs.length * d.sz) news, inner ++ news, rfl, Or.inl h2, h3, xfB _ _ _ _ h4, by rw [xhU]; exact h5, xeX (h6.imp_ (fun _ _ hp => Flat.K hp)) (hnr.imp_ (fun _ _ hp => Flat.K hp)), ?_⟩⟩, Fr.setCells (Or.inl ⟨_, rfl, rfl⟩) _ _ (Fr.refl _ _), Or.inl rfl, fun base' F' Ao co ys' ho hrel => ?_⟩
    ·
     rw [xhV _ _ _ hfit, List.drop_append_of_le_length (by rw [List.length_take]; simp; omega), List.drop_take, show off + xs.length * d.sz - off = xs.length * d.sz by omega, h7, List.length_append, hm, Nat.add_mul, List.take_append, hil, List.take_of_length_le (by omega), show xs.length * d.sz + m * d.sz - xs.length * d.sz = m * d.sz by omega, List.take_append_of_le_length (by omega), List.take_of_length_le (by omega)]
    ·
     refine ⟨ho.le, ho.lim, ho.row.imp_right (fun ⟨b2, off2, cur2, inner2, g1, g2, g3, g4, g5, g6, g7⟩ => ?_)⟩
     by_cases hb2 : b2 = b
     ·
      subst hb2
      rw [h4] at g4
      injection g4 with g4
      injection g4 with g4
      subst g4;have h8 := hrel _ _ rfl g1 rfl
      exact ⟨b2, off2, _, inner2, g1, g2, g3, xfB _ _ _ _ h4, by rw [xhU]; exact g5, g6.imp_ (fun _ _ hp => Flat.K hp), by rw [putR_head _ _ _ _ _ hfit h8]; exact g7⟩
     ·
      have hf := Fr.setCells (F := own (some ⟨b, off, none⟩)) (w := w) (b := b) (Or.inl ⟨_, rfl, rfl⟩) news (off + xs.length * d.sz) (Fr.refl _ w)
      exact ⟨b2, off2, cur2, inner2, g1, g2, g3, (hf.block b2 (blk_lt g4) (fun ⟨a, ha, hk⟩ => by injection ha with ha; subst ha; exact hb2 hk.symm)).trans g4, g5, g6.imp_ (fun _ _ hp => Flat.K hp), g7⟩
   ·
    obtain ⟨v1, w1, hrun, ho, hg⟩ := run_append_arg_grows (P := P) w t ty e i0 z d.sz bytes ht hi hz0 hz1 hz2 hz hs0 ⟨b, off, none⟩ xs.length c inner hil hread ad m c' news hnl hnc (by omega) (by simp only [maxLen]; omega) hl
    obtain ⟨A1, c1, rfl, hs, hnew⟩ := Sl.of_own (base := base) (F := Gr F w.heap.size w1.heap.size) (xs := xs ++ ys) ho (xeX (h6.imp_ (fun _ _ hp => Flat.K hp)) (hnr.imp_ (fun _ _ hp => Flat.K hp))) (by rw [List.length_append, hm]) (fun k h1 h2 => Or.inr ⟨h1, h2⟩) hbase
    exact ⟨A1, c1, w1, hrun, hs, (Fr.refl _ w).grown hg (fun k hk => by cases hk), Or.inr hnew, fun _ _ _ _ _ h _ => h.frame (fun k _ hk => hg.block k hk (by simp))⟩
theorem Sl.own_F (h : Sl d e w base F A c xs) : ∀ k, own A k → F k := fun k hk => by
 obtain ⟨a, rfl, rfl⟩ := hk
 rcases h.row with ⟨h1, _⟩ | ⟨b, off, cur, inner, h1, h2, _⟩
 ·
  cases h1
 ·
  injection h1 with h1; subst h1; exact h2
theorem Sl.own_ty (h : Sl d e w base F A c xs) {g t : Nat} {cells : Array Value} (hb : w.heap[g]? = some (.cells cells t (0, 0))) (ht : e ≠ t) : ¬ own A g := fun hk => by
 obtain ⟨a, rfl, rfl⟩ := hk
 rcases h.row with ⟨h1, _⟩ | ⟨b, off, cur, inner, h1, h2, h3, h4, _⟩
 ·
  cases h1
 ·
  injection h1 with h1; subst h1; rw [h4] at hb; injection hb with hb; injection hb with _ hb; exact ht hb
theorem Sl.keep {β : Type} {d' : Kd β} {e' : TypeId} {base' : Nat} {F' : Nat → Prop} {A' : Option Addr} {c' : Nat} {ys : List β} [Flat d] (h : Sl d e w base F A c xs) (h' : Sl d' e' w base' F' A' c' ys) (hne : e ≠ e') (hf : Fr (own A') w w1) : Sl d e w1 base F A c xs :=
  ⟨h.le, h.lim, h.row.imp_right (fun ⟨b, off, cur, inner, h1, h2, h3, h4, h5, h6, h7⟩ => ⟨b, off, cur, inner, h1, h2, h3, (hf.block b (blk_lt h4) (h'.own_ty h4 hne.symm)).trans h4, h5, h6.imp_ (fun _ _ hp => Flat.K hp), h7⟩)⟩
theorem lit_C {w : World} {e : TypeId} {p : α} {cs : List Value} (hp : d.K w p cs) [Flat d] : Kd.C d (w.alloc (.cells cs.toArray e)) (some ⟨w.heap.size, 0, none⟩) 1 [p] := by
 refine ⟨rfl, by omega, fun _ => ⟨_, rfl, fun j q hj => ?_⟩⟩
 have hj0 : j = 0 := by
  rcases Nat.eq_zero_or_pos j with h | h
  ·
   exact h
  ·
   rw [List.getElem?_eq_none (by simp; omega)] at hj; cases hj
 subst hj0
 injection hj with hj
 subst hj
 refine ⟨cs, d.K_len hp, Flat.K hp, fun i u hu => ?_⟩
 rw [Nat.zero_mul, Nat.zero_add, Addr.add_lit, Nat.zero_add, xaA (xbB w _)]
 simpa using hu
theorem Old.pre [Flat d] {W : World} {A1 : Option Addr} {n : Nat} (hb : Below w.heap.size w W) (h : Old d e W w1 A A1 n) : Old d e w w1 A A1 n :=
  ⟨h.1.imp_right (fun h1 a ha => Nat.le_trans hb.size (h1 a ha)), fun b F Ao co ys h1 h2 => h.2 b F Ao co ys (h1.below hb) h2⟩
theorem Old.set [Flat d] {A1 : Option Addr} {n g t : Nat} {cells : Array Value} (h : Old d e w w1 A A1 n) (hb : w1.heap[g]? = some (.cells cells t (0, 0))) (ht : e ≠ t) (j : Nat) (u : Value) : Old d e w (w1.setCell ⟨g, j, none⟩ u) A A1 n :=
  ⟨h.1, fun b F Ao co ys h1 h2 => (h.2 b F Ao co ys h1 h2).set hb ht j u⟩
section
variable {P : Program} {ops : Array Oper} {rest : List Oper} {o : Oper} {a : Act} {Q : Exit → Act → World → Prop} {Kc : Act → World → Prop}
theorem Sl.xcZ [Flat d] (hgd : o.guard = none) (s x : Operand) (t : TypeId) (z : Value) (bytes : Nat) (ho : o.op = .call { callee := .builtin .append, args := #[s, x], argTypes := #[t, t] }) (ht : P.underlying t = some (.slice e)) (hinfo : (P.info? e).map (fun i => (i.zero, i.size, i.bytes)) = some (some z, d.sz, bytes)) (hz : z.cells.size = d.sz) (hs0 : 0 < d.sz) (hb0 : 0 < bytes)
  {A' : Option Addr} {m c' : Nat} {ys : List α} (hs : a.eval s = .slice A xs.length c) (hx : a.eval x = .slice A' m c') (h : Sl d e w base F A c xs) (hy : Kd.C d w A' m ys) (hbase : base ≤ w.heap.size) (hl : (xs.length + m) * bytes ≤ 140737488355328)
  (hk : ∀ A1 c1 w1, Sl d e w1 base (Gr F w.heap.size w1.heap.size) A1 c1 (xs ++ ys) → Fr (own A) w w1 → Old d e w w1 A A1 xs.length → wpList P ops Q rest (a.put o.dst (.slice A1 (xs.length + m) c1)) w1) : wpList P ops Q (o :: rest) a w := by
 obtain ⟨A1, c1, w1, hrun, h1, h2, h3⟩ := h.append_run t o.type z bytes ht hinfo hz hs0 hb0 hbase (c' := c') hy hl
 refine wpList_plain hgd fun K hK' => ?_
 unfold Oper.wp
 simp [execOp, ho, resolve, invoke, builtin, hs, hx, hrun, Result.andThen]
 exact hK' _ _ (hk A1 c1 w1 h1 h2 h3)
theorem Sl.xfS [Flat d] (hw : Region.wanted o (yielded ops a.tmps) = true) (s x : Operand) (t : TypeId) (z : Value) (bytes : Nat) (ho : o.op = .call { callee := .builtin .append, args := #[s, x], argTypes := #[t, t] }) (ht : P.underlying t = some (.slice e)) (hinfo : (P.info? e).map (fun i => (i.zero, i.size, i.bytes)) = some (some z, d.sz, bytes)) (hz : z.cells.size = d.sz) (hs0 : 0 < d.sz) (hb0 : 0 < bytes)
  {A' : Option Addr} {m c' : Nat} {ys : List α} {E : Prop} (hs : a.eval s = .slice A xs.length c) (hx : a.eval x = .slice A' m c') (h : Sl d e w base F A c xs) (hy : Kd.C d w A' m ys) (hbase : base ≤ w.heap.size) (hl : (xs.length + m) * bytes ≤ 140737488355328)
  (hk : ∀ A1 c1 w1, Sl d e w1 base (Gr F w.heap.size w1.heap.size) A1 c1 (xs ++ ys) → Fr (own A) w w1 → Old d e w w1 A A1 xs.length → Kc (a.put o.dst (.slice A1 (xs.length + m) c1)) w1) :
  if Region.wanted o (yielded ops a.tmps) = true then Oper.wp P o a w Kc Q else E := by
 obtain ⟨A1, c1, w1, hrun, h1, h2, h3⟩ := h.append_run t o.type z bytes ht hinfo hz hs0 hb0 hbase (c' := c') hy hl
 rw [if_pos hw]
 unfold Oper.wp
 simp [execOp, ho, resolve, invoke, builtin, hs, hx, hrun, Result.andThen]
 exact hk A1 c1 w1 h1 h2 h3
end
end
structure St where
 code : List S37
 loc : Int
 flows : List S48
 marks : List Int
 ended : Bool
 fault : Int
structure Mx (w : World) (base g : Nat) (F : Nat → Prop) (Ac : Option Addr) (cc : Nat) (Af : Option Addr) (cf : Nat) (Am : Option Addr) (cm : Nat) (s : St) : Prop where
 k : w.heap[g]? = some (.cells #[.slice Ac s.code.length cc, .int .i64 s.loc, .slice Af s.flows.length cf, .slice Am s.marks.length cm, .bool s.ended, .int .i64 s.fault] 85 (0, 0))
 c : Sl k37 37 w base (own Ac) Ac cc s.code
 f : Sl k48 48 w base F Af cf s.flows
 m : Sl (Kd.int .i64) 3 w base F Am cm s.marks
 hg : F g
 hF : ∀ k, F k → base ≤ k ∧ k < w.heap.size
 hc : ∀ k, own Ac k → ¬ F k
section
variable {w w1 : World} {base g : Nat} {F : Nat → Prop} {Ac : Option Addr} {cc : Nat} {Af : Option Addr} {cf : Nat} {Am : Option Addr} {cm : Nat} {s : St}
theorem Mx.below (h : Mx w base g F Ac cc Af cf Am cm s) (hb : Below w.heap.size w w1) : Mx w1 base g F Ac cc Af cf Am cm s :=
  ⟨xaK h.k hb, h.c.below hb, h.f.below hb, h.m.below hb, h.hg, fun k hk => ⟨(h.hF k hk).1, Nat.lt_of_lt_of_le (h.hF k hk).2 hb.size⟩, h.hc⟩
theorem Mx.alloc (h : Mx w base g F Ac cc Af cf Am cm s) (o : Obj) : Mx (w.alloc o) base g F Ac cc Af cf Am cm s := h.below (xaC (Below.refl _ _) o)
theorem Mx.drewN (h : Mx w base g F Ac cc Af cf Am cm s) (n : Nat) : Mx (w.drewN n) base g F Ac cc Af cf Am cm s := h.below (xaJ (Below.refl _ _) n)
theorem Mx.drew (h : Mx w base g F Ac cc Af cf Am cm s) : Mx w.drew base g F Ac cc Af cf Am cm s := h.below (xaM (Below.refl _ _))
theorem Mx.other {G : Nat → Prop} (h : Mx w base g F Ac cc Af cf Am cm s) (hf : Fr G w w1) (hd : ∀ k, F k → ¬ G k) (hdc : ∀ k, own Ac k → ¬ G k) : Mx w1 base g F Ac cc Af cf Am cm s :=
  ⟨hf.blk h.k (hd g h.hg), h.c.fr hf hdc, h.f.fr hf hd, h.m.fr hf hd, h.hg, fun k hk => ⟨(h.hF k hk).1, Nat.lt_of_lt_of_le (h.hF k hk).2 hf.size⟩, h.hc⟩
theorem Mx.xbY (h : Mx w base g F Ac cc Af cf Am cm s) : base ≤ w.heap.size := by have := h.hF g h.hg; omega
theorem Mx.mono {G : Nat → Prop} (h : Mx w base g F Ac cc Af cf Am cm s) (hG : ∀ k, F k → G k) (hb : ∀ k, G k → base ≤ k ∧ k < w.heap.size) (hcG : ∀ k, own Ac k → ¬ G k) : Mx w base g G Ac cc Af cf Am cm s :=
  ⟨h.k, h.c, h.f.mono (fun k h1 _ => hG k h1), h.m.mono (fun k h1 _ => hG k h1), hG g h.hg, hb, hcG⟩
theorem Mx.own_lt (h : Mx w base g F Ac cc Af cf Am cm s) : ∀ k, own Ac k → k < w.heap.size := fun k hk => by
 obtain ⟨a, rfl, rfl⟩ := hk
 rcases h.c.row with ⟨h1, _⟩ | ⟨b, off, cur, inner, h1, _, _, h4, _⟩
 ·
  cases h1
 ·
  injection h1 with h1; subst h1; exact blk_lt h4
theorem Mx.hc_gr (h : Mx w base g F Ac cc Af cf Am cm s) (m : Nat) : ∀ k, own Ac k → ¬ Gr F w.heap.size m k := fun k hk hg => by
 rcases hg with h1 | h1
 ·
  exact h.hc k hk h1
 ·
  have := h.own_lt k hk; omega
theorem Mx.grow {n n' : Nat} (h : Mx w1 base g (Gr F n' w1.heap.size) Ac cc Af cf Am cm s) (hn : n ≤ n') (hn' : n' ≤ w1.heap.size) (hb : base ≤ n := by first | assumption | (exact Mx.xbY (Aside0.out (by assumption)))) (hcn : ∀ k, own Ac k → k < n := by first | assumption | (exact Mx.own_lt (Aside0.out (by assumption)))) : Mx w1 base g (Gr F n w1.heap.size) Ac cc Af cf Am cm s :=
 h.mono (Gr.sub hn) (fun k hk => by
  rcases hk with hk | hk
  ·
   exact h.hF k (Or.inl hk)
  ·
   omega) (fun k hk hg => by
  rcases hg with h1 | h1
  ·
   exact h.hc k hk (Or.inl h1)
  ·
   have := hcn k hk; omega)
theorem gr_bd {n : Nat} (hF : ∀ k, F k → base ≤ k ∧ k < n) (hb : base ≤ n) (hn : n ≤ w.heap.size) : ∀ k, Gr F n w.heap.size k → base ≤ k ∧ k < w.heap.size := fun k hk => by
 rcases hk with hk | hk
 ·
  have := hF k hk; omega
 ·
  omega
theorem Sl.gr {α : Type} {d : Kd α} {e : TypeId} {A : Option Addr} {c n : Nat} {xs : List α} (h : Sl d e w base F A c xs) : Sl d e w base (Gr F n w.heap.size) A c xs := h.mono (fun k hk _ => Or.inl hk)
theorem Sl.gr2 {α : Type} {d : Kd α} {e : TypeId} {A : Option Addr} {c n n' : Nat} {xs : List α} (h : Sl d e w base (Gr F n' w.heap.size) A c xs) (hn : n ≤ n') : Sl d e w base (Gr F n w.heap.size) A c xs := h.mono (fun k hk _ => Gr.sub hn k hk)
theorem Mx.turn_f (h : Mx w base g F Ac cc Af cf Am cm s) (hf : Fr (own Af) w w1) :
    w1.heap[g]? = some (.cells #[.slice Ac s.code.length cc, .int .i64 s.loc, .slice Af s.flows.length cf, .slice Am s.marks.length cm, .bool s.ended, .int .i64 s.fault] 85 (0, 0)) ∧ Sl k37 37 w1 base (own Ac) Ac cc s.code ∧ Sl (Kd.int .i64) 3 w1 base F Am cm s.marks ∧ Fr F w w1 :=
  ⟨hf.blk h.k (h.f.own_ty h.k (by decide)), h.c.keep h.f (by decide) hf, h.m.keep h.f (by decide) hf, hf.mono (fun k _ hk => h.f.own_F k hk)⟩
theorem Mx.turn_m (h : Mx w base g F Ac cc Af cf Am cm s) (hf : Fr (own Am) w w1) :
    w1.heap[g]? = some (.cells #[.slice Ac s.code.length cc, .int .i64 s.loc, .slice Af s.flows.length cf, .slice Am s.marks.length cm, .bool s.ended, .int .i64 s.fault] 85 (0, 0)) ∧ Sl k37 37 w1 base (own Ac) Ac cc s.code ∧ Sl k48 48 w1 base F Af cf s.flows ∧ Fr F w w1 :=
  ⟨hf.blk h.k (h.m.own_ty h.k (by decide)), h.c.keep h.m (by decide) hf, h.f.keep h.m (by decide) hf, hf.mono (fun k _ hk => h.m.own_F k hk)⟩
theorem Mx.put {cs : Array Value} {s' : St} (j : Nat) (u : Value) (hk : w.heap[g]? = some (.cells cs 85 (0, 0)))
  (he : cs.setIfInBounds j u = #[.slice Ac s'.code.length cc, .int .i64 s'.loc, .slice Af s'.flows.length cf, .slice Am s'.marks.length cm, .bool s'.ended, .int .i64 s'.fault])
  (hc : Sl k37 37 w base (own Ac) Ac cc s'.code) (hf : Sl k48 48 w base F Af cf s'.flows) (hm : Sl (Kd.int .i64) 3 w base F Am cm s'.marks)
  (hg : F g) (hF : ∀ k, F k → base ≤ k ∧ k < w.heap.size) (hcF : ∀ k, own Ac k → ¬ F k) : Mx (w.setCell ⟨g, j, none⟩ u) base g F Ac cc Af cf Am cm s' :=
 ⟨xaS hk j u he, hc.set hk (by decide) j u, hf.set hk (by decide) j u, hm.set hk (by decide) j u, hg, fun k h => by
  have h1 : (w.setCell ⟨g, j, none⟩ u).heap.size = w.heap.size := by simp
  rw [h1]; exact hF k h, hcF⟩
theorem blk6 {w : World} {g : Nat} {t : TypeId} {a b c d e f : Value} (h : w.heap[g]? = some (.cells #[a, b, c, d, e, f] t (0, 0))) : w.cell? ⟨g, 0, none⟩ = some a ∧ w.cell? ⟨g, 1, none⟩ = some b ∧ w.cell? ⟨g, 2, none⟩ = some c ∧ w.cell? ⟨g, 3, none⟩ = some d ∧ w.cell? ⟨g, 4, none⟩ = some e ∧ w.cell? ⟨g, 5, none⟩ = some f ∧ w.frozen? ⟨g, 0, none⟩ = false ∧ w.frozen? ⟨g, 1, none⟩ = false ∧ w.frozen? ⟨g, 2, none⟩ = false ∧ w.frozen? ⟨g, 3, none⟩ = false ∧ w.frozen? ⟨g, 4, none⟩ = false ∧ w.frozen? ⟨g, 5, none⟩ = false :=
  ⟨(xaA h 0).trans rfl, (xaA h 1).trans rfl, (xaA h 2).trans rfl, (xaA h 3).trans rfl, (xaA h 4).trans rfl, (xaA h 5).trans rfl, xaB h 0, xaB h 1, xaB h 2, xaB h 3, xaB h 4, xaB h 5⟩
end
def inW (a b : Int) (f : S48) : Bool := decide (a ≤ f.f0) && decide (f.f0 < b)
theorem xhF {α : Type} (p : α → Bool) (l : List α) (i : Nat) (h : i < l.length) : (l.take (i + 1)).filter p = (l.take i).filter p ++ (if p l[i] then [l[i]] else []) := by
  rw [List.take_succ_eq_append_getElem h, List.filter_append]
  simp [List.filter_cons]
theorem flowWindow (a b : Int) (A : Option Addr) (c : Nat) (l : List S48) (w : World) (hr : Kd.C k48 w A l.length l) (hl : l.length ≤ 4096) :
  Calls Tryz.prog 75 #[.slice A l.length c, .int .i64 a, .int .i64 b] w fun e w' => ∃ A' c', e = .returned (.slice A' (l.filter (inW a b)).length c') ∧ Kd.C k48 w' A' (l.filter (inW a b)).length (l.filter (inW a b)) ∧ Below w.heap.size w w' := by
 have HR := Aside0.mk hr;have HL := Aside0.mk hl
 have HB := Aside0.mk (Below.refl w.heap.size w)
 clear hr hl
 go_enter Tryz.func75, Tryz.ntmps75
 go_wp2_with fail
 go_loopg [7, 12] (l.length) (fun kq v3 v11 w' => ∃ i : Nat, i ≤ l.length ∧ kq + i = l.length ∧ v11 = .int .i64 i ∧ Aside0 (Kd.R k48 48 w' w.heap.size (fun _ => True) v3 ((l.take i).filter (inW a b))) ∧ Aside0 (Below w.heap.size w w'))
 case atStart => exact ⟨0, by omega, by omega, rfl, ⟨Kd.R_nil _ _ _ _ _⟩, ⟨by repeat (first | exact HB.out | apply xaJ | apply xaM)⟩⟩
 case round =>
  obtain ⟨i, hi, hk, rfl, HO, HB⟩ := hrel
  by_cases hlt : i < l.length
  ·
   obtain ⟨ad, e, h0, h1, h2⟩ := at_T48 (Kd.xbP HR.out HB.out) (i : Int) (by omega) (by omega)
   subst e
   rw [rd48 hlt] at h0 h1 h2
   rw [Int.toNat_natCast] at h0 h1 h2
   have HT := Aside0.mk (xhF (inW a b) l i hlt)
   obtain ⟨x, hx⟩ : ∃ x, x = l[i] := ⟨_, rfl⟩
   have HXX := Aside0.mk hx
   rw [← hx] at h0 h1 h2
   clear hx
   have hmx : (i : Int) + 1 ≤ 9223372036854775807 := by have := HL.out; omega
   rw [← HXX.out] at HT
   by_cases h1 : a ≤ x.f0
   ·
    have t1 : decide (a ≤ x.f0) = true := decide_eq_true h1
    have s1 : decide (x.f0 ≥ a) = true := decide_eq_true h1
    by_cases h2 : x.f0 < b
    ·
     have t2 : decide (x.f0 < b) = true := decide_eq_true h2
     have HI : Aside0 (inW a b x = true) := ⟨by unfold inW; rw [t1, t2]; rfl⟩
     go_wp2_with (((with_reducible refine xaR (b := .append) (xs := #[.tmp 26, .tmp 28]) rfl ?_); at_builtin; refine Kd.xbZ k48 (w0 := w) w.heap.size rfl (.tmp 26) (.tmp 28) 24 48 (.agg #[.int .i64 0, .float .f64 0, .int .i64 0]) 24 rfl Tryz.underlying24 info48 rfl (by decide) (by omega) u7 ((l.take i).filter (inW a b)) x [.int .i64 x.f0, .float .f64 x.f1, .int .i64 x.f2] (fun _ => True) (fun _ => False) rfl ?aX (xeZ _ _ _ x) (fun _ hk => hk.elim) (fun _ _ => trivial) (Kd.xbJ HO.out _) (xaC HB.out _) (xbG (xaC HB.out _)) ?aL ?_; (case aX => show Value.slice (some ⟨wr.heap.size + 1, 0, none⟩) 1 1 = _; simp); (case aL => have := HL.out; have := List.length_filter_le (inW a b) (l.take i); simp only [List.length_take] at this; omega); intro v1 w2 ho hb hg hat; have h_ := HT.out; rw [HI.out, if_pos rfl] at h_; rw [← h_] at ho; clear h_; replace HO := Aside0.mk ho; replace HB := Aside0.mk hb; clear ho hb hg hat))
     go_roundg (gk - 1)
     case measure => omega
     case rel => exact ⟨i + 1, by omega, by omega, by go_num, HO, HB⟩
    ·
     have t2 : decide (x.f0 < b) = false := decide_eq_false h2
     have HI : Aside0 (inW a b x = false) := ⟨by unfold inW; rw [t1, t2]; rfl⟩
     go_wp2_with fail
     go_roundg (gk - 1)
     case measure => omega
     case rel => exact ⟨i + 1, by omega, by omega, by go_num, ⟨by have h_ := HT.out; rw [HI.out, if_neg (by decide), List.append_nil] at h_; rw [h_]; repeat (first | exact HO.out | apply Kd.xbK | apply Kd.R_drew | apply Kd.xbJ)⟩, ⟨by repeat (first | exact HB.out | apply xaJ | apply xaM | apply xaC)⟩⟩
   ·
    have t1 : decide (a ≤ x.f0) = false := decide_eq_false h1
    have s1 : decide (x.f0 ≥ a) = false := decide_eq_false h1
    have HI : Aside0 (inW a b x = false) := ⟨by unfold inW; rw [t1]; rfl⟩
    go_wp2_with fail
    go_roundg (gk - 1)
    case measure => omega
    case rel => exact ⟨i + 1, by omega, by omega, by go_num, ⟨by have h_ := HT.out; rw [HI.out, if_neg (by decide), List.append_nil] at h_; rw [h_]; repeat (first | exact HO.out | apply Kd.xbK | apply Kd.R_drew | apply Kd.xbJ)⟩, ⟨by repeat (first | exact HB.out | apply xaJ | apply xaM | apply xaC)⟩⟩
  ·
   have e : l.take i = l := List.take_of_length_le (by omega)
   rw [e] at HO
   obtain ⟨A1, c1, rfl, hs⟩ := Sl.of_R HO.out
   have HS := Aside0.mk hs;clear hs
   go_wp2_with (go_at_call 35; (with_reducible refine (xgF _ _ _ _ HS.out.le HS.out.lim).mono ?_); rintro e w' ⟨rfl, hw_⟩; obtain rfl := hw_.symm)
   go_ret
   exact ⟨_, _, rfl, HS.out.C, HB.out⟩
section
variable {w : World} {base g : Nat} {F : Nat → Prop} {Ac : Option Addr} {cc : Nat} {Af : Option Addr} {cf : Nat} {Am : Option Addr} {cm : Nat} {s : St}
theorem add_full (h : Mx w base g F Ac cc Af cf Am cm s) (hl : s.flows.length = 4096) (f0 : Int) (f1 : Nat) (f2 : Int) :
  Calls Tryz.prog 77 #[.pointer (some ⟨g, 0, none⟩), .agg #[.int .i64 f0, .float .f64 f1, .int .i64 f2]] w fun e w' => e = .returned (.int .i64 81) ∧ Below w.heap.size w w' := by
 have HX := Aside0.mk h
 have HB := Aside0.mk (Below.refl w.heap.size w)
 have hle : ((s.flows.length : Int) == 4096) = true := by rw [hl]; rfl
 clear h hl
 go_enter Tryz.func77, Tryz.ntmps77
 go_wp2_with ((with_reducible refine xaU (N := 3) rfl ?_); refine xaT ?hg (N := 3) ?hd (cs := #[.int .i64 f0, .float .f64 f1, .int .i64 f2]) (t := 48) ?hr ?_; (case hd => rfl); (case hg => rfl); (case hr => first | (go_simp; done) | (go_simp; rfl)); intro gb hg w1 hbox hb; replace HX := Aside0.mk (HX.out.below hb); replace HB := bS hb; clear hb hbox hg; obtain ⟨c0, c1, c2, c3, c4, c5, z0, z1, z2, z3, z4, z5⟩ := blk6 HX.out.k)
 go_ret
 exact ⟨rfl, bB⟩
theorem add_ok (h : Mx w base g F Ac cc Af cf Am cm s) (hl : s.flows.length < 4096) (f0 : Int) (f1 : Nat) (f2 : Int) :
  Calls Tryz.prog 77 #[.pointer (some ⟨g, 0, none⟩), .agg #[.int .i64 f0, .float .f64 f1, .int .i64 f2]] w fun e w' => e = .returned (.int .i64 0) ∧ Fr F w w' ∧ ∃ Af' cf', Mx w' base g (Gr F w.heap.size w'.heap.size) Ac cc Af' cf' Am cm { s with flows := s.flows ++ [⟨f0, f1, f2⟩] } ∧ Old k48 48 w w' Af Af' s.flows.length := by
 have HX := Aside0.mk h
 have hle : ((s.flows.length : Int) == 4096) = false := by rw [beq_eq_false_iff_ne]; omega
 have HL := Aside0.mk hl;clear h hl
 go_enter Tryz.func77, Tryz.ntmps77
 go_wp2_with ((with_reducible refine xaU (N := 3) rfl ?_); refine xaT ?hg (N := 3) ?hd (cs := #[.int .i64 f0, .float .f64 f1, .int .i64 f2]) (t := 48) ?hr ?_; (case hd => rfl); (case hg => rfl); (case hr => first | (go_simp; done) | (go_simp; rfl)); intro gb hg w1 hbox hb; have HX1 := Aside0.mk (HX.out.below hb); have HF := Aside0.mk ((Fr.refl F w).below hb); have HB := Aside0.mk hb; have BK := Aside0.mk hbox; have HG := Aside0.mk hg; clear hb hbox hg; obtain ⟨c0, c1, c2, c3, c4, c5, z0, z1, z2, z3, z4, z5⟩ := blk6 HX1.out.k; obtain ⟨b0, b1, b2, y0, y1, y2⟩ := blk3 BK)
 clear c0 c1 c2 c3 c4 c5 z0 z1 z2 z3 z4 z5 b0 b1 b2 y0 y1 y2;replace HX1 := Aside0.mk HX1.out.drew;replace HF := Aside0.mk HF.out.drew
 replace HB := Aside0.mk (xaM HB.out)
 replace BK := Aside0.mk (xaF BK.out)
 obtain ⟨c0, c1, c2, c3, c4, c5, z0, z1, z2, z3, z4, z5⟩ := blk6 HX1.out.k
 obtain ⟨b0, b1, b2, y0, y1, y2⟩ := blk3 BK
 refine start_ (n := 11) (S := fun w' => w'.cell? ⟨g, 2, none⟩ = some (.slice Af s.flows.length cf) ∧ w'.cell? ⟨gb, 0, none⟩ = some (.int .i64 f0) ∧ w'.cell? ⟨gb, 1, none⟩ = some (.float .f64 f1) ∧ w'.cell? ⟨gb, 2, none⟩ = some (.int .i64 f2)) (ds := [10]) #[false, false, false, false, false, false, false, false, false, false, false] (by kernel_rfl) rfl rfl ⟨c2, b0, b1, b2⟩ (fun hHeld => ?_)
 generalize w1.drew = w2 at *
 refine rP 0 ?_
 refine rP 1 ?_
 refine rP 2 ?_
 refine rP 3 ?_
 refine rT 4 ?_
 refine rT 5 ?_
 refine rO 6 (fun K hK => ?_)
 refine value_ (w1 := ?_) (v := ?_) (by rfl) rfl ?_ ?_
 rotate_left 2
 ·
  go_simp
  constructor
  ·
   rfl
  ·
   rfl
 have hA := HX1.out.alloc (.cells #[.int .i64 f0, .float .f64 f1, .int .i64 f2] 48)
 refine hK.out _ _ ⟨(xaA hA.k 2).trans rfl, (xaA (xaE BK.out _) 0).trans rfl, (xaA (xaE BK.out _) 1).trans rfl, (xaA (xaE BK.out _) 2).trans rfl⟩ (fun hHeld => ?_)
 clear hK K hA
 refine rN ?_
 refine rO 7 (fun K hK => ?_)
 refine Sl.xfS (by rfl) (.tmp 15) (.tmp 17) 24 (.agg #[.int .i64 0, .float .f64 0, .int .i64 0]) 24 rfl Tryz.underlying24 info48 rfl (by decide) (by omega) (ys := [(⟨f0, f1, f2⟩ : S48)]) rfl rfl (HX1.out.alloc (.cells #[.int .i64 f0, .float .f64 f1, .int .i64 f2] 48)).f (lit_C (k48_mk w2 (⟨f0, f1, f2⟩ : S48))) (HX1.out.alloc (.cells #[.int .i64 f0, .float .f64 f1, .int .i64 f2] 48)).xbY (by have := HL.out; omega) ?_
 intro A1 n1 w3 ho hf hold
 have HOLD := Aside0.mk (hold.pre (xaC HB.out _))
 clear hold
 have H1 := Aside0.mk ((HX1.out.alloc (.cells #[.int .i64 f0, .float .f64 f1, .int .i64 f2] 48)).turn_f hf)
 have HF1 := Aside0.mk ((HF.out.alloc (.cells #[.int .i64 f0, .float .f64 f1, .int .i64 f2] 48)).step H1.out.2.2.2)
 have hgb : ¬ own Af gb := fun hk => by have := (HX.out.hF _ (HX.out.f.own_F _ hk)).2; have := HG.out; omega
 replace BK := Aside0.mk (hf.blk (xaE BK.out _) hgb)
 have HO := Aside0.mk ho
 have HS : w.heap.size ≤ (w2.alloc (.cells #[.int .i64 f0, .float .f64 f1, .int .i64 f2] 48)).heap.size := (HF.out.alloc _).size
 clear ho hf hgb c0 c1 c2 c3 c4 c5 z0 z1 z2 z3 z4 z5 b0 b1 b2 y0 y1 y2 hHeld
 obtain ⟨c0, c1, c2, c3, c4, c5, z0, z1, z2, z3, z4, z5⟩ := blk6 H1.out.1
 obtain ⟨b0, b1, b2, y0, y1, y2⟩ := blk3 BK
 refine hK.out _ _ ⟨c2, b0, b1, b2⟩ (fun hHeld => ?_)
 clear hK K b0 b1 b2 y0 y1 y2 hHeld
 refine rN ?_
 refine rP 8 ?_
 refine rP 9 ?_
 refine rL 10 (fun K hK => ?_)
 refine skip_ (w1 := ?_) (by rfl) rfl ?_ ?_
 rotate_left
 ·
  go_simp
  rfl
 refine hK.out _ _ ?_
 clear hK K
 refine rD ?_
 go_wp2
 go_ret
 have hs : w.heap.size ≤ w3.heap.size := HF1.out.size
 refine ⟨rfl, HF1.out.set _ (Or.inl HX.out.hg), A1, n1, ?_, HOLD.out.set H1.out.1 (by decide) _ _⟩
 have e2 : ∀ u, (w3.setCell ⟨g, 2, none⟩ u).heap.size = w3.heap.size := fun u => by simp
 rw [e2, show s.flows.length + 1 = (s.flows ++ [(⟨f0, f1, f2⟩ : S48)]).length by simp]
 exact Mx.put 2 _ H1.out.1 rfl H1.out.2.1 (HO.out.gr2 HS) H1.out.2.2.1.gr (Or.inl HX.out.hg) (gr_bd HX.out.hF HX.out.xbY hs) (HX.out.hc_gr _)
end
section
variable {w : World} {base g : Nat} {F : Nat → Prop} {Ac : Option Addr} {cc : Nat} {Af : Option Addr} {cf : Nat} {Am : Option Addr} {cm : Nat} {s : St}
theorem mark_ok (h : Mx w base g F Ac cc Af cf Am cm s) (hl : s.marks.length < 10000) (o0 : Int) (o1 o2 : Nat) (o3 o4 o5 o6 o7 o8 : Int) :
  Calls Tryz.prog 51 #[.pointer (some ⟨g, 0, none⟩), .agg #[.int .i64 o0, .float .f64 o1, .float .f64 o2, .int .i64 o3, .int .i64 o4, .int .i64 o5, .int .i64 o6, .int .i64 o7, .int .i64 o8]] w fun e w' => e = .returned (.int .i64 0) ∧ Fr F w w' ∧ ∃ Am' cm', Mx w' base g (Gr F w.heap.size w'.heap.size) Ac cc Af cf Am' cm' { s with marks := s.marks ++ [(s.flows.length : Int)] } := by
 have HX := Aside0.mk h;have HL := Aside0.mk hl;clear h hl
 go_enter Tryz.func51, Tryz.ntmps51
 go_wp2_with ((with_reducible refine xaU (N := 3) rfl ?_); refine xaT ?hg (N := 3) ?hd (cs := #[.int .i64 o0, .float .f64 o1, .float .f64 o2, .int .i64 o3, .int .i64 o4, .int .i64 o5, .int .i64 o6, .int .i64 o7, .int .i64 o8]) (t := 37) ?hr ?_; (case hd => rfl); (case hg => rfl); (case hr => first | (go_simp; done) | (go_simp; rfl)); intro gb hg w1 hbox hb; have HX1 := Aside0.mk (HX.out.below hb); have HF := Aside0.mk ((Fr.refl F w).below hb); clear hb hbox hg)
 replace HX1 := Aside0.mk HX1.out.drew;replace HF := Aside0.mk HF.out.drew
 obtain ⟨c0, c1, c2, c3, c4, c5, z0, z1, z2, z3, z4, z5⟩ := blk6 HX1.out.k
 refine start_ (n := 15) (S := fun w' => w'.cell? ⟨g, 2, none⟩ = some (.slice Af s.flows.length cf) ∧ w'.cell? ⟨g, 3, none⟩ = some (.slice Am s.marks.length cm)) (ds := [14]) #[false, false, false, false, false, false, false, false, false, false, false, false, false, false, false] (by kernel_rfl) rfl rfl ⟨c2, c3⟩ (fun hHeld => ?_)
 generalize w1.drew = w2 at *
 refine rP 0 ?_
 refine rP 1 ?_
 refine rP 2 ?_
 refine rP 3 ?_
 refine rP 5 ?_
 refine rP 6 ?_
 refine rP 7 ?_
 refine rT 4 ?_
 refine rT 8 ?_
 refine rP 9 ?_
 refine rO 10 (fun K hK => ?_)
 refine value_ (w1 := ?_) (v := ?_) (by rfl) rfl ?_ ?_
 rotate_left 2
 ·
  go_simp
  constructor
  ·
   rfl
  ·
   rfl
 have hA := HX1.out.alloc (.cells #[.int .i64 (s.flows.length : Int)] 3)
 refine hK.out _ _ ⟨(xaA hA.k 2).trans rfl, (xaA hA.k 3).trans rfl⟩ (fun hHeld => ?_)
 clear hK K hA
 refine rN ?_
 refine rO 11 (fun K hK => ?_)
 refine Sl.xfS (by rfl) (.tmp 9) (.tmp 15) 49 (.int .i64 0) 8 rfl Tryz.underlying49 info3 rfl (by decide) (by omega) (ys := [(s.flows.length : Int)]) rfl rfl (HX1.out.alloc (.cells #[.int .i64 (s.flows.length : Int)] 3)).m (lit_C (d := Kd.int .i64) (cs := [.int .i64 (s.flows.length : Int)]) rfl) (HX1.out.alloc (.cells #[.int .i64 (s.flows.length : Int)] 3)).xbY (by have := HL.out; omega) ?_
 intro A1 n1 w3 ho hf _
 have H1 := Aside0.mk ((HX1.out.alloc (.cells #[.int .i64 (s.flows.length : Int)] 3)).turn_m hf)
 have HF1 := Aside0.mk ((HF.out.alloc (.cells #[.int .i64 (s.flows.length : Int)] 3)).step H1.out.2.2.2)
 have HO := Aside0.mk ho
 have HS : w.heap.size ≤ (w2.alloc (.cells #[.int .i64 (s.flows.length : Int)] 3)).heap.size := (HF.out.alloc _).size
 clear ho hf c0 c1 c2 c3 c4 c5 z0 z1 z2 z3 z4 z5 hHeld
 obtain ⟨c0, c1, c2, c3, c4, c5, z0, z1, z2, z3, z4, z5⟩ := blk6 H1.out.1
 refine hK.out _ _ ⟨c2, c3⟩ (fun hHeld => ?_)
 clear hK K hHeld
 refine rN ?_
 refine rP 12 ?_
 refine rP 13 ?_
 refine rL 14 (fun K hK => ?_)
 refine skip_ (w1 := ?_) (by rfl) rfl ?_ ?_
 rotate_left
 ·
  go_simp
  rfl
 refine hK.out _ _ ?_
 clear hK K
 refine rD ?_
 go_wp2
 go_ret
 have hs : w.heap.size ≤ w3.heap.size := HF1.out.size
 refine ⟨rfl, HF1.out.set _ (Or.inl HX.out.hg), A1, n1, ?_⟩
 have e2 : ∀ u, (w3.setCell ⟨g, 3, none⟩ u).heap.size = w3.heap.size := fun u => by simp
 rw [e2, show s.marks.length + 1 = (s.marks ++ [(s.flows.length : Int)]).length by simp]
 exact Mx.put 3 _ H1.out.1 rfl H1.out.2.1 H1.out.2.2.1.gr (HO.out.gr2 HS) (Or.inl HX.out.hg) (gr_bd HX.out.hF HX.out.xbY hs) (HX.out.hc_gr _)
theorem pay_full (h : Mx w base g F Ac cc Af cf Am cm s) (hl : s.flows.length = 4096) (o0 : Int) (o1 o2 : Nat) (o3 o4 o5 o6 o7 o8 : Int) :
  Calls Tryz.prog 52 #[.pointer (some ⟨g, 0, none⟩), .agg #[.int .i64 o0, .float .f64 o1, .float .f64 o2, .int .i64 o3, .int .i64 o4, .int .i64 o5, .int .i64 o6, .int .i64 o7, .int .i64 o8]] w fun e w' => e = .returned (.int .i64 81) ∧ Below w.heap.size w w' := by
 have HX := Aside0.mk h;have HL := Aside0.mk hl
 have HB := Aside0.mk (Below.refl w.heap.size w)
 clear h hl
 go_enter Tryz.func52, Tryz.ntmps52
 go_wp2_with (first | ((with_reducible refine xaU (N := 3) rfl ?_); refine xaT ?hg (N := 3) ?hd (cs := #[.int .i64 o0, .float .f64 o1, .float .f64 o2, .int .i64 o3, .int .i64 o4, .int .i64 o5, .int .i64 o6, .int .i64 o7, .int .i64 o8]) (t := 37) ?hr ?_; (case hd => rfl); (case hg => rfl); (case hr => first | (go_simp; done) | (go_simp; rfl)); intro gb hg w1 hbox hb; replace HX := Aside0.mk (HX.out.below hb); replace HB := bS hb; have HY := Aside0.mk hbox; clear hb hbox hg; obtain ⟨_,_,_,_,_,_,_,_,_,_,_,_,_,_,_,_,_,_⟩ := blk9 HY) | (go_at_call 77; (with_reducible refine (add_full HX.out HL.out _ _ _).mono ?_); rintro e w2 ⟨rfl, hb⟩; replace HB := bS hb; clear hb))
 go_ret
 exact ⟨rfl, bB⟩
theorem pay_ok (h : Mx w base g F Ac cc Af cf Am cm s) (hl : s.flows.length < 4096) (o0 : Int) (o1 o2 : Nat) (o3 o4 o5 o6 o7 o8 : Int) :
  Calls Tryz.prog 52 #[.pointer (some ⟨g, 0, none⟩), .agg #[.int .i64 o0, .float .f64 o1, .float .f64 o2, .int .i64 o3, .int .i64 o4, .int .i64 o5, .int .i64 o6, .int .i64 o7, .int .i64 o8]] w fun e w' => e = .returned (.int .i64 0) ∧ Fr F w w' ∧ ∃ Af' cf', Mx w' base g (Gr F w.heap.size w'.heap.size) Ac cc Af' cf' Am cm { s with flows := s.flows ++ [⟨o3, o1, o5⟩] } := by
 have HX := Aside0.mk h;have HL := Aside0.mk hl;clear h hl
 go_enter Tryz.func52, Tryz.ntmps52
 go_wp2_with (first | ((with_reducible refine xaU (N := 3) rfl ?_); refine xaT ?hg (N := 3) ?hd (cs := #[.int .i64 o0, .float .f64 o1, .float .f64 o2, .int .i64 o3, .int .i64 o4, .int .i64 o5, .int .i64 o6, .int .i64 o7, .int .i64 o8]) (t := 37) ?hr ?_; (case hd => rfl); (case hg => rfl); (case hr => first | (go_simp; done) | (go_simp; rfl)); intro gb hg w1 hbox hb; have HX1 := Aside0.mk (HX.out.below hb); have HF := Aside0.mk ((Fr.refl F w).below hb); have HY := Aside0.mk hbox; clear hb hbox hg; obtain ⟨_,_,_,_,_,_,_,_,_,_,_,_,_,_,_,_,_,_⟩ := blk9 HY) | (go_at_call 77; (with_reducible refine (add_ok HX1.out HL.out _ _ _).mono ?_); rintro e w2 ⟨rfl, hf, A1, n1, hx, _⟩; have HF1 := Aside0.mk hf; have HX2 := Aside0.mk hx; clear hf hx))
 go_ret
 exact ⟨rfl, HF.out.step HF1.out, A1, n1, HX2.out.grow HF.out.size HF1.out.size⟩
end
section
variable {w : World} {base g : Nat} {F : Nat → Prop} {Ac : Option Addr} {cc : Nat} {Af : Option Addr} {cf : Nat} {Am : Option Addr} {cm : Nat} {s : St}
theorem taken_all (h : Mx w base g F Ac cc Af cf Am cm s) (ms : List Int) (m : Nat) (hms : s.marks = ms ++ [(m : Int)]) (hm : m ≤ s.flows.length) (hl : ms.length < 10000) :
  Calls Tryz.prog 78 #[.pointer (some ⟨g, 0, none⟩)] w fun e w' => ∃ A', e = .returned (.tuple #[.int .i64 m, .slice A' (s.flows.length - m) (cf - m)]) ∧ Fr F w w' ∧ Mx w' base g F Ac cc Af cf Am cm { s with marks := ms } ∧ ∀ w1 G, Sl k48 48 w1 base G Af cf s.flows → Kd.C k48 w1 A' (s.flows.length - m) (s.flows.drop m) := by
 have HX := Aside0.mk h
 have hlen : s.marks.length = ms.length + 1 := by rw [hms]; simp
 have hw : IntKind.i64.wrap ((s.marks.length : Int) - 1) = (ms.length : Int) := by rw [hlen, i64_w]; unfold wrap64; omega
 obtain ⟨ad, e1, hx⟩ := Kd.at_int h.m.C (ms.length : Int) (by omega) (by omega)
 subst e1
 have hrd : rd s.marks (ms.length : Int) = (m : Int) := by rw [hms]; simp [rd]
 rw [hrd, Int.toNat_natCast] at hx
 have HH := Aside0.mk hlen;have HM := Aside0.mk hms;have HW := Aside0.mk hw
 have p1 : (0 : Int) ≤ (ms.length : Int) := by omega
 have p2 : (ms.length < s.marks.length) = True := by simp; omega
 have p3 : decide (ms.length < s.marks.length) = true := by simp; omega
 have q1 : ms.length ≤ cm := by have := h.m.le; omega
 have q2 : s.flows.length ≤ cf := h.f.le
 have q3 : m ≤ cf := by omega
 obtain ⟨c0, c1, c2, c3, c4, c5, z0, z1, z2, z3, z4, z5⟩ := blk6 h.k
 have hX : ∀ a b, Mx (((w.drewN a).setCell ⟨g, 3, none⟩ (.slice (some ad) ms.length cm)).drewN b) base g F Ac cc Af cf (some ad) cm { s with marks := ms } := fun a b =>
  (Mx.put (s' := { s with marks := ms }) 3 (.slice (some ad) ms.length cm) (h.drewN a).k rfl (h.drewN a).c (h.drewN a).f (by
   have h1 := (h.drewN a).m.head ms.length cm (show ms.length ≤ s.marks.length by omega) (by have := h.m.le; omega) (Nat.le_refl _)
   rwa [show s.marks.take ms.length = ms by rw [hms]; simp] at h1) h.hg (h.drewN a).hF h.hc).drewN b
 have hC : ∀ w1 G, Sl k48 48 w1 base G Af cf s.flows → Kd.C k48 w1 (if cf = m then Af else Af.map (·.add (m * 3))) (s.flows.length - m) (s.flows.drop m) := fun w1 G hs => by
  have h1 := Kd.C_drop hs.C hm q2
  rwa [List.length_drop] at h1
 have HHX := Aside0.mk hX;have HHC := Aside0.mk hC;clear h hms hrd hlen hX hC
 by_cases hcm : cf = m
 all_goals
  first | subst hcm | skip
  go_enter Tryz.func78, Tryz.ntmps78
  go_wp2
  go_quiet (fail)
  go_wp2
  refine start_ (n := 15) (S := fun w' => w'.cell? ⟨g, 3, none⟩ = some (.slice (some ad) s.marks.length cm)) (ds := [14]) #[false, false, false, false, false, false, false, false, false, false, false, false, false, false, false] (by kernel_rfl) rfl rfl (by go_simp) (fun hHeld => ?_)
  refine rP 0 ?_
  refine rP 1 ?_
  refine rP 2 ?_
  refine rP 3 ?_
  refine rP 5 ?_
  refine rP 6 ?_
  refine rP 7 ?_
  refine rT 4 ?_
  refine rT 8 ?_
  refine rP 9 ?_
  refine rP 10 ?_
  refine rP 11 ?_
  refine rP 12 ?_
  refine rP 13 ?_
  refine rL 14 (fun K hK => ?_)
  refine skip_ (w1 := ?_) (by rfl) rfl ?_ ?_
  rotate_left
  ·
   go_simp
   rfl
  refine hK.out _ _ ?_
  clear hK K
  refine rD ?_
  go_wp2
  go_quiet (fail)
  go_wp2
  go_ret2
  have h1 := HHC.out
  first
   | (rw [if_neg hcm] at h1; exact ⟨_, rfl, (((Fr.refl F w).drewN _).set _ (Or.inl HX.out.hg)).drewN _, HHX.out _ _, h1⟩)
   | (simp only [if_true] at h1; exact ⟨Af, by rw [show s.flows.length - cf = 0 by omega, Nat.sub_self]; rfl, (((Fr.refl F w).drewN _).set _ (Or.inl HX.out.hg)).drewN _, HHX.out _ _, h1⟩)
theorem xhH (h : Mx w base g F Ac cc Af cf Am cm s) (ms : List Int) (m : Nat) (hms : s.marks = ms ++ [(m : Int)]) (hm : m ≤ s.flows.length) (hl : ms.length < 10000) :
  Calls Tryz.prog 78 #[.pointer (some ⟨g, 0, none⟩)] w fun e w' => ∃ A', e = .returned (.tuple #[.int .i64 m, .slice A' (s.flows.length - m) (cf - m)]) ∧ Fr F w w' ∧ Mx w' base g F Ac cc Af cf Am cm { s with marks := ms } ∧ Kd.C k48 w' A' (s.flows.length - m) (s.flows.drop m) := by
 refine (taken_all h ms m hms hm hl).mono ?_
 rintro e w' ⟨A', rfl, h1, h2, h3⟩
 exact ⟨A', rfl, h1, h2, h3 _ _ h2.f⟩
end
section
variable {w : World} {base g : Nat} {F : Nat → Prop} {Ac : Option Addr} {cc : Nat} {Af : Option Addr} {cf : Nat} {Am : Option Addr} {cm : Nat} {s : St}
theorem flowGive' (A : Option Addr) (c n : Nat) (l : List S48) (w : World) (hr : Kd.C k48 w A n l) (hn : l.length = n) (hl : n ≤ 4096) :
  Calls Tryz.prog 73 #[.slice A n c] w fun e w' => ∃ A' c', e = .returned (.slice A' (l.map ngF).length c') ∧ Kd.C k48 w' A' (l.map ngF).length (l.map ngF) ∧ Below w.heap.size w w' := by
 subst hn
 refine (flowGive A c l w hr hl).mono ?_
 rintro e w' ⟨v, rfl, ho, hb⟩
 obtain ⟨A', c', rfl, hs⟩ := Sl.of_R ho
 exact ⟨A', c', rfl, hs.C, hb⟩
theorem flowWindow' (a b : Int) (A : Option Addr) (c n : Nat) (l : List S48) (w : World) (hr : Kd.C k48 w A n l) (hn : l.length = n) (hl : n ≤ 4096) :
  Calls Tryz.prog 75 #[.slice A n c, .int .i64 a, .int .i64 b] w fun e w' => ∃ A' c', e = .returned (.slice A' (l.filter (inW a b)).length c') ∧ Kd.C k48 w' A' (l.filter (inW a b)).length (l.filter (inW a b)) ∧ Below w.heap.size w w' := by
 subst hn
 exact flowWindow a b A c l w hr hl
theorem give_ok (h : Mx w base g F Ac cc Af cf Am cm s) (ms : List Int) (m : Nat) (hms : s.marks = ms ++ [(m : Int)]) (hm : m ≤ s.flows.length) (hl : ms.length < 10000) (hfl : s.flows.length ≤ 4096) (o0 : Int) (o1 o2 : Nat) (o3 o4 o5 o6 o7 o8 : Int) :
  Calls Tryz.prog 54 #[.pointer (some ⟨g, 0, none⟩), .agg #[.int .i64 o0, .float .f64 o1, .float .f64 o2, .int .i64 o3, .int .i64 o4, .int .i64 o5, .int .i64 o6, .int .i64 o7, .int .i64 o8]] w fun e w' => e = .returned (.int .i64 0) ∧ Fr F w w' ∧ ∃ Af' cf', Mx w' base g (Gr F w.heap.size w'.heap.size) Ac cc Af' cf' Am cm { s with marks := ms, flows := s.flows.take m ++ ((s.flows.drop m).map ngF) } := by
 have HX := Aside0.mk h;have HM := Aside0.mk hms;have HLE := Aside0.mk hm;have HL := Aside0.mk hl;have HFL := Aside0.mk hfl
 have hcf : m ≤ cf := Nat.le_trans hm h.f.le
 have HCF := Aside0.mk hcf;clear h hms hm hl hfl
 go_enter Tryz.func54, Tryz.ntmps54
 go_wp2_with (first | ((with_reducible refine xaU (N := 3) rfl ?_); refine xaT ?hg (N := 3) ?hd (cs := #[.int .i64 o0, .float .f64 o1, .float .f64 o2, .int .i64 o3, .int .i64 o4, .int .i64 o5, .int .i64 o6, .int .i64 o7, .int .i64 o8]) (t := 37) ?hr ?_; (case hd => rfl); (case hg => rfl); (case hr => first | (go_simp; done) | (go_simp; rfl)); intro gb hg w1 hbox hb; have HX1 := Aside0.mk (HX.out.below hb); have HF1 := Aside0.mk ((Fr.refl F w).below hb); have BK := Aside0.mk hbox; have HG := Aside0.mk hg; clear hb hbox hg) | (go_at_call 78; go_loud ((with_reducible refine (xhH HX1.out ms m HM.out HLE.out HL.out).mono ?_); rintro e w2 ⟨A', rfl, hf, hx, hc⟩; have hgb : ¬ F gb := fun hk => (by have := (HX.out.hF _ hk).2; have := HG.out; omega); have HX2 := Aside0.mk hx; have HF2 := Aside0.mk (HF1.out.step hf); have HC := Aside0.mk hc; replace BK := Aside0.mk (hf.blk BK.out hgb); have HS2 := Aside0.mk hf.size; clear hf hx hc hgb)))
 have HD := Aside0.mk (show (s.flows.drop m).length = s.flows.length - m from List.length_drop)
 replace HX2 := Aside0.mk HX2.out.drew;replace HF2 := Aside0.mk HF2.out.drew
 replace HC := Aside0.mk (Kd.C_drew HC.out)
 replace BK := Aside0.mk (xaF BK.out)
 have HGB : Aside0 (¬ F gb ∧ gb < w2.drew.heap.size) := ⟨fun hk => (by have := (HX.out.hF _ hk).2; have := HG.out; omega), blk_lt BK.out⟩
 refine start_ (n := 14) (S := fun w' => w'.cell? ⟨g, 2, none⟩ = some (.slice Af s.flows.length cf)) (ds := [13]) #[false, false, false, false, false, false, false, false, false, false, false, false, false, false] (by kernel_rfl) rfl rfl ((xaA HX2.out.k 2).trans rfl) (fun hHeld => ?_)
 generalize hw3 : w2.drew = w3 at *
 clear hw3
 refine rP 0 ?_
 refine rP 1 ?_
 refine rP 2 ?_
 refine rP 3 ?_
 refine rP 5 ?_
 refine rP 6 ?_
 refine rT 4 ?_
 refine rP 7 ?_
 refine rP 8 ?_
 refine rO 9 (fun K hK => ?_)
 refine goes_ Tryz.func73 (by kernel_rfl) rfl #[.slice A' (s.flows.length - m) (cf - m)] (by rfl) rfl rfl (by (try simp only [List.map_toArray, List.map_cons, List.map_nil]); first | done | rfl) ?_
 have HTL : Aside0 ((s.flows.take m).length = m) := ⟨by rw [List.length_take]; have := HLE.out; omega⟩
 have HYL : Aside0 (((s.flows.drop m).map ngF).length ≤ s.flows.length - m) := ⟨by rw [← HD.out]; rw [List.length_map]; exact Nat.le_refl _⟩
 with_reducible refine (flowGive' _ _ _ _ _ HC.out HD.out (by have := HFL.out; omega)).mono ?_
 rintro e w4 ⟨A4, k4, rfl, hy, hb⟩
 refine ⟨_, rfl, ?_⟩
 have HX4 := Aside0.mk (HX2.out.below hb)
 have HF4 := Aside0.mk (HF2.out.below hb)
 have BK4 := Aside0.mk (xaK BK.out hb)
 have HY := Aside0.mk hy;clear hy hb
 refine hK.out _ _ ((xaA HX4.out.k 2).trans rfl) (fun hHeld => ?_)
 clear hK K
 refine rN ?_
 refine rO 10 (fun K hK => ?_)
 refine Sl.xfS (by rfl) (.tmp 19) (.tmp 21) 24 (.agg #[.int .i64 0, .float .f64 0, .int .i64 0]) 24 rfl Tryz.underlying24 info48 rfl (by decide) (by omega) (xs := s.flows.take m) (c := m) (ys := ((s.flows.drop m).map ngF)) (by rw [HTL.out]; rfl) rfl (HX4.out.f.head m m HLE.out (Nat.le_refl _) HCF.out) HY.out HX4.out.xbY (by have := HFL.out; have := HLE.out; have := HYL.out; rw [HTL.out]; omega) ?_
 intro A1 n1 w5 ho hf _
 have H1 := Aside0.mk (HX4.out.turn_f hf)
 have HF5 := Aside0.mk (HF4.out.step H1.out.2.2.2)
 replace BK4 := Aside0.mk (H1.out.2.2.2.blk BK4.out HGB.out.1)
 have HO := Aside0.mk ho;clear ho hf hHeld
 refine hK.out _ _ ((xaA H1.out.1 2).trans rfl) (fun hHeld => ?_)
 clear hK K hHeld
 refine rN ?_
 refine rP 11 ?_
 refine rP 12 ?_
 obtain ⟨c0, c1, c2, c3, c4, c5, z0, z1, z2, z3, z4, z5⟩ := blk6 H1.out.1
 refine rL 13 (fun K hK => ?_)
 refine skip_ (w1 := ?_) (by rfl) rfl ?_ ?_
 rotate_left
 ·
  go_simp
  rfl
 refine hK.out _ _ ?_
 clear hK K
 refine rD ?_
 go_wp2
 go_ret
 have hs : w.heap.size ≤ w5.heap.size := HF5.out.size
 refine ⟨rfl, HF5.out.set _ (Or.inl HX.out.hg), A1, n1, ?_⟩
 have e2 : ∀ u, (w5.setCell ⟨g, 2, none⟩ u).heap.size = w5.heap.size := fun u => by simp
 have e3 : (s.flows.take m).length + ((s.flows.drop m).map ngF).length = (s.flows.take m ++ ((s.flows.drop m).map ngF)).length := by rw [List.length_append]
 have e4 : Mx (w5.setCell ⟨g, 2, none⟩ (.slice A1 ((s.flows.take m).length + ((s.flows.drop m).map ngF).length) n1)) base g (Gr F w.heap.size w5.heap.size) Ac cc A1 n1 Am cm { s with marks := ms, flows := s.flows.take m ++ ((s.flows.drop m).map ngF) } := by
  rw [e3]
  exact Mx.put 2 _ H1.out.1 rfl H1.out.2.1 (HO.out.gr2 HF4.out.size) H1.out.2.2.1.gr (Or.inl HX.out.hg) (gr_bd HX.out.hF HX.out.xbY hs) (HX.out.hc_gr _)
 rw [e2]
 simpa using e4
theorem window_ok (h : Mx w base g F Ac cc Af cf Am cm s) (ms : List Int) (m : Nat) (hms : s.marks = ms ++ [(m : Int)]) (hm : m ≤ s.flows.length) (hl : ms.length < 10000) (hfl : s.flows.length ≤ 4096) (o0 : Int) (o1 o2 : Nat) (o3 o4 o5 o6 o7 o8 : Int) :
  Calls Tryz.prog 56 #[.pointer (some ⟨g, 0, none⟩), .agg #[.int .i64 o0, .float .f64 o1, .float .f64 o2, .int .i64 o3, .int .i64 o4, .int .i64 o5, .int .i64 o6, .int .i64 o7, .int .i64 o8]] w fun e w' => e = .returned (.int .i64 0) ∧ Fr F w w' ∧ ∃ Af' cf', Mx w' base g (Gr F w.heap.size w'.heap.size) Ac cc Af' cf' Am cm { s with marks := ms, flows := s.flows.take m ++ ((s.flows.drop m).filter (inW o3 o4)) } := by
 have HX := Aside0.mk h;have HM := Aside0.mk hms;have HLE := Aside0.mk hm;have HL := Aside0.mk hl;have HFL := Aside0.mk hfl
 have hcf : m ≤ cf := Nat.le_trans hm h.f.le
 have HCF := Aside0.mk hcf;clear h hms hm hl hfl
 go_enter Tryz.func56, Tryz.ntmps56
 go_wp2_with (first | ((with_reducible refine xaU (N := 3) rfl ?_); refine xaT ?hg (N := 3) ?hd (cs := #[.int .i64 o0, .float .f64 o1, .float .f64 o2, .int .i64 o3, .int .i64 o4, .int .i64 o5, .int .i64 o6, .int .i64 o7, .int .i64 o8]) (t := 37) ?hr ?_; (case hd => rfl); (case hg => rfl); (case hr => first | (go_simp; done) | (go_simp; rfl)); intro gb hg w1 hbox hb; have HX1 := Aside0.mk (HX.out.below hb); have HF1 := Aside0.mk ((Fr.refl F w).below hb); have BK := Aside0.mk hbox; have HG := Aside0.mk hg; clear hb hbox hg) | (go_at_call 78; go_loud ((with_reducible refine (xhH HX1.out ms m HM.out HLE.out HL.out).mono ?_); rintro e w2 ⟨A', rfl, hf, hx, hc⟩; have hgb : ¬ F gb := fun hk => (by have := (HX.out.hF _ hk).2; have := HG.out; omega); have HX2 := Aside0.mk hx; have HF2 := Aside0.mk (HF1.out.step hf); have HC := Aside0.mk hc; replace BK := Aside0.mk (hf.blk BK.out hgb); have HS2 := Aside0.mk hf.size; clear hf hx hc hgb)))
 have HD := Aside0.mk (show (s.flows.drop m).length = s.flows.length - m from List.length_drop)
 replace HX2 := Aside0.mk HX2.out.drew;replace HF2 := Aside0.mk HF2.out.drew
 replace HC := Aside0.mk (Kd.C_drew HC.out)
 replace BK := Aside0.mk (xaF BK.out)
 have HGB : Aside0 (¬ F gb ∧ gb < w2.drew.heap.size) := ⟨fun hk => (by have := (HX.out.hF _ hk).2; have := HG.out; omega), blk_lt BK.out⟩
 refine start_ (n := 18) (S := fun w' => w'.cell? ⟨g, 2, none⟩ = some (.slice Af s.flows.length cf) ∧ w'.cell? ⟨gb, 3, none⟩ = some (.int .i64 o3) ∧ w'.cell? ⟨gb, 4, none⟩ = some (.int .i64 o4)) (ds := [17]) #[false, false, false, false, false, false, false, false, false, false, false, false, false, false, false, false, false, false] (by kernel_rfl) rfl rfl ⟨(xaA HX2.out.k 2).trans rfl, (xaA BK.out 3).trans rfl, (xaA BK.out 4).trans rfl⟩ (fun hHeld => ?_)
 generalize hw3 : w2.drew = w3 at *
 clear hw3
 refine rP 0 ?_
 refine rP 1 ?_
 refine rP 2 ?_
 refine rP 3 ?_
 refine rP 5 ?_
 refine rP 6 ?_
 refine rP 8 ?_
 refine rP 9 ?_
 refine rP 11 ?_
 refine rT 4 ?_
 refine rT 10 ?_
 refine rT 12 ?_
 refine rP 7 ?_
 refine rO 13 (fun K hK => ?_)
 refine goes_ Tryz.func75 (by kernel_rfl) rfl #[.slice A' (s.flows.length - m) (cf - m), .int .i64 o3, .int .i64 o4] (by rfl) rfl rfl (by (try simp only [List.map_toArray, List.map_cons, List.map_nil]); first | done | rfl) ?_
 have HTL : Aside0 ((s.flows.take m).length = m) := ⟨by rw [List.length_take]; have := HLE.out; omega⟩
 have HYL : Aside0 (((s.flows.drop m).filter (inW o3 o4)).length ≤ s.flows.length - m) := ⟨by rw [← HD.out]; exact List.length_filter_le _ _⟩
 with_reducible refine (flowWindow' _ _ _ _ _ _ _ HC.out HD.out (by have := HFL.out; omega)).mono ?_
 rintro e w4 ⟨A4, k4, rfl, hy, hb⟩
 refine ⟨_, rfl, ?_⟩
 have HX4 := Aside0.mk (HX2.out.below hb)
 have HF4 := Aside0.mk (HF2.out.below hb)
 have BK4 := Aside0.mk (xaK BK.out hb)
 have HY := Aside0.mk hy;clear hy hb
 refine hK.out _ _ ⟨(xaA HX4.out.k 2).trans rfl, (xaA BK4.out 3).trans rfl, (xaA BK4.out 4).trans rfl⟩ (fun hHeld => ?_)
 clear hK K
 refine rN ?_
 refine rO 14 (fun K hK => ?_)
 refine Sl.xfS (by rfl) (.tmp 19) (.tmp 25) 24 (.agg #[.int .i64 0, .float .f64 0, .int .i64 0]) 24 rfl Tryz.underlying24 info48 rfl (by decide) (by omega) (xs := s.flows.take m) (c := m) (ys := ((s.flows.drop m).filter (inW o3 o4))) (by rw [HTL.out]; rfl) rfl (HX4.out.f.head m m HLE.out (Nat.le_refl _) HCF.out) HY.out HX4.out.xbY (by have := HFL.out; have := HLE.out; have := HYL.out; rw [HTL.out]; omega) ?_
 intro A1 n1 w5 ho hf _
 have H1 := Aside0.mk (HX4.out.turn_f hf)
 have HF5 := Aside0.mk (HF4.out.step H1.out.2.2.2)
 replace BK4 := Aside0.mk (H1.out.2.2.2.blk BK4.out HGB.out.1)
 have HO := Aside0.mk ho;clear ho hf hHeld
 refine hK.out _ _ ⟨(xaA H1.out.1 2).trans rfl, (xaA BK4.out 3).trans rfl, (xaA BK4.out 4).trans rfl⟩ (fun hHeld => ?_)
 clear hK K hHeld
 refine rN ?_
 refine rP 15 ?_
 refine rP 16 ?_
 obtain ⟨c0, c1, c2, c3, c4, c5, z0, z1, z2, z3, z4, z5⟩ := blk6 H1.out.1
 refine rL 17 (fun K hK => ?_)
 refine skip_ (w1 := ?_) (by rfl) rfl ?_ ?_
 rotate_left
 ·
  go_simp
  rfl
 refine hK.out _ _ ?_
 clear hK K
 refine rD ?_
 go_wp2
 go_ret
 have hs : w.heap.size ≤ w5.heap.size := HF5.out.size
 refine ⟨rfl, HF5.out.set _ (Or.inl HX.out.hg), A1, n1, ?_⟩
 have e2 : ∀ u, (w5.setCell ⟨g, 2, none⟩ u).heap.size = w5.heap.size := fun u => by simp
 have e3 : (s.flows.take m).length + ((s.flows.drop m).filter (inW o3 o4)).length = (s.flows.take m ++ ((s.flows.drop m).filter (inW o3 o4))).length := by rw [List.length_append]
 have e4 : Mx (w5.setCell ⟨g, 2, none⟩ (.slice A1 ((s.flows.take m).length + ((s.flows.drop m).filter (inW o3 o4)).length) n1)) base g (Gr F w.heap.size w5.heap.size) Ac cc A1 n1 Am cm { s with marks := ms, flows := s.flows.take m ++ ((s.flows.drop m).filter (inW o3 o4)) } := by
  rw [e3]
  exact Mx.put 2 _ H1.out.1 rfl H1.out.2.1 (HO.out.gr2 HF4.out.size) H1.out.2.2.1.gr (Or.inl HX.out.hg) (gr_bd HX.out.hF HX.out.xbY hs) (HX.out.hc_gr _)
 rw [e2]
 simpa using e4
end
theorem flowScale_ok' (y : Nat) (A : Option Addr) (c n : Nat) (l : List S48) (w : World) (hr : Kd.C k48 w A n l) (hn : l.length = n) (hl : n ≤ 4096) (hy : numB y = true) (hx : ∀ f ∈ l, numB f.f1 = true) (hok : ∀ f ∈ l, numB (mulN y f.f1) = true) :
  Calls Tryz.prog 74 #[.float .f64 y, .slice A n c] w fun e w' => ∃ A' c', e = .returned (.tuple #[.slice A' (l.map (scF y)).length c', .int .i64 0]) ∧ Kd.C k48 w' A' (l.map (scF y)).length (l.map (scF y)) ∧ Below w.heap.size w w' := by
 subst hn
 refine (xhE y A c l w hr hl hy hx hok).mono ?_
 rintro e w' ⟨v, rfl, ho, hb⟩
 obtain ⟨A', c', rfl, hs⟩ := Sl.of_R ho
 exact ⟨A', c', rfl, hs.C, hb⟩
theorem flowScale_bad' (y : Nat) (A : Option Addr) (c n : Nat) (l : List S48) (w : World) (hr : Kd.C k48 w A n l) (hn : l.length = n) (hl : n ≤ 4096) (hy : numB y = true) (hx : ∀ f ∈ l, numB f.f1 = true) (hbad : ∃ f ∈ l, numB (mulN y f.f1) = false) :
  Calls Tryz.prog 74 #[.float .f64 y, .slice A n c] w fun e w' => e = .returned (.tuple #[.slice none 0 0, .int .i64 91]) ∧ Below w.heap.size w w' := by
 subst hn
 exact xgD y A c l w hr hl hy hx hbad
section
variable {w : World} {base g : Nat} {F : Nat → Prop} {Ac : Option Addr} {cc : Nat} {Af : Option Addr} {cf : Nat} {Am : Option Addr} {cm : Nat} {s : St}
theorem scale_ok (h : Mx w base g F Ac cc Af cf Am cm s) (ms : List Int) (m : Nat) (hms : s.marks = ms ++ [(m : Int)]) (hm : m ≤ s.flows.length) (hl : ms.length < 10000) (hfl : s.flows.length ≤ 4096) (o0 : Int) (o1 o2 : Nat) (o3 o4 o5 o6 o7 o8 : Int) (hy : numB o1 = true) (hx : ∀ f ∈ s.flows.drop m, numB f.f1 = true) (hok : ∀ f ∈ s.flows.drop m, numB (mulN o1 f.f1) = true) :
  Calls Tryz.prog 55 #[.pointer (some ⟨g, 0, none⟩), .agg #[.int .i64 o0, .float .f64 o1, .float .f64 o2, .int .i64 o3, .int .i64 o4, .int .i64 o5, .int .i64 o6, .int .i64 o7, .int .i64 o8]] w fun e w' => e = .returned (.int .i64 0) ∧ Fr F w w' ∧ ∃ Af' cf', Mx w' base g (Gr F w.heap.size w'.heap.size) Ac cc Af' cf' Am cm { s with marks := ms, flows := s.flows.take m ++ ((s.flows.drop m).map (scF o1)) } := by
 have HX := Aside0.mk h;have HM := Aside0.mk hms;have HLE := Aside0.mk hm;have HL := Aside0.mk hl;have HFL := Aside0.mk hfl
 have hcf : m ≤ cf := Nat.le_trans hm h.f.le
 have HCF := Aside0.mk hcf;clear h hms hm hl hfl;have HYN := Aside0.mk hy;have HXN := Aside0.mk hx;have HOKN := Aside0.mk hok;clear hy hx hok
 have HD := Aside0.mk (show (s.flows.drop m).length = s.flows.length - m from List.length_drop)
 have HTL : Aside0 ((s.flows.take m).length = m) := ⟨by rw [List.length_take]; have := HLE.out; omega⟩
 have HYL : Aside0 (((s.flows.drop m).map (scF o1)).length = s.flows.length - m) := ⟨by rw [← HD.out, List.length_map]⟩
 go_enter Tryz.func55, Tryz.ntmps55
 go_wp2_with (first | ((with_reducible refine xaU (N := 3) rfl ?_); refine xaT ?hg (N := 3) ?hd (cs := #[.int .i64 o0, .float .f64 o1, .float .f64 o2, .int .i64 o3, .int .i64 o4, .int .i64 o5, .int .i64 o6, .int .i64 o7, .int .i64 o8]) (t := 37) ?hr ?_; (case hd => rfl); (case hg => rfl); (case hr => first | (go_simp; done) | (go_simp; rfl)); intro gb hg w1 hbox hb; have HX1 := Aside0.mk (HX.out.below hb); have HF1 := Aside0.mk ((Fr.refl F w).below hb); have BK := Aside0.mk hbox; have HG := Aside0.mk hg; clear hb hbox hg) | (go_at_call 78; go_loud ((with_reducible refine (xhH HX1.out ms m HM.out HLE.out HL.out).mono ?_); rintro e w2 ⟨A', rfl, hf, hx, hc⟩; have hgb : ¬ F gb := fun hk => (by have := (HX.out.hF _ hk).2; have := HG.out; omega); have HX2 := Aside0.mk hx; have HF2 := Aside0.mk (HF1.out.step hf); have HC := Aside0.mk hc; replace BK := Aside0.mk (hf.blk BK.out hgb); have HS2 := Aside0.mk hf.size; clear hf hx hc hgb; obtain ⟨_,_,_,_,_,_,_,_,_,_,_,_,_,_,_,_,_,_⟩ := blk9 BK)) | (go_at_call 74; go_loud ((with_reducible refine (flowScale_ok' _ _ _ _ _ _ HC.out HD.out (by have := HFL.out; omega) HYN.out HXN.out HOKN.out).mono ?_); rintro e w4 ⟨A4, k4, rfl, hy, hb⟩; have HX4 := Aside0.mk (HX2.out.below hb); have HF4 := Aside0.mk (HF2.out.below hb); have HY := Aside0.mk hy; clear hy hb; obtain ⟨c0, c1, c2, c3, c4, c5, z0, z1, z2, z3, z4, z5⟩ := blk6 HX4.out.k)) | ((with_reducible refine xaR (b := .append) (xs := #[.tmp 29, .tmp 30]) rfl ?_); go_loud (refine Sl.xcZ rfl (.tmp 29) (.tmp 30) 24 (.agg #[.int .i64 0, .float .f64 0, .int .i64 0]) 24 rfl Tryz.underlying24 info48 rfl (by decide) (by omega) (xs := s.flows.take m) (c := m) (ys := ((s.flows.drop m).map (scF o1))) (by rw [HTL.out]; rfl) rfl (HX4.out.f.head m m HLE.out (Nat.le_refl _) HCF.out) (by have h_ := HY.out; rwa [HYL.out] at h_) HX4.out.xbY (by have := HFL.out; have := HLE.out; have := HYL.out; rw [HTL.out]; omega) ?_; intro A1 n1 w5 ho hf _; have H1 := Aside0.mk (HX4.out.turn_f hf); have HF5 := Aside0.mk (HF4.out.step H1.out.2.2.2); have HO := Aside0.mk ho; clear ho hf c0 c1 c2 c3 c4 c5 z0 z1 z2 z3 z4 z5; obtain ⟨c0, c1, c2, c3, c4, c5, z0, z1, z2, z3, z4, z5⟩ := blk6 H1.out.1)))
 go_ret
 have hs : w.heap.size ≤ w5.heap.size := HF5.out.size
 refine ⟨rfl, HF5.out.set _ (Or.inl HX.out.hg), A1, n1, ?_⟩
 have e2 : ∀ u, (w5.setCell ⟨g, 2, none⟩ u).heap.size = w5.heap.size := fun u => by simp
 have e3 : (s.flows.take m).length + (s.flows.length - m) = (s.flows.take m ++ ((s.flows.drop m).map (scF o1))).length := by rw [List.length_append, HYL.out]
 have e4 : Mx (w5.setCell ⟨g, 2, none⟩ (.slice A1 ((s.flows.take m).length + (s.flows.length - m)) n1)) base g (Gr F w.heap.size w5.heap.size) Ac cc A1 n1 Am cm { s with marks := ms, flows := s.flows.take m ++ ((s.flows.drop m).map (scF o1)) } := by
  rw [e3]
  exact Mx.put 2 _ H1.out.1 rfl H1.out.2.1 (HO.out.gr2 HF4.out.size) H1.out.2.2.1.gr (Or.inl HX.out.hg) (gr_bd HX.out.hF HX.out.xbY hs) (HX.out.hc_gr _)
 rw [e2]
 simpa using e4
theorem scale_bad (h : Mx w base g F Ac cc Af cf Am cm s) (ms : List Int) (m : Nat) (hms : s.marks = ms ++ [(m : Int)]) (hm : m ≤ s.flows.length) (hl : ms.length < 10000) (hfl : s.flows.length ≤ 4096) (o0 : Int) (o1 o2 : Nat) (o3 o4 o5 o6 o7 o8 : Int) (hy : numB o1 = true) (hx : ∀ f ∈ s.flows.drop m, numB f.f1 = true) (hok : ∃ f ∈ s.flows.drop m, numB (mulN o1 f.f1) = false) :
  Calls Tryz.prog 55 #[.pointer (some ⟨g, 0, none⟩), .agg #[.int .i64 o0, .float .f64 o1, .float .f64 o2, .int .i64 o3, .int .i64 o4, .int .i64 o5, .int .i64 o6, .int .i64 o7, .int .i64 o8]] w fun e w' => e = .returned (.int .i64 91) ∧ Fr F w w' ∧ Mx w' base g F Ac cc Af cf Am cm { s with marks := ms } := by
 have HX := Aside0.mk h;have HM := Aside0.mk hms;have HLE := Aside0.mk hm;have HL := Aside0.mk hl;have HFL := Aside0.mk hfl
 have hcf : m ≤ cf := Nat.le_trans hm h.f.le
 have HCF := Aside0.mk hcf;clear h hms hm hl hfl;have HYN := Aside0.mk hy;have HXN := Aside0.mk hx;have HOKN := Aside0.mk hok;clear hy hx hok
 have HD := Aside0.mk (show (s.flows.drop m).length = s.flows.length - m from List.length_drop)
 go_enter Tryz.func55, Tryz.ntmps55
 go_wp2_with (first | ((with_reducible refine xaU (N := 3) rfl ?_); refine xaT ?hg (N := 3) ?hd (cs := #[.int .i64 o0, .float .f64 o1, .float .f64 o2, .int .i64 o3, .int .i64 o4, .int .i64 o5, .int .i64 o6, .int .i64 o7, .int .i64 o8]) (t := 37) ?hr ?_; (case hd => rfl); (case hg => rfl); (case hr => first | (go_simp; done) | (go_simp; rfl)); intro gb hg w1 hbox hb; have HX1 := Aside0.mk (HX.out.below hb); have HF1 := Aside0.mk ((Fr.refl F w).below hb); have BK := Aside0.mk hbox; have HG := Aside0.mk hg; clear hb hbox hg) | (go_at_call 78; go_loud ((with_reducible refine (xhH HX1.out ms m HM.out HLE.out HL.out).mono ?_); rintro e w2 ⟨A', rfl, hf, hx, hc⟩; have hgb : ¬ F gb := fun hk => (by have := (HX.out.hF _ hk).2; have := HG.out; omega); have HX2 := Aside0.mk hx; have HF2 := Aside0.mk (HF1.out.step hf); have HC := Aside0.mk hc; replace BK := Aside0.mk (hf.blk BK.out hgb); have HS2 := Aside0.mk hf.size; clear hf hx hc hgb; obtain ⟨_,_,_,_,_,_,_,_,_,_,_,_,_,_,_,_,_,_⟩ := blk9 BK)) | (go_at_call 74; go_loud ((with_reducible refine (flowScale_bad' _ _ _ _ _ _ HC.out HD.out (by have := HFL.out; omega) HYN.out HXN.out HOKN.out).mono ?_); rintro e w4 ⟨rfl, hb⟩; have HX4 := Aside0.mk (HX2.out.below hb); have HF4 := Aside0.mk (HF2.out.below hb); clear hb)))
 go_ret
 exact ⟨rfl, HF4.out, HX4.out⟩
end
end Go.Proofs.YtkabcgmegljebaaGreatDoor.H
