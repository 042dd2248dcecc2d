/- Contracts and facts of functions of the program, joined in one text. -/
import Derived.Test.YtkabcgmegljebaaGreatDoorRGB
import Derived.StillTailTactics
import Derived.Test.YtkabcgmegljebaaGreatDoorRGA
set_option maxHeartbeats 8000000
set_option maxRecDepth 100000
set_option linter.unusedVariables false
set_option linter.unusedSimpArgs false
namespace Go.Proofs.YtkabcgmegljebaaGreatDoor.D
open Go.RowKit Go.Proofs.YtkabcgmegljebaaGreatDoorW.PrintWords Go.Proofs.YtkabcgmegljebaaGreatDoorW.PrintLast Go.Proofs.YtkabcgmegljebaaGreatDoorW.PrintMore
open Go.Proofs.YtkabcgmegljebaaGreatDoor.Q Go.Proofs.YtkabcgmegljebaaGreatDoor.H
theorem xjR (l : List Int) (hok : Ok l) (i : Nat) (hi : i ≤ l.length) : vl (l.drop i) = vl l / 4294967296 ^ i := by
 have h1 := xgK hok i
 have h2 : vl l = vl (l.take i) + 4294967296 ^ i * vl (l.drop i) := by
  conv => lhs; rw [← List.take_append_drop i l, xhK]
  rw [List.length_take, Nat.min_eq_left hi]
 rw [h2, Nat.add_mul_div_left _ _ (Nat.pow_pos (by decide)), Nat.div_eq_of_lt h1, Nat.zero_add]
theorem vl_mod (l : List Int) (hok : Ok l) (i : Nat) (hi : i ≤ l.length) : vl (l.take i) = vl l % 4294967296 ^ i := by
 have h1 := xgK hok i
 have h2 : vl l = vl (l.take i) + 4294967296 ^ i * vl (l.drop i) := by
  conv => lhs; rw [← List.take_append_drop i l, xhK]
  rw [List.length_take, Nat.min_eq_left hi]
 rw [h2, Nat.add_mul_mod_self_left, Nat.mod_eq_of_lt h1]
theorem xgA (l : List Int) (i : Nat) : vl (l.drop i) = (l.getD i 0).toNat + 4294967296 * vl (l.drop (i + 1)) := by
 by_cases h : i < l.length
 ·
  rw [List.drop_eq_getElem_cons h, vl, List.getD_eq_getElem?_getD, List.getElem?_eq_getElem h]; rfl
 ·
  rw [List.drop_eq_nil_of_le (by omega), List.drop_eq_nil_of_le (by omega), List.getD_eq_getElem?_getD, List.getElem?_eq_none (by omega)]; rfl
theorem xeN (k : Nat) : 2 ^ k = 4294967296 ^ (k / 32) * 2 ^ (k % 32) := by
  rw [show (4294967296 : Nat) = 2 ^ 32 by decide, ← Nat.pow_mul, ← Nat.pow_add]; congr 1; omega
theorem xgB {r : Nat} (h : r ≤ 31) : 2 ^ r * 2 ^ (32 - r) = 4294967296 := by
  rw [← Nat.pow_add, show r + (32 - r) = 32 by omega]
theorem sd_digit (a b t r : Nat) (h : r ≤ 31) : (a + 4294967296 * (b + 4294967296 * t)) / 2 ^ r % 4294967296 = (a + b * 4294967296) / 2 ^ r % 4294967296 := by
 have h1 := xgB h
 have h2 : a + 4294967296 * (b + 4294967296 * t) = (a + b * 4294967296) + 2 ^ r * (4294967296 * (2 ^ (32 - r) * t)) := by
  have e : 2 ^ r * (4294967296 * (2 ^ (32 - r) * t)) = 4294967296 * (4294967296 * t) := by
   rw [← Nat.mul_assoc (2 ^ r), Nat.mul_comm (2 ^ r) 4294967296, Nat.mul_assoc 4294967296, ← Nat.mul_assoc (2 ^ r), h1]
  rw [e]; omega
 rw [h2, Nat.add_mul_div_left _ _ (Nat.two_pow_pos r), Nat.add_mul_mod_self_left]
structure SdI (E : Nat) (out : List Int) (n i : Nat) : Prop where
 len : out.length = n
 ok : Ok out
 val : vl out = E % 4294967296 ^ i
 zero : ∀ j, i ≤ j → out.getD j 0 = 0
theorem sd0 (E n : Nat) : SdI E (List.replicate n 0) n 0 :=
  ⟨List.length_replicate, xfN _, by rw [xeR, Nat.pow_zero, Nat.mod_one], fun j _ => xfQ n j⟩
theorem sd_step {E n i z : Nat} {out : List Int} (h : SdI E out n i) (hi : i < n) (hz : z = E / 4294967296 ^ i % 4294967296) : SdI E (out.set i (z : Int)) n (i + 1) := by
 obtain ⟨hlen, hok, hval, hzero⟩ := h
 refine ⟨by rw [List.length_set]; exact hlen, xgZ hok (by omega) (by omega), ?_, fun j hj => ?_⟩
 ·
  have v1 := xfZ out i (z : Int) (by omega)
  rw [hzero i (Nat.le_refl _), Int.toNat_natCast, hval] at v1
  rw [Nat.pow_succ, Nat.mod_mul, ← hz, Nat.mul_comm (4294967296 ^ i) z]
  simpa using v1
 ·
  rw [xcT, if_neg (fun q => by omega)]; exact hzero j (by omega)
theorem sd_end {X k n : Nat} {out d : List Int} (h : SdI (X / 2 ^ k) out n n) (hok : Ok d) (hv : vl d = X) (hn : n + k / 32 = d.length) : Ok out ∧ out.length = n ∧ vl out = X / 2 ^ k := by
 refine ⟨h.ok, h.len, ?_⟩
 rw [h.val]
 apply Nat.mod_eq_of_lt
 have h1 := vl_lt hok
 rw [hv, ← hn, Nat.pow_add] at h1
 rw [xeN k, ← Nat.div_div_eq_div_mul]
 exact Nat.lt_of_le_of_lt (Nat.div_le_self _ _) (Nat.div_lt_of_lt_mul (by rw [Nat.mul_comm]; exact h1))
theorem sd_lost {d : List Int} {X k x : Nat} (hok : Ok d) (hv : vl d = X) (hk : k / 32 < d.length) (hx : d.getD (k / 32) 0 = (x : Int)) : X % 2 ^ k = vl (d.take (k / 32)) + 4294967296 ^ (k / 32) * (x % 2 ^ (k % 32)) := by
 rw [xeN k, Nat.mod_mul, ← hv, vl_mod d hok _ (by omega), ← xjR d hok _ (by omega), xgA, hx, Int.toNat_natCast]
 congr 2
 have h1 := xgB (r := k % 32) (by omega)
 rw [← h1, Nat.mul_assoc, Nat.add_mul_mod_self_left]
theorem shr_nat {x r : Nat} (hx : x < 18446744073709551616) (hr : r ≤ 31) : shr .u64 (x : Int) (r : Int) = ((x / 2 ^ r : Nat) : Int) := by
 unfold shr
 rw [Int.toNat_natCast, show min r (IntKind.bits .u64) = r from Nat.min_eq_left (by show r ≤ 64; omega)]
 rw [show ((2 : Int) ^ r) = ((2 ^ r : Nat) : Int) by push_cast; rfl]
 exact (Int.natCast_ediv ..).symm
theorem meas {a i q : Nat} (h : a + i = q) (hi : i < q) : q - (i + 1) < a := by omega
theorem meas2 {i q : Nat} (hi : i < q) : q - (i + 1) + (i + 1) = q := by omega
theorem sdl_step {d : List Int} {i x : Nat} {s : Bool} (hx : d.getD i 0 = (x : Int)) (hs : s = decide (vl (d.take i) ≠ 0)) : (s || ((x : Int) != 0)) = decide (vl (d.take (i + 1)) ≠ 0) := by
 rw [xcJ, hx, Int.toNat_natCast, hs]
 have hp : 0 < 4294967296 ^ i := Nat.pow_pos (by decide)
 by_cases h1 : vl (d.take i) = 0
 ·
  rw [h1, Nat.zero_add]
  by_cases h2 : x = 0
  ·
   subst h2; simp
  ·
   have h3 : x * 4294967296 ^ i ≠ 0 := Nat.mul_ne_zero h2 (by omega)
   have h4 : ((x : Int) != 0) = true := bne_iff_ne.2 (by omega)
   rw [h4, decide_eq_true h3, Bool.or_true]
 ·
  have h3 : vl (d.take i) + x * 4294967296 ^ i ≠ 0 := by omega
  rw [decide_eq_true h1, decide_eq_true h3]; rfl
theorem sd_facts1 {d : List Int} {A : Option Addr} {i q n : Nat} {w : World} (hok : Ok d) (hr : Kd.C (Kd.int .u64) w A n d) (hi : i < q) (hq : q < n) (hn : n ≤ 1000) :
  ∃ (x : Nat) (ad : Addr), A = some ad ∧ d.getD i 0 = (x : Int) ∧ w.cell? (ad.add i) = some (.int .u64 (x : Int)) ∧ i < n ∧ (IntKind.i64.wrap ((i : Int) + 1) = ((i + 1 : Nat) : Int) ∧ wrap64 (i : Int) = (i : Int)) := by
 have h1 := xcK hok i
 obtain ⟨ada, e1, c1⟩ := at_u hr i (by omega)
 refine ⟨(d.getD i 0).toNat, ada, e1, by omega, ?_, by omega, ⟨(wrap2 (by omega) (by omega)).1, (wrap2 rfl (by omega)).2⟩⟩
 rw [show ((d.getD i 0).toNat : Int) = d.getD i 0 by omega]; exact c1
theorem sd_facts2 {d : List Int} {A : Option Addr} {q r n k X : Nat} {s : Bool} {w : World} (hok : Ok d) (hr : Kd.C (Kd.int .u64) w A n d) (hqn : q < n) (hnl : n = d.length) (hq : q = k / 32) (hr0 : r = k % 32) (hv : vl d = X) (hs : s = decide (vl (d.take q) ≠ 0)) :
  ∃ (x p y : Nat) (ad : Addr), A = some ad ∧ w.cell? (ad.add q) = some (.int .u64 (x : Int)) ∧ IntKind.u64.wrap (2 ^ min r 64) = (p : Int) ∧ ¬ (p : Int) = 0 ∧ ((p : Int) == 0) = false ∧ (x : Int) % (p : Int) = (y : Int) ∧ (s || ((y : Int) != 0)) = decide (X % 2 ^ k ≠ 0) := by
 have h1 := xcK hok q
 obtain ⟨ada, e1, c1⟩ := at_u hr q hqn
 obtain ⟨x, hx⟩ : ∃ x : Nat, d.getD q 0 = (x : Int) := ⟨(d.getD q 0).toNat, by omega⟩
 obtain ⟨p1, p2⟩ := pow_s (s := r) (by omega)
 rw [hx] at c1
 have hl := sd_lost (k := k) hok hv (by omega) (by rw [← hq]; exact hx)
 rw [← hq, ← hr0] at hl
 refine ⟨x, 2 ^ r, x % 2 ^ r, ada, e1, c1, ?_, by omega, by rw [beq_eq_false_iff_ne]; omega, (Int.natCast_emod x (2 ^ r)).symm, ?_⟩
 ·
  rw [Nat.min_eq_left (by omega), show ((2 : Int) ^ r) = ((2 ^ r : Nat) : Int) by push_cast; rfl, u64_w (by omega) (by omega)]
 ·
  rw [hl, hs]
  have hp : 0 < 4294967296 ^ q := Nat.pow_pos (by decide)
  by_cases h1 : vl (d.take q) = 0
  ·
   rw [h1, Nat.zero_add]
   by_cases h2 : x % 2 ^ r = 0
   ·
    rw [h2]; simp
   ·
    have h3 : 4294967296 ^ q * (x % 2 ^ r) ≠ 0 := Nat.mul_ne_zero (by omega) h2
    have h4 : (((x % 2 ^ r : Nat) : Int) != 0) = true := bne_iff_ne.2 (by omega)
    rw [h4, decide_eq_true h3, Bool.or_true]
  ·
   have h3 : vl (d.take q) + 4294967296 ^ q * (x % 2 ^ r) ≠ 0 := by omega
   rw [decide_eq_true h1, decide_eq_true h3]; rfl
theorem sd_facts3 {d out : List Int} {A : Option Addr} {q r n m k X i : Nat} (c : Nat) {w : World} (h : SdI (X / 2 ^ k) out m i) (hi : i < m) (hok : Ok d) (hr : Kd.C (Kd.int .u64) w A n d) (hnl : n = d.length) (hm : m + q = n) (hq : q = k / 32) (hr0 : r = k % 32) (hv : vl d = X) (hn : n ≤ 1000) :
  ∃ (x y s v z j j1 : Nat) (ad : Addr), A = some ad ∧ w.cell? (ad.add j) = some (.int .u64 (x : Int)) ∧ Calls Tryz.prog 170 #[.slice A n c, .int .i64 (j1 : Int)] w.drew (fun e w' => e = .returned (.int .u64 (y : Int)) ∧ w' = w.drew) ∧
   (IntKind.i64.wrap ((i : Int) + (q : Int)) = (j : Int) ∧ wrap64 (j : Int) = (j : Int)) ∧ (IntKind.i64.wrap ((j : Int) + 1) = (j1 : Int) ∧ wrap64 (j1 : Int) = (j1 : Int)) ∧ j < n ∧ IntKind.u64.wrap ((y : Int) * 4294967296) = (y : Int) * 4294967296 ∧ IntKind.u64.wrap ((x : Int) + (y : Int) * 4294967296) = (s : Int) ∧ (s : Int) / 2 ^ min r 64 = (v : Int) ∧ (v : Int) % 4294967296 = (z : Int) ∧
   SdI (X / 2 ^ k) (out.set i (z : Int)) m (i + 1) ∧ (IntKind.i64.wrap ((i : Int) + 1) = ((i + 1 : Nat) : Int) ∧ wrap64 (i : Int) = (i : Int)) ∧ i < out.length := by
 have hx2 := xcK hok (i + q)
 obtain ⟨ad, e1, c1⟩ := at_u hr (i + q) (by omega)
 obtain ⟨x, hx⟩ : ∃ x : Nat, d.getD (i + q) 0 = (x : Int) := ⟨(d.getD (i + q) 0).toNat, by omega⟩
 rw [hx] at c1
 obtain ⟨y, hy2, hy, hcy⟩ := digit_n (l := d) (w := w.drew) c (i + q + 1) (Kd.xaQ (hnl ▸ hr) (xaK (Below.refl _ _))) hok
 rw [← hnl] at hcy
 have hlen := h.len
 have hs := shr_nat (x := x + y * 4294967296) (r := r) (by omega) (by omega)
 unfold shr at hs
 rw [Int.toNat_natCast] at hs
 have hst := sd_step (z := (x + y * 4294967296) / 2 ^ r % 4294967296) h hi (by
  rw [xeN k, ← Nat.div_div_eq_div_mul, Nat.div_div_eq_div_mul (X / 4294967296 ^ (k / 32)), Nat.mul_comm (2 ^ (k % 32)), ← Nat.div_div_eq_div_mul, Nat.div_div_eq_div_mul X, ← Nat.pow_add, ← hq, ← hr0, Nat.add_comm q i, ← hv, ← xjR d hok _ (by omega), xgA, xgA d (i + q + 1), hx, hy, Int.toNat_natCast, Int.toNat_natCast]
  exact (sd_digit x y _ r (by omega)).symm)
 refine ⟨x, y, x + y * 4294967296, _, _, i + q, i + q + 1, ad, e1, c1, hcy, ⟨(wrap2 (by omega) (by omega)).1, (wrap2 rfl (by omega)).2⟩, ⟨(wrap2 (by omega) (by omega)).1, (wrap2 rfl (by omega)).2⟩, by omega, ?_, ?_, hs, (Int.natCast_emod _ 4294967296).symm, hst, ⟨(wrap2 (by omega) (by omega)).1, (wrap2 rfl (by omega)).2⟩, by omega⟩
 ·
  exact u64_w (by omega) (by omega)
 ·
  rw [u64_w (by omega) (by omega)]; omega
theorem sd_in {k q r n m : Nat} {K : Int} (hK : K = (k : Int)) (hq : q = k / 32) (hr : r = k % 32) (hn : n ≤ 1000) (hk : k < 32 * n) (hm : m = n - q) :
  q < n ∧ K.tdiv 32 = (q : Int) ∧ K.tmod 32 = (r : Int) ∧ (wrap64 (q : Int) = (q : Int) ∧ IntKind.i64.wrap (q : Int) = (q : Int)) ∧ (wrap64 (r : Int) = (r : Int) ∧ IntKind.i64.wrap (r : Int) = (r : Int)) ∧
   IntKind.i64.wrap ((n : Int) - (q : Int)) = (m : Int) ∧ wrap64 (m : Int) = (m : Int) ∧ m ≤ 100000 ∧ ¬ (r : Int) < 0 ∧ IntKind.i64.wrap (32 * (n : Int)) = 32 * (n : Int) ∧ decide (32 * (n : Int) ≤ K) = false ∧ m + q = n := by
 refine ⟨by omega, by subst hK; rw [Int.tdiv_eq_ediv_of_nonneg (by omega)]; omega, by subst hK; rw [Int.tmod_eq_emod_of_nonneg (by omega)]; omega, (wrap2 (x := (q : Int)) rfl (by omega)).symm, (wrap2 (x := (r : Int)) rfl (by omega)).symm, (wrap2 (by omega) (by omega)).1, (wrap2 (x := (m : Int)) rfl (by omega)).2, by omega, by omega, ?_, decide_eq_false (by omega), by omega⟩
 rw [i64_w]; unfold wrap64; omega
theorem xhN (X k : Nat) (A : Option Addr) (c : Nat) (w : World) (hr : Kd.C (Kd.int .u64) w A (dg X).length (dg X)) (hl : (dg X).length ≤ 1000) :
  Calls Tryz.prog 171 #[.slice A (dg X).length c, .int .i64 (k : Int)] w fun e w' => ∃ A' c', e = .returned (.tuple #[.slice A' (dg (X / 2 ^ k)).length c', .bool (decide (X % 2 ^ k ≠ 0))]) ∧ DG w' w.heap.size A' c' (X / 2 ^ k) ∧ Below w.heap.size w w' := by
 have hok := ok_dg X;have hv := vl_dg X;have hlt := vl_lt hok
 have hd0 : (dg X).length = 0 ↔ X = 0 := by
  constructor
  ·
   intro h; have := List.eq_nil_of_length_eq_zero h; rw [this] at hv; exact hv.symm
  ·
   intro h; rw [h, dg0]; rfl
 obtain ⟨K, hK⟩ : ∃ K : Int, K = (k : Int) := ⟨_, rfl⟩
 rw [← hK]
 by_cases hge : 32 * (dg X).length ≤ k
 ·
  have hX : X < 2 ^ k := by
   rw [hv] at hlt
   refine Nat.lt_of_lt_of_le hlt ?_
   rw [show (4294967296 : Nat) = 2 ^ 32 by decide, ← Nat.pow_mul]
   exact Nat.pow_le_pow_right (by decide) hge
  rw [Nat.div_eq_of_lt hX, Nat.mod_eq_of_lt hX, dg0]
  generalize dg X = d at *
  obtain ⟨bb, hbb⟩ : ∃ bb, decide (X ≠ 0) = bb := ⟨_, rfl⟩
  have h1 : IntKind.i64.wrap (32 * (d.length : Int)) = 32 * (d.length : Int) := by rw [i64_w]; unfold wrap64; omega
  have h2 : decide (32 * (d.length : Int) ≤ K) = true := decide_eq_true (by omega)
  have h3 : decide (0 < (d.length : Int)) = decide (X ≠ 0) := by
   by_cases h : X = 0
   ·
    rw [decide_eq_false (by have := hd0.2 h; omega), decide_eq_false (by omega)]
   ·
    rw [decide_eq_true (by have := mt hd0.1 h; omega), decide_eq_true h]
  have h4 : decide (0 < d.length) = bb := by rw [← hbb, ← h3]; simp
  rw [hbb] at h3 ⊢
  have h5 : (32 * (d.length : Int) ≤ K) = True := eq_true (by omega)
  clear hr hl hok hv hlt hd0 hge hX hK hbb
  go_enter Tryz.func171, Tryz.ntmps171
  go_wp2_with fail
  go_ret2
  exact ⟨none, 0, rfl, by unfold DG; rw [dg0]; exact Sl.nil _ _ _ _ _, Below.refl _ _⟩
 ·
  generalize dg X = d at hr hl hok hv hge ⊢
  clear hlt hd0
  obtain ⟨n, hn⟩ : ∃ n, n = d.length := ⟨_, rfl⟩
  rw [← hn] at hr hl hge ⊢
  obtain ⟨q, hq⟩ : ∃ q, q = k / 32 := ⟨_, rfl⟩
  obtain ⟨r, hr0⟩ : ∃ r, r = k % 32 := ⟨_, rfl⟩
  obtain ⟨m, hm⟩ : ∃ m, m = n - q := ⟨_, rfl⟩
  obtain ⟨hqn, hq1, hq2, ⟨hqw, hqw2⟩, ⟨hrw, hrw2⟩, hm3, hm4, hm5, hr3, hn1, hn2, hmq⟩ := sd_in hK hq hr0 hl (by omega) hm
  have hmk := fun w' => xiU w' m hm5
  have hz := sd0 (X / 2 ^ k) m
  have Hr := am hr;have Hok := am hok;have Hv := am hv;have Hl := am hl;have Hq := am hq;have Hr0 := am hr0;have Hn := am hn;have Hm := am hm;have Hm5 := am hm5;have Hmq := am hmq;have Hz := am hz;clear hr hok hv hl hq hr0 hn hm hm5 hmq hz hK hge
  have hs0 : false = decide (vl (d.take 0) ≠ 0) := by simp [vl]
  have HS0 := am hs0;clear hs0
  go_enter Tryz.func171, Tryz.ntmps171
  go_wp2_with fail
  skip
  go_loopg [6, 7] q (fun kq v6 v7 w' => ∃ (i : Nat) (s : Bool), kq + i = q ∧ v7 = .int .i64 (i : Int) ∧ v6 = .bool s ∧ xaA (s = decide (vl (d.take i) ≠ 0)) ∧ w' = w)
  case atStart => exact ⟨0, false, by omega, rfl, rfl, HS0, rfl⟩
  case round =>
   clear HS0
   obtain ⟨i, s, hk, rfl, rfl, HS, rfl⟩ := hrel
   by_cases hil : i < q
   ·
    obtain ⟨x, ad, e, hx, hc1, hin, i1, i2⟩ := sd_facts1 Hok.out Hr.out hil hqn Hl.out
    subst e;have hst := sdl_step hx HS.out;have HST := am hst;have HKQ := am hk
    have hil2 : decide ((i : Int) < (q : Int)) = true := decide_eq_true (by omega)
    clear hst hk hx
    cases s with
    | true =>
     go_wp2_with fail
     go_roundg (q - (i + 1))
     case measure => exact meas HKQ.out hil
     case rel => exact ⟨i + 1, true, meas2 hil, by first | rfl | go_num, rfl, HST, rfl⟩
    | false =>
     go_wp2_with fail
     go_roundg (q - (i + 1))
     case measure => exact meas HKQ.out hil
     case rel => exact ⟨i + 1, _, meas2 hil, by first | rfl | go_num, rfl, HST, rfl⟩
   ·
    have hk0 : i = q := by omega
    subst hk0
    have hil2 : decide ((i : Int) < (i : Int)) = false := decide_eq_false (by omega)
    obtain ⟨x, p, y, ad, e, hc1, hp1, hp2, hp3, hp4, hf⟩ := sd_facts2 (k := k) Hok.out Hr.out hqn Hn.out Hq.out Hr0.out Hv.out HS.out
    subst e;clear hil hk;have HF := am hf;clear hf
    cases s
    all_goals
     go_wp2_with fail
     skip
     go_quiet (fail)
     go_wp2_with ((with_reducible refine xaJ (N := 50) rfl ?_); refine xjB ?hg (N := 50) ?hd m ?hr ?_; (case hd => rfl); (case hg => rfl); (case hr => first | (go_simp; done) | (go_simp; rfl)); intro bl w1 hb0 hub hbl; have HU := am hub; have HBL := am hbl; have HB0 := am hb0; clear hub hbl hb0)
     clear hm3 hm4 hmk hc1 hp1 hp2 hp3 hp4
     skip
     go_loopg [9] m (fun kq v9 w' => ∃ (j : Nat) (out : List Int), kq + j = m ∧ v9 = .int .i64 (j : Int) ∧ xaA (SdI (X / 2 ^ k) out m j) ∧ xaA (UB w' bl out) ∧ xaA (Below wr.heap.size wr w'))
     case atStart => exact ⟨0, List.replicate m 0, by omega, rfl, Hz, HU, ⟨Below.trans (xaG (Below.refl _ _) nq) HBL.out⟩⟩
     case round =>
      clear HU HBL
      obtain ⟨j, out, hk, rfl, HI, HU, HBL⟩ := hrel
      by_cases hjm : j < m
      ·
       obtain ⟨x1, y1, s1, v, z, a1, a2, ad1, e, c1, hd, ⟨i1, i2⟩, ⟨i3, i4⟩, hjn, u1, u2, u3, u4, hst, ⟨i5, i6⟩, hlt⟩ := sd_facts3 c HI.out hjm Hok.out (Kd.xaQ Hr.out HBL.out) Hn.out Hmq.out Hq.out Hr0.out Hv.out Hl.out
       injection e with e
       subst e
       obtain ⟨w2, hw2⟩ : ∃ w2, wr.drew = w2 := ⟨_, rfl⟩
       have HU2 : xaA (UB w2 bl out) := ⟨hw2 ▸ HU.out.drew 1⟩
       have HBL2 : xaA (Below _ _ w2) := ⟨hw2 ▸ xaK HBL.out⟩
       have hc2 := HU2.out.cell j hlt;have hf1 := HU2.out.frozen j
       generalize out.getD j 0 = zz at hc2
       have HST := am hst;have HKQ := am hk;have HD1 := am hd;clear hst hk hd hlt;have HW2 := am hw2;clear hw2
       go_wp2_with fail
       go_still_tail 23, (by kernel_rfl)
       still_call (HD1.out)
       repeat still_step
       refine wpStill_nil ?_
       change wpList _ _ _ _ _ wr.drew
       rw [HW2.out]
       go_wp2_with fail
       skip
       go_roundg (m - (j + 1))
       case measure => exact meas HKQ.out hjm
       case rel => exact ⟨j + 1, out.set j (z : Int), meas2 hjm, by first | rfl | go_num, HST, ⟨HU2.out.put j z⟩, ⟨xaF HBL2.out (Nat.le_of_eq HB0.out.symm)⟩⟩
      ·
       have hk0 : j = m := by clear HI HU HBL HF HS; omega
       subst hk0
       obtain ⟨e1, e2, e3⟩ := sd_end HI.out Hok.out Hv.out (by rw [← Hq.out, ← Hn.out]; exact Hmq.out)
       have HC := am (xfL HU.out e1 e2 e3 Hm5.out (Nat.le_of_eq HB0.out.symm))
       clear e1 e2 e3 hjm hk
       go_wp2_with (go_at_call 157; go_loud ((with_reducible refine (HC.out).mono ?_); rintro e w' ⟨rfl, hw_, HD⟩; obtain rfl := hw_.symm; have HDD := am HD; clear HD))
       go_ret2
       exact ⟨_, _, by rw [← HF.out]; rfl, HDD.out, HBL.out⟩
structure MuI (a b out : List Int) (i : Nat) : Prop where
 len : out.length = a.length + b.length + 1
 ok : Ok out
 val : vl out = vl (a.take i) * vl b
 zero : ∀ j, i + b.length ≤ j → out.getD j 0 = 0
structure MuJ (a b out : List Int) (i x k cy : Nat) : Prop where
 len : out.length = a.length + b.length + 1
 ok : Ok out
 car : cy < 4294967296
 val : vl out + cy * 4294967296 ^ (i + k) = vl (a.take i) * vl b + x * vl (b.take k) * 4294967296 ^ i
 zero : ∀ j, i + b.length ≤ j → out.getD j 0 = 0
theorem mu0 (a b : List Int) : MuI a b (List.replicate (a.length + b.length + 1) 0) 0 :=
  ⟨List.length_replicate, xfN _, by rw [xeR]; simp [vl], fun j _ => xfQ _ j⟩
theorem mu_start {a b out : List Int} {i : Nat} (h : MuI a b out i) (x : Nat) : MuJ a b out i x 0 0 :=
  ⟨h.len, h.ok, by omega, by rw [h.val]; simp [vl], h.zero⟩
theorem mu_step {a b out : List Int} {i x k cy o y s : Nat} (h : MuJ a b out i x k cy) (hi : i < a.length) (hk : k < b.length) (ho : out.getD (i + k) 0 = (o : Int)) (hy : b.getD k 0 = (y : Int)) (hs : s = o + x * y + cy) (hs2 : s < 18446744073709551616) :
  MuJ a b (out.set (i + k) ((s % 4294967296 : Nat) : Int)) i x (k + 1) (s / 4294967296) := by
 obtain ⟨hlen, hok, hcar, hval, hzero⟩ := h
 refine ⟨by rw [List.length_set]; exact hlen, xgZ hok (by omega) (by omega), by omega, ?_, fun j hj => ?_⟩
 ·
  have v1 := xfZ out (i + k) ((s % 4294967296 : Nat) : Int) (by omega)
  rw [ho, Int.toNat_natCast, Int.toNat_natCast] at v1
  rw [xcJ, hy, Int.toNat_natCast, ← Nat.add_assoc i k 1, Nat.pow_succ]
  have e : s * 4294967296 ^ (i + k) = s % 4294967296 * 4294967296 ^ (i + k) + s / 4294967296 * (4294967296 ^ (i + k) * 4294967296) := by
   conv => lhs; rw [show s = s % 4294967296 + 4294967296 * (s / 4294967296) by omega]
   rw [Nat.add_mul]; congr 1; simp only [Nat.mul_comm, Nat.mul_left_comm, Nat.mul_assoc]
  rw [hs, Nat.add_mul, Nat.add_mul, ← hs] at e
  have e2 : x * (vl (b.take k) + y * 4294967296 ^ k) * 4294967296 ^ i = x * vl (b.take k) * 4294967296 ^ i + x * y * 4294967296 ^ (i + k) := by
   rw [Nat.mul_add, Nat.add_mul, Nat.pow_add]; congr 1; simp only [Nat.mul_comm, Nat.mul_left_comm, Nat.mul_assoc]
  rw [e2]
  omega
 ·
  rw [xcT, if_neg (fun q => by omega)]; exact hzero j (by omega)
theorem mu_close {a b out : List Int} {i x cy : Nat} (h : MuJ a b out i x b.length cy) (hi : i < a.length) (hx : a.getD i 0 = (x : Int)) : out.getD (i + b.length) 0 = 0 ∧ MuI a b (out.set (i + b.length) (cy : Int)) (i + 1) := by
 obtain ⟨hlen, hok, hcar, hval, hzero⟩ := h
 have hz := hzero (i + b.length) (Nat.le_refl _)
 refine ⟨hz, by rw [List.length_set]; exact hlen, xgZ hok (by omega) (by omega), ?_, fun j hj => ?_⟩
 ·
  have v1 := xfZ out (i + b.length) (cy : Int) (by omega)
  rw [hz, Int.toNat_natCast] at v1
  rw [xcJ, hx, Int.toNat_natCast, Nat.add_mul]
  rw [List.take_length] at hval
  rw [show x * 4294967296 ^ i * vl b = x * vl b * 4294967296 ^ i by rw [Nat.mul_right_comm]]
  simp only [Int.toNat_zero, Nat.zero_mul, Nat.add_zero] at v1
  omega
 ·
  rw [xcT, if_neg (fun q => by omega)]; exact hzero j (by omega)
theorem mu_end {a b out : List Int} {X Y n : Nat} (h : MuI a b out a.length) (ha : vl a = X) (hb : vl b = Y) (hn : n = a.length + b.length + 1) : Ok out ∧ out.length = n ∧ vl out = X * Y :=
  ⟨h.ok, by rw [hn]; exact h.len, by rw [h.val, List.take_length, ha, hb]⟩
theorem mul_lt {x y o c : Nat} (hx : x < 4294967296) (hy : y < 4294967296) (ho : o < 4294967296) (hc : c < 4294967296) : x * y ≤ 18446744065119617025 ∧ o + x * y + c < 18446744073709551616 := by
  have h : x * y ≤ 4294967295 * 4294967295 := Nat.mul_le_mul (by omega) (by omega)
  omega
theorem mu_facts1 {a b out : List Int} {A : Option Addr} {i n : Nat} {w : World} (h : MuI a b out i) (hi : i < a.length) (ha : Ok a) (hra : Kd.C (Kd.int .u64) w A a.length a) (hn : n = a.length + b.length + 1) (hn5 : n ≤ 100000) :
  ∃ (x e : Nat) (ad : Addr), A = some ad ∧ x < 4294967296 ∧ a.getD i 0 = (x : Int) ∧ w.cell? (ad.add i) = some (.int .u64 (x : Int)) ∧ (IntKind.i64.wrap ((i : Int) + 1) = ((i + 1 : Nat) : Int) ∧ wrap64 (i : Int) = (i : Int)) ∧ e = i + b.length ∧ (IntKind.i64.wrap ((i : Int) + (b.length : Int)) = (e : Int) ∧ wrap64 (e : Int) = (e : Int)) ∧ e < n ∧ e < out.length := by
 have h1 := xcK ha i
 obtain ⟨ad, e1, c1⟩ := at_u hra i hi
 have hlen := h.len
 refine ⟨(a.getD i 0).toNat, i + b.length, ad, e1, by omega, by omega, ?_, ⟨(wrap2 (by omega) (by omega)).1, (wrap2 rfl (by omega)).2⟩, rfl, ⟨(wrap2 (by omega) (by omega)).1, (wrap2 rfl (by omega)).2⟩, by omega, by omega⟩
 rw [show ((a.getD i 0).toNat : Int) = a.getD i 0 by omega]; exact c1
theorem mu_facts2 {a b out : List Int} {A : Option Addr} {i x k cy n : Nat} {w : World} (h : MuJ a b out i x k cy) (hi : i < a.length) (hk : k < b.length) (hx : x < 4294967296) (hb : Ok b) (hrb : Kd.C (Kd.int .u64) w A b.length b) (hn : n = a.length + b.length + 1) (hn5 : n ≤ 100000) :
  ∃ (y o s z cy' j : Nat) (ad : Addr), A = some ad ∧ w.cell? (ad.add k) = some (.int .u64 (y : Int)) ∧ out.getD j 0 = (o : Int) ∧ j < n ∧ j < out.length ∧ (IntKind.i64.wrap ((i : Int) + (k : Int)) = (j : Int) ∧ wrap64 (j : Int) = (j : Int)) ∧
   IntKind.u64.wrap ((x : Int) * (y : Int)) = (x : Int) * (y : Int) ∧ IntKind.u64.wrap ((o : Int) + (x : Int) * (y : Int)) = (o : Int) + (x : Int) * (y : Int) ∧ IntKind.u64.wrap ((o : Int) + (x : Int) * (y : Int) + (cy : Int)) = (s : Int) ∧ (s : Int) % 4294967296 = (z : Int) ∧ IntKind.u64.wrap ((s : Int) / 4294967296) = (cy' : Int) ∧
   MuJ a b (out.set j (z : Int)) i x (k + 1) cy' ∧ (IntKind.i64.wrap ((k : Int) + 1) = ((k + 1 : Nat) : Int) ∧ wrap64 (k : Int) = (k : Int)) := by
 have h1 := xcK hb k
 obtain ⟨ad, e1, c1⟩ := at_u hrb k hk
 have h2 := xcK h.ok (i + k)
 have hlen := h.len;have hcar := h.car
 obtain ⟨y, hy⟩ : ∃ y : Nat, b.getD k 0 = (y : Int) := ⟨(b.getD k 0).toNat, by omega⟩
 obtain ⟨o, ho⟩ : ∃ o : Nat, out.getD (i + k) 0 = (o : Int) := ⟨(out.getD (i + k) 0).toNat, by omega⟩
 rw [hy] at c1 h1
 rw [ho] at h2
 obtain ⟨m1, m2⟩ := mul_lt hx (y := y) (o := o) (c := cy) (by omega) (by omega) hcar
 have hst := mu_step h hi hk ho hy rfl m2
 have e2 : (x : Int) * (y : Int) = ((x * y : Nat) : Int) := by push_cast; rfl
 have q1 : IntKind.u64.wrap ((x : Int) * (y : Int)) = (x : Int) * (y : Int) := by rw [e2]; exact u64_w (by omega) (by omega)
 have q2 : IntKind.u64.wrap ((o : Int) + (x : Int) * (y : Int)) = (o : Int) + (x : Int) * (y : Int) := by rw [e2]; exact u64_w (by omega) (by omega)
 have q3 : IntKind.u64.wrap ((o : Int) + (x : Int) * (y : Int) + (cy : Int)) = ((o + x * y + cy : Nat) : Int) := by rw [e2]; exact uwrap (by omega) (by omega)
 clear e2
 generalize hp : x * y = p at *
 exact ⟨y, o, o + p + cy, (o + p + cy) % 4294967296, (o + p + cy) / 4294967296, i + k, ad, e1, c1, ho, by omega, by omega, ⟨(wrap2 (by omega) (by omega)).1, (wrap2 rfl (by omega)).2⟩, q1, q2, q3, by omega, uwrap (by omega) (by omega), hst, ⟨(wrap2 (by omega) (by omega)).1, (wrap2 rfl (by omega)).2⟩⟩
theorem cell_x {l : List Int} {ad : Addr} {i n x : Nat} {w : World} (h : Kd.C (Kd.int .u64) w (some ad) n l) (hi : i < n) (hx : l.getD i 0 = (x : Int)) : w.cell? (ad.add i) = some (.int .u64 (x : Int)) := by
 obtain ⟨ad2, e, c⟩ := at_u h i hi
 injection e with e
 subst e
 rw [← hx]; exact c
theorem u_car {c : Nat} (h : c < 4294967296) : IntKind.u64.wrap (c : Int) = (c : Int) := u64_w (by omega) (by omega)
theorem mu_in {a b : List Int} {n : Nat} (hn : n = a.length + b.length + 1) (ha : a.length ≤ 1000) (hb : b.length ≤ 1000) :
  (IntKind.i64.wrap ((a.length : Int) + (b.length : Int)) = (a.length : Int) + (b.length : Int) ∧ wrap64 ((a.length : Int) + (b.length : Int)) = (a.length : Int) + (b.length : Int)) ∧ IntKind.i64.wrap ((a.length : Int) + (b.length : Int) + 1) = (n : Int) ∧ wrap64 (n : Int) = (n : Int) ∧ n ≤ 100000 := by
 refine ⟨?_, (wrap2 (by omega) (by omega)).1, (wrap2 rfl (by omega)).2, by omega⟩
 have h := wrap2 (x := (a.length : Int) + (b.length : Int)) (m := a.length + b.length) (by omega) (by omega)
 push_cast at h
 exact h
theorem mul_c (X Y : Nat) (Aa Ab : Option Addr) (ca cb : Nat) (w : World) (hra : Kd.C (Kd.int .u64) w Aa (dg X).length (dg X)) (hrb : Kd.C (Kd.int .u64) w Ab (dg Y).length (dg Y)) (hla : (dg X).length ≤ 1000) (hlb : (dg Y).length ≤ 1000) :
  Calls Tryz.prog 135 #[.slice Aa (dg X).length ca, .slice Ab (dg Y).length cb] w fun e w' => ∃ A' c', e = .returned (.slice A' (dg (X * Y)).length c') ∧ DG w' w.heap.size A' c' (X * Y) ∧ Below w.heap.size w w' := by
  have hoa := ok_dg X;have hva := vl_dg X;have hob := ok_dg Y;have hvb := vl_dg Y
  generalize dg X = a at hra hla hoa hva ⊢
  generalize dg Y = b at hrb hlb hob hvb ⊢
  obtain ⟨n, hn⟩ : ∃ n, n = a.length + b.length + 1 := ⟨_, rfl⟩
  obtain ⟨⟨hn1, hn2⟩, hn3, hn4, hn5⟩ := mu_in hn hla hlb
  have hmk := fun w' => xiU w' n hn5
  have hz := mu0 a b
  rw [← hn] at hz
  have Hra := am hra;have Hrb := am hrb;have Hla := am hla;have Hlb := am hlb;have Hoa := am hoa;have Hob := am hob;have Hva := am hva;have Hvb := am hvb;have Hn := am hn;have Hn5 := am hn5;have Hz := am hz;clear hra hrb hla hlb hoa hob hva hvb hn hn5 hz
  go_enter Tryz.func135, Tryz.ntmps135
  go_wp2_with ((with_reducible refine xaJ (N := 16) rfl ?_); refine xjB ?hg (N := 16) ?hd n ?hr ?_; (case hd => rfl); (case hg => rfl); (case hr => first | (go_simp; done) | (go_simp; rfl)); intro bl w1 hb0 hub hbl; have HU := am hub; have HBL := am hbl; have HB0 := am hb0; clear hub hbl hb0)
  clear hn1 hn2 hn3 hn4 hmk
  go_loopg [6, 7, 8, 9] a.length (fun kq v6 v7 v8 v9 w' => ∃ (i : Nat) (out : List Int), kq + i = a.length ∧ v6 = .int .i64 (i : Int) ∧ xaA (MuI a b out i) ∧ xaA (UB w' bl out) ∧ xaA (Below w.heap.size w w'))
  case atStart => exact ⟨0, List.replicate n 0, by omega, rfl, Hz, HU, HBL⟩
  case round =>
   clear HU HBL Hz
   obtain ⟨i, out, hk, rfl, HI, HU, HBL⟩ := hrel
   by_cases hil : i < a.length
   ·
    obtain ⟨x, ee, ad, e, hx2, hx, hc1, ⟨i1, i2⟩, hee, ⟨i3, i4⟩, hen, hel⟩ := mu_facts1 HI.out hil Hoa.out (Kd.xaQ Hra.out HBL.out) Hn.out Hn5.out
    subst e;have HX := am hx;have HX2 := am hx2;have HKQ := am hk;have HEE := am hee;have HEL := am hel
    have HJ := am (mu_start HI.out x)
    have HC1 := am hc1;clear hx hx2 hk hee hel hc1
    go_wp2_with fail
    skip
    go_loopg [7, 8, 9] b.length (fun kq v7 v8 v9 w' => ∃ (k cy : Nat) (out : List Int), kq + k = b.length ∧ v8 = .int .i64 (k : Int) ∧ v7 = .int .u64 (cy : Int) ∧ xaA (MuJ a b out i x k cy) ∧ xaA (UB w' bl out) ∧ xaA (Below w.heap.size w w'))
    case atStart => exact ⟨0, 0, out, by omega, rfl, rfl, HJ, HU, HBL⟩
    case round =>
     clear HU HBL HJ HI HC1 HEL
     obtain ⟨k, cy, out, hk, rfl, rfl, HJ, HU, HBL⟩ := hrel
     have hc0 := cell_x (Kd.xaQ Hra.out HBL.out) hil HX.out
     by_cases hkl : k < b.length
     ·
      obtain ⟨y, o, s, z, cy', j, adb, e, c1, ho, hjn, hjl, ⟨j1, j2⟩, u1, u2, u3, u4, u5, hst, ⟨j3, j4⟩⟩ := mu_facts2 HJ.out hil hkl HX2.out Hob.out (Kd.xaQ Hrb.out HBL.out) Hn.out Hn5.out
      subst e;have hc2 := HU.out.cell j hjl
      rw [ho] at hc2
      have hf1 := HU.out.frozen j;have HST := am hst;have HKK := am hk;clear hst hk ho hjl
      go_wp2_with fail
      go_quiet (fail)
      go_wp2_with fail
      skip
      go_roundg (b.length - (k + 1))
      case measure => exact meas HKK.out hkl
      case rel => exact ⟨k + 1, cy', out.set j (z : Int), meas2 hkl, by first | rfl | go_num, rfl, HST, ⟨(HU.out.drew _).put j z⟩, ⟨xaF (xaG HBL.out _) (Nat.le_of_eq HB0.out.symm)⟩⟩
     ·
      have hk0 : k = b.length := by clear HJ HU HBL; omega
      subst hk0
      obtain ⟨hz, hcl⟩ := mu_close HJ.out hil HX.out
      rw [← HEE.out] at hz hcl
      have hc2 := HU.out.cell ee (by rw [HJ.out.len, ← Hn.out]; exact hen)
      rw [hz] at hc2
      have hf1 := HU.out.frozen ee;have hcw := u_car HJ.out.car;have HCL := am hcl;clear hz hcl hkl hk
      go_wp2_with fail
      skip
      go_roundg (a.length - (i + 1))
      case measure => exact meas HKQ.out hil
      case rel => exact ⟨i + 1, out.set ee (cy : Int), meas2 hil, by first | rfl | go_num, HCL, ⟨HU.out.put ee cy⟩, ⟨xaF HBL.out (Nat.le_of_eq HB0.out.symm)⟩⟩
   ·
    have hk0 : i = a.length := by clear HI HU HBL; omega
    subst hk0
    obtain ⟨e1, e2, e3⟩ := mu_end HI.out Hva.out Hvb.out Hn.out
    have HC := am (xfL HU.out e1 e2 e3 Hn5.out (Nat.le_of_eq HB0.out.symm))
    clear e1 e2 e3 hil hk
    go_wp2_with (go_at_call 157; go_loud ((with_reducible refine (HC.out).mono ?_); rintro e w' ⟨rfl, hw_, HD⟩; obtain rfl := hw_.symm; have HDD := am HD; clear HD))
    go_ret
    exact ⟨_, _, rfl, HDD.out, HBL.out⟩
structure DvI (X Y R : Nat) (out : List Int) (n k : Nat) : Prop where
 len : out.length = n
 ok : Ok out
 val : vl out = X / 2 ^ k / Y * 2 ^ k
 rest : R = X / 2 ^ k % Y
theorem dv0 (X Y n : Nat) : DvI X Y 0 (List.replicate n 0) n (bl X) := by
 have h : X / 2 ^ bl X = 0 := by
  by_cases h0 : X = 0
  ·
   subst h0; exact Nat.zero_div _
  ·
   obtain ⟨k, h1, h2, h3⟩ := bl_rng h0
   rw [h1]; exact Nat.div_eq_of_lt h3
 exact ⟨List.length_replicate, xfN _, by rw [xeR, h, Nat.zero_div, Nat.zero_mul], by rw [h, Nat.zero_mod]⟩
theorem xkS (X k : Nat) : X / 2 ^ k = 2 * (X / 2 ^ (k + 1)) + X / 2 ^ k % 2 := by
  rw [Nat.pow_succ, ← Nat.div_div_eq_div_mul]; omega
theorem dv_less {X Y R b n k : Nat} {out : List Int} (h : DvI X Y R out n (k + 1)) (hY : 0 < Y) (hb : b = X / 2 ^ k % 2) (hlt : R * 2 + b < Y) : DvI X Y (R * 2 + b) out n k := by
 obtain ⟨hlen, hok, hval, hrest⟩ := h
 have h1 := xkS X k
 rw [← hb] at h1
 have h2 := Nat.div_add_mod (X / 2 ^ (k + 1)) Y
 rw [← hrest] at h2
 generalize X / 2 ^ (k + 1) / Y = M at *
 generalize X / 2 ^ (k + 1) = Q at *
 have h3 : X / 2 ^ k = (R * 2 + b) + Y * (2 * M) := by rw [h1, ← h2, Nat.mul_left_comm Y 2 M]; omega
 refine ⟨hlen, hok, ?_, ?_⟩
 ·
  rw [hval, h3, Nat.add_mul_div_left _ _ hY, Nat.div_eq_of_lt hlt, Nat.zero_add, Nat.pow_succ, Nat.mul_comm 2 M, Nat.mul_assoc, Nat.mul_comm 2]
 ·
  rw [h3, Nat.add_mul_mod_self_left, Nat.mod_eq_of_lt hlt]
theorem dv_digit {M k o : Nat} {out : List Int} (hok : Ok out) (hv : vl out = M * 2 ^ (k + 1)) (hk : k / 32 < out.length) (ho : out.getD (k / 32) 0 = (o : Int)) : o + 2 ^ (k % 32) < 4294967296 := by
 have h1 := xjR out hok (k / 32) (by omega)
 rw [xgA, ho, Int.toNat_natCast, hv, Nat.pow_succ, xeN k, show M * (4294967296 ^ (k / 32) * 2 ^ (k % 32) * 2) = 4294967296 ^ (k / 32) * (M * (2 ^ (k % 32) * 2)) by simp only [Nat.mul_comm, Nat.mul_left_comm, Nat.mul_assoc], Nat.mul_div_cancel_left _ (Nat.pow_pos (by decide))] at h1
 have h2 := xcK hok (k / 32)
 rw [ho] at h2
 have h3 := xgB (r := k % 32) (by omega)
 generalize vl (out.drop (k / 32 + 1)) = T at h1
 have h4 : o = (M * (2 ^ (k % 32) * 2)) % 4294967296 := by omega
 by_cases h5 : k % 32 = 31
 ·
  rw [h5] at h4 ⊢
  have h6 : (2 : Nat) ^ 31 * 2 = 4294967296 := by decide
  rw [h6, Nat.mul_mod_left] at h4
  have h7 : (2 : Nat) ^ 31 = 2147483648 := by decide
  omega
 ·
  have h6 := xgB (r := k % 32 + 1) (by omega)
  rw [Nat.pow_succ] at h6
  have h7 := Nat.two_pow_pos (k % 32)
  rw [Nat.mul_comm M, ← h6, Nat.mul_mod_mul_left] at h4
  have h8 := Nat.mod_lt M (Nat.two_pow_pos (32 - (k % 32 + 1)))
  generalize M % 2 ^ (32 - (k % 32 + 1)) = t at *
  have h9 : 2 ^ (k % 32) * 2 * (t + 1) ≤ 2 ^ (k % 32) * 2 * 2 ^ (32 - (k % 32 + 1)) := Nat.mul_le_mul_left _ h8
  rw [h6, Nat.mul_add, Nat.mul_one, ← h4] at h9
  omega
theorem dv_more {X Y R b n k o : Nat} {out : List Int} (h : DvI X Y R out n (k + 1)) (hY : 0 < Y) (hb : b = X / 2 ^ k % 2) (hge : Y ≤ R * 2 + b) (hk : k / 32 < n) (ho : out.getD (k / 32) 0 = (o : Int)) :
  DvI X Y (R * 2 + b - Y) (out.set (k / 32) ((o + 2 ^ (k % 32) : Nat) : Int)) n k := by
 obtain ⟨hlen, hok, hval, hrest⟩ := h
 have hdg := dv_digit (k := k) hok hval (by omega) ho
 have hRY : R < Y := by rw [hrest]; exact Nat.mod_lt _ hY
 have h1 := xkS X k
 rw [← hb] at h1
 have h2 := Nat.div_add_mod (X / 2 ^ (k + 1)) Y
 rw [← hrest] at h2
 generalize X / 2 ^ (k + 1) / Y = M at *
 generalize X / 2 ^ (k + 1) = Q at *
 have hb2 : b < 2 := by omega
 have e : Y * (2 * M + 1) = 2 * (Y * M) + Y := by rw [Nat.mul_add, Nat.mul_one, Nat.mul_left_comm]
 have h3 : X / 2 ^ k = (R * 2 + b - Y) + Y * (2 * M + 1) := by rw [h1, ← h2, e]; omega
 have hlt : R * 2 + b - Y < Y := by omega
 have ho2 := xcK hok (k / 32)
 rw [ho] at ho2
 have hps := xeN k
 generalize 2 ^ (k % 32) = p at hps hdg ⊢
 refine ⟨by rw [List.length_set]; exact hlen, xgZ hok (by omega) (by omega), ?_, ?_⟩
 ·
  have v1 := xfZ out (k / 32) ((o + p : Nat) : Int) (by omega)
  rw [ho, Int.toNat_natCast, Int.toNat_natCast, Nat.add_mul, Nat.mul_comm p, ← hps, hval] at v1
  rw [h3, Nat.add_mul_div_left _ _ hY, Nat.div_eq_of_lt hlt, Nat.zero_add, Nat.add_mul, Nat.one_mul]
  rw [Nat.pow_succ, show M * (2 ^ k * 2) = 2 * M * 2 ^ k by simp only [Nat.mul_comm, Nat.mul_left_comm, Nat.mul_assoc]] at v1
  omega
 ·
  rw [h3, Nat.add_mul_mod_self_left, Nat.mod_eq_of_lt hlt]
theorem dv_end {X Y R n : Nat} {out : List Int} (h : DvI X Y R out n 0) : Ok out ∧ out.length = n ∧ vl out = X / Y ∧ R = X % Y :=
  ⟨h.ok, h.len, by rw [h.val, Nat.pow_zero, Nat.div_one, Nat.mul_one], by rw [h.rest, Nat.pow_zero, Nat.div_one]⟩
theorem dv_bit {a : List Int} {X k x : Nat} (hok : Ok a) (hv : vl a = X) (hk : k / 32 < a.length) (hx : a.getD (k / 32) 0 = (x : Int)) : x / 2 ^ (k % 32) % 2 = X / 2 ^ k % 2 := by
 rw [xeN k, ← Nat.div_div_eq_div_mul, ← hv, ← xjR a hok _ (by omega), xgA, hx, Int.toNat_natCast]
 have h1 := xgB (r := k % 32) (by omega)
 have h2 : 2 ^ (32 - k % 32) = 2 * 2 ^ (31 - k % 32) := by rw [Nat.mul_comm, ← Nat.pow_succ]; congr 1; omega
 rw [← h1, h2, Nat.mul_assoc, Nat.add_mul_div_left _ _ (Nat.two_pow_pos _), Nat.mul_assoc, Nat.add_mul_mod_self_left]
theorem bl_len (X k : Nat) (h : k < bl X) : k / 32 < (dg X).length := by
 have h0 : X ≠ 0 := by intro e; subst e; rw [bl0] at h; omega
 have h1 := vl_lt (ok_dg X)
 rw [vl_dg] at h1
 have h2 : bl X ≤ 32 * (dg X).length := bl_le (by rw [Nat.pow_mul]; exact h1)
 omega
theorem one_at (w : World) : Kd.C (Kd.int .u64) (w.alloc (.cells #[.int .u64 1] 74)) (some ⟨w.heap.size, 0, none⟩) (dg 1).length (dg 1) := by
 have hu : UB (w.alloc (.cells #[.int .u64 1] 74)) w.heap.size [1] := xbF w (.cells #[.int .u64 1] 74)
 have e : dg 1 = [1] := by rw [dg_one (by decide) (by decide)]; rfl
 rw [e]
 exact (hu.sl (Nat.le_refl _) (by simp)).C
theorem nil_at (w : World) : Kd.C (Kd.int .u64) w none (dg 0).length (dg 0) := by
  rw [dg0]; exact (Sl.nil _ 74 w w.heap.size (fun _ => True)).C
theorem dv_r {X Y R n k m : Nat} {out : List Int} (h : DvI X Y R out n k) (hY : 0 < Y) (hl : (dg Y).length ≤ m) : (dg R).length ≤ m ∧ (dg (R * 2)).length ≤ m + 1 ∧ (dg (R * 2 + 1)).length ≤ m + 1 := by
 have h1 : R < Y := by rw [h.rest]; exact Nat.mod_lt _ hY
 have h2 := vl_lt (ok_dg Y)
 rw [vl_dg] at h2
 have h3 : Y < 4294967296 ^ m := Nat.lt_of_lt_of_le h2 (Nat.pow_le_pow_right (by decide) hl)
 have h4 : 4294967296 ^ (m + 1) = 4294967296 ^ m * 4294967296 := Nat.pow_succ ..
 exact ⟨dg_le (by omega), dg_le (by omega), dg_le (by omega)⟩
theorem dv_facts1 {a : List Int} {X k n : Nat} {I : Int} {ad : Addr} {w : World} (hok : Ok a) (hv : vl a = X) (hra : Kd.C (Kd.int .u64) w (some ad) n a) (hn : n = a.length) (hkn : k / 32 < n) (hI : I = (k : Int)) (hn5 : n ≤ 1000) :
  ∃ x v b q r : Nat, w.cell? (ad.add q) = some (.int .u64 (x : Int)) ∧ q = k / 32 ∧ r = k % 32 ∧ q < n ∧ I.tdiv 32 = (q : Int) ∧ I.tmod 32 = (r : Int) ∧ (wrap64 (q : Int) = (q : Int) ∧ IntKind.i64.wrap (q : Int) = (q : Int)) ∧ (wrap64 (r : Int) = (r : Int) ∧ IntKind.i64.wrap (r : Int) = (r : Int)) ∧ ¬ (r : Int) < 0 ∧ (x : Int) / 2 ^ min r 64 = (v : Int) ∧ (v : Int) % 2 = (b : Int) ∧ b = X / 2 ^ k % 2 := by
 have h1 := xcK hok (k / 32)
 obtain ⟨x, hx⟩ : ∃ x : Nat, a.getD (k / 32) 0 = (x : Int) := ⟨(a.getD (k / 32) 0).toNat, by omega⟩
 have hc := cell_x hra hkn hx
 have hs := shr_nat (x := x) (r := k % 32) (by omega) (by omega)
 unfold shr at hs
 rw [Int.toNat_natCast] at hs
 have hb := dv_bit hok hv (by omega) hx
 exact ⟨x, x / 2 ^ (k % 32), x / 2 ^ (k % 32) % 2, k / 32, k % 32, hc, rfl, rfl, hkn, by subst hI; rw [Int.tdiv_eq_ediv_of_nonneg (by omega)]; omega, by subst hI; rw [Int.tmod_eq_emod_of_nonneg (by omega)]; omega, (wrap2 (x := ((k / 32 : Nat) : Int)) rfl (by omega)).symm, (wrap2 (x := ((k % 32 : Nat) : Int)) rfl (by omega)).symm, by omega, hs, (Int.natCast_emod _ 2).symm, hb⟩
theorem dg_put {w w6 : World} {base bk q : Nat} {A : Option Addr} {c n : Nat} {v : Value} (h : DG w base A c n) (hb : bk < base) (hw : Below w.heap.size w w6) : Kd.C (Kd.int .u64) (w6.setCell ⟨bk, q, none⟩ v) A (dg n).length (dg n) := by
  have h1 : Sl (Kd.int .u64) 74 w base (fun k => k ≠ bk) A c (dg n) := ⟨h.le, h.lim, h.row.imp_right (fun ⟨b, off, cur, inner, h1, h2, h3, h4⟩ => ⟨b, off, cur, inner, h1, by omega, h3, h4⟩)⟩
  exact ((h1.below hw).frame (w1 := w6.setCell ⟨bk, q, none⟩ v) (fun k hk _ => Below.heap_setCell w6 ⟨bk, q, none⟩ v k hk)).C
theorem dv_facts2 {X Y R b n k q r : Nat} {out : List Int} (h : DvI X Y R out n (k + 1)) (hY : 0 < Y) (hb : b = X / 2 ^ k % 2) (hge : Y ≤ R * 2 + b) (hk : k / 32 < n) (hq : q = k / 32) (hr : r = k % 32) :
  ∃ o p z : Nat, out.getD q 0 = (o : Int) ∧ IntKind.u64.wrap (2 ^ min r 64) = (p : Int) ∧ IntKind.u64.wrap ((o : Int) + (p : Int)) = (z : Int) ∧ DvI X Y (R * 2 + b - Y) (out.set q (z : Int)) n k := by
 have h2 := xcK h.ok q;have hlen := h.len
 obtain ⟨o, ho⟩ : ∃ o : Nat, out.getD q 0 = (o : Int) := ⟨(out.getD q 0).toNat, by omega⟩
 rw [hq] at ho
 have hm := dv_more h hY hb hge hk ho
 have hd := dv_digit h.ok h.val (by omega) ho
 rw [← hq, ← hr] at hm
 rw [← hr] at hd
 rw [← hq] at ho
 obtain ⟨p, hp⟩ : ∃ p, p = 2 ^ r := ⟨_, rfl⟩
 rw [← hp] at hm hd
 refine ⟨o, p, o + p, ho, ?_, ?_, hm⟩
 ·
  rw [Nat.min_eq_left (by omega), show ((2 : Int) ^ r) = (p : Int) by rw [hp]; push_cast; rfl, u64_w (by omega) (by omega)]
 ·
  exact uwrap (by push_cast; rfl) (by omega)
theorem div_c (X Y : Nat) (Aa Ab : Option Addr) (ca cb : Nat) (w : World) (hra : Kd.C (Kd.int .u64) w Aa (dg X).length (dg X)) (hrb : Kd.C (Kd.int .u64) w Ab (dg Y).length (dg Y)) (hla : (dg X).length ≤ 900) (hlb : (dg Y).length ≤ 900) (hY : 0 < Y) :
  Calls Tryz.prog 131 #[.slice Aa (dg X).length ca, .slice Ab (dg Y).length cb] w fun e w' => ∃ A1 c1 A2 c2, e = .returned (.tuple #[.slice A1 (dg (X / Y)).length c1, .slice A2 (dg (X % Y)).length c2]) ∧ DG w' w.heap.size A1 c1 (X / Y) ∧ Below w.heap.size w w' := by
  have hoa := ok_dg X;have hva := vl_dg X
  have hlen := fun w' (hb : Below w.heap.size w w') => len_c X Aa ca w' (Kd.xaQ hra hb) (by omega)
  have hbn := bl_len X
  have hbl := bl_le (n := X) (k := 32 * (dg X).length) (by rw [Nat.pow_mul]; have h := vl_lt (ok_dg X); rw [vl_dg] at h; exact h)
  obtain ⟨n, hn⟩ : ∃ n, n = (dg X).length := ⟨_, rfl⟩
  generalize ha : dg X = a at hra hla hoa hva hlen hbn hbl hn ⊢
  rw [← hn] at hra hla hlen hbn hbl ⊢
  have hn5 : n ≤ 100000 := by omega
  have hmk := fun w' => xiU w' n hn5
  have hz := dv0 X Y n
  obtain ⟨nb, hnb⟩ : ∃ nb, nb = bl X := ⟨_, rfl⟩
  obtain ⟨I0, hI0⟩ : ∃ I : Int, I = (nb : Int) - 1 := ⟨_, rfl⟩
  have hw0 : IntKind.i64.wrap ((nb : Int) - 1) = I0 := by rw [hI0, i64_w]; unfold wrap64; omega
  rw [← hnb] at hz hbn
  simp only [← hnb] at hlen
  rw [← hnb] at hbl
  have HBN := am hbn;have HBL0 := am hbl;have HLEN := am hlen;clear hbn hbl hlen hnb ha;have Hra := am hra;have Hrb := am hrb;have Hla := am hla;have Hlb := am hlb;have Hoa := am hoa;have Hva := am hva;have Hn := am hn;have Hn5 := am hn5;have Hz := am hz;have HI0 := am hI0;have HY := am hY;clear hra hrb hla hlb hoa hva hn hn5 hz hI0 hY
  go_enter Tryz.func131, Tryz.ntmps131
  go_wp2_with (first | ((with_reducible refine xaJ (N := 11) rfl ?_); refine xjB ?hg (N := 11) ?hd n ?hr ?_; (case hd => rfl); (case hg => rfl); (case hr => first | (go_simp; done) | (go_simp; rfl)); intro bk w1 hb0 hub hbl; have HU := am hub; have HBL := am hbl; have HB0 := am hb0; clear hub hbl hb0) | (go_at_call 130; go_loud ((with_reducible refine (HLEN.out _ HBL.out).mono ?_); rintro e w' ⟨rfl, hw_⟩; obtain rfl := hw_.symm)))
  clear hw0 hmk
  go_loopg [6, 8] nb (fun kq v6 v8 w' => ∃ (R c : Nat) (Ar : Option Addr) (out : List Int) (I : Int), v6 = .slice Ar (dg R).length c ∧ v8 = .int .i64 I ∧ kq ≤ nb ∧ xaA (I = (kq : Int) - 1) ∧ xaA (DvI X Y R out n kq) ∧ xaA (Kd.C (Kd.int .u64) w' Ar (dg R).length (dg R)) ∧ xaA (UB w' bk out) ∧ xaA (Below w.heap.size w w'))
  case atStart => exact ⟨0, 0, none, List.replicate n 0, I0, by rw [dg0]; rfl, rfl, Nat.le_refl _, HI0, Hz, ⟨nil_at _⟩, HU, HBL⟩
  case round =>
   clear HU HBL Hz HI0
   obtain ⟨R, cr, Ar, out, I, rfl, rfl, hkn, HI, HD, HR, HU, HBL⟩ := hrel
   cases gk with
   | zero =>
    have hI : I = -1 := by have := HI.out; omega
    subst hI
    obtain ⟨e1, e2, e3, e4⟩ := dv_end HD.out
    have HC := am (xfL HU.out e1 e2 e3 Hn5.out (Nat.le_of_eq HB0.out.symm))
    subst e4;clear e1 e2 e3
    go_wp2_with (go_at_call 157; go_loud ((with_reducible refine (HC.out).mono ?_); rintro e w' ⟨rfl, hw_, HD⟩; obtain rfl := hw_.symm; have HDD := am HD; clear HD))
    go_ret2
    exact ⟨_, _, _, _, rfl, HDD.out, HBL.out⟩
   | succ k =>
    have hI : I = (k : Int) := by have := HI.out; omega
    have hkq := HBN.out k hkn;have HI2 := am hI
    have hI3 : (I < 0) = False := eq_false (by omega)
    have hI4 : decide (I < 0) = false := decide_eq_false (by omega)
    have hI5 : decide (0 ≤ I) = true := decide_eq_true (by omega)
    obtain ⟨r1, r2, r3⟩ := dv_r HD.out HY.out Hlb.out
    have hsu := xhM R 1 Ar cr wr HR.out (by omega) (by omega)
    rw [Nat.pow_one] at hsu
    have HSU : xaA (Calls Tryz.prog 132 #[.slice Ar (dg R).length cr, .int .i64 1] wr fun e w' => ∃ A' c', e = .returned (.slice A' (dg (R * 2)).length c') ∧ DG w' wr.heap.size A' c' (R * 2) ∧ Below wr.heap.size wr w') := ⟨hsu⟩
    have HR2 := am r2;have HR3 := am r3;clear hsu r1 r2 r3 hI HI
    go_upto_region 7 with (go_at_call 132; go_loud ((with_reducible refine (HSU.out).mono ?_); rintro e w2 ⟨A2, c2, rfl, hd, hb⟩; have HRR := am hd.C; have HB2 := am hb; clear hd hb))
    have HU2 : xaA (UB w2 bk out) := ⟨HU.out.below HB2.out⟩
    have HBL2 : xaA (Below w.heap.size w w2) := ⟨xaC HBL.out HB2.out⟩
    cases Aa with
    | none =>
     obtain ⟨ad, e, _⟩ := at_u Hra.out (k / 32) hkq
     cases e
    | some ad =>
    obtain ⟨x, v, b, q, r, hc1, hq, hr0, hqn, q1, q2, ⟨q3, q4⟩, ⟨q5, q6⟩, q7, u1, u2, hb⟩ := dv_facts1 (k := k) Hoa.out Hva.out (Kd.xaQ Hra.out HBL2.out) Hn.out hkq HI2.out (by have := Hla.out; omega)
    have HBB := am hb;have HQQ := am hq;have HRR0 := am hr0;clear HU HBL HR HSU HB2
    have hb2 : b = 1 ∨ b = 0 := by rw [hb]; clear HBB; omega
    have HB2' := am hb2;clear hb hq hr0 hb2 hI3 hI4 hI5;have HQ4 := am q4;have HQ6 := am q6;clear q4 q6
    go_upto_if 30 with fail
    skip
    go_cut [6] from 21 to 33 (fun v6 w' => ∃ (A : Option Addr) (c : Nat), v6 = .slice A (dg (R * 2 + b)).length c ∧ xaA (Kd.C (Kd.int .u64) w' A (dg (R * 2 + b)).length (dg (R * 2 + b))) ∧ xaA (Below w2.heap.size w2 w'))
    case first =>
     rcases HB2'.out with rfl | rfl
     ·
      have had := add_c (R * 2) 1 A2 (some ⟨w2.heap.size, 0, none⟩) c2 1 (w2.alloc (.cells #[.int .u64 1] 74)) (Kd.xaQ HRR.out (xaH (Below.refl _ _) _)) (one_at w2) (by have := HR2.out; omega) (by rw [dg_one (by decide) (by decide)]; exact Nat.le_of_ble_eq_true rfl)
      have HAD : xaA (Calls Tryz.prog 154 #[.slice A2 (dg (R * 2)).length c2, .slice (some ⟨w2.heap.size, 0, none⟩) 1 1] (w2.alloc (.cells #[.int .u64 1] 74)) fun e w' => ∃ A' c', e = .returned (.slice A' (dg (R * 2 + 1)).length c') ∧ DG w' (w2.alloc (.cells #[.int .u64 1] 74)).heap.size A' c' (R * 2 + 1) ∧ Below (w2.alloc (.cells #[.int .u64 1] 74)).heap.size (w2.alloc (.cells #[.int .u64 1] 74)) w') := ⟨by
       have e1 : (dg 1).length = 1 := by rw [dg_one (by decide) (by decide)]; rfl
       rw [e1] at had; exact had⟩
      clear had
      go_wp2_with (go_at_call 154; go_loud ((with_reducible refine (HAD.out).mono ?_); rintro e w3 ⟨A3, c3, rfl, hd, hb⟩; have HR3A := am hd.C; have HB3 := am hb; clear hd hb))
      go_meet
      case rel => exact ⟨A3, c3, rfl, HR3A, ⟨xaC (xaH (Below.refl _ _) _) HB3.out⟩⟩
     ·
      go_wp2_with fail
      go_meet
      case rel => exact ⟨A2, c2, rfl, HRR, ⟨Below.refl _ _⟩⟩
    case rest =>
     obtain ⟨A3, c3, rfl, HR3A, HB3⟩ := hcut
     clear hc1 u1 u2 HRR
     obtain ⟨b0, hb0⟩ : ∃ b0, b0 = R * 2 + b := ⟨_, rfl⟩
     have HB0B := am hb0
     rw [← hb0] at HR3A ⊢
     have hrl : (dg b0).length ≤ 1000 := by
      have h1 := HR2.out;have h2 := HR3.out
      rcases HB2'.out with rfl | rfl
      ·
       rw [hb0]; omega
      ·
       rw [hb0, Nat.add_zero]; omega
     have hcm := cmp_c b0 Y A3 Ab c3 cb wc HR3A.out (Kd.xaQ Hrb.out (xaC HBL2.out HB3.out)) hrl
     have HCM := am hcm
     have HBL3 : xaA (Below w.heap.size w wc) := ⟨xaC HBL2.out HB3.out⟩
     have HU3 : xaA (UB wc bk out) := ⟨HU2.out.below HB3.out⟩
     have HRL := am hrl
     have hkm : IntKind.i64.wrap (I - 1) = I - 1 := by rw [i64_w]; unfold wrap64; have := HI2.out; have := HBL0.out; have := Hla.out; clear hcm HU3 HBL3 HCM HR3A; omega
     have HKM := am hkm;clear hcm hrl hb0 HB3 HU2 HBL2 hkm
     by_cases hge : Y ≤ b0
     ·
      have hcv : decide (0 ≤ cmpv b0 Y) = true := decide_eq_true (by unfold cmpv; rw [if_neg (by omega)]; split <;> decide)
      have hcv2 : 0 ≤ cmpv b0 Y := of_decide_eq_true hcv
      generalize cmpv b0 Y = cv at hcv hcv2 HCM
      skip
      go_upto_if 37 with (go_at_call 155; go_loud ((with_reducible refine (HCM.out).mono ?_); rintro e w4 ⟨rfl, m4, rfl⟩))
      have HSB := am (sub_c b0 Y A3 Ab c3 cb (wc.drewN m4) (Kd.xaQ HR3A.out (xaG (Below.refl _ _) _)) (Kd.xaQ Hrb.out (xaG HBL3.out _)) HRL.out hge)
      go_upto_region 11 with (go_at_call 156; go_loud ((with_reducible refine (HSB.out).mono ?_); rintro e w5 ⟨A5, c5, rfl, hd, hb⟩; have HR5 := am hd; have HB5 := am hb; clear hd hb))
      obtain ⟨o, p, z, ho, hp, hz, hst⟩ := dv_facts2 HD.out HY.out HBB.out (by rw [← HB0B.out]; exact hge) hkq HQQ.out HRR0.out
      rw [← HB0B.out] at hst
      obtain ⟨w6, hw6⟩ : ∃ w6, w5.drew = w6 := ⟨_, rfl⟩
      have HU6 : xaA (UB w6 bk out) := ⟨hw6 ▸ ((HU3.out.drew m4).below HB5.out).drew 1⟩
      have HBL6 : xaA (Below w.heap.size w w6) := ⟨hw6 ▸ xaK (xaC (xaG HBL3.out m4) HB5.out)⟩
      have HR6 : xaA (Kd.C (Kd.int .u64) (w6.setCell ⟨bk, q, none⟩ (.int .u64 (z : Int))) A5 (dg (b0 - Y)).length (dg (b0 - Y))) := ⟨dg_put HR5.out (xaM (HU3.out.drew m4)) (hw6 ▸ xaK (Below.refl _ _))⟩
      have hc2 := HU6.out.cell q (by rw [HD.out.len]; exact hqn)
      rw [ho] at hc2
      have hf1 := HU6.out.frozen q;have HST := am hst;have HW6 := am hw6
      have hc3 : w5.cell? ⟨bk, q, none⟩ = some (.int .u64 (o : Int)) := by
       have := (((HU3.out.drew m4).below HB5.out)).cell q (by rw [HD.out.len]; exact hqn)
       rw [ho] at this; exact this
      clear hst hw6 ho HR5 HR3A HU3 HBL3 HB5 HSB HCM HRL
      have q8 : (0 : Int) ≤ (r : Int) := Int.natCast_nonneg _
      have hkm := HKM.out;have q4 := HQ4.out;have q6 := HQ6.out
      skip
      go_still_tail 13, (by kernel_rfl)
      skip
      change wpList _ _ _ _ _ w5.drew
      rw [HW6.out]
      clear q4 q6
      go_wp2_with fail
      skip
      go_roundg k
      case measure => exact Nat.lt_succ_self k
      case rel => exact ⟨b0 - Y, c5, A5, out.set q (z : Int), I - 1, rfl, by first | rfl | go_num, Nat.le_of_succ_le hkn, ⟨by rw [HI2.out]⟩, HST, HR6, ⟨HU6.out.put q z⟩, ⟨xaF HBL6.out (Nat.le_of_eq HB0.out.symm)⟩⟩
     ·
      have hcv : decide (0 ≤ cmpv b0 Y) = false := decide_eq_false (by rw [xkM (by omega)]; decide)
      have hcv2 : cmpv b0 Y < 0 := by rw [xkM (by omega)]; decide
      have HST := am (dv_less HD.out HY.out HBB.out (by rw [← HB0B.out]; omega))
      rw [← HB0B.out] at HST
      generalize cmpv b0 Y = cv at hcv hcv2 HCM
      have hkm := HKM.out
      go_wp2_with (go_at_call 155; go_loud ((with_reducible refine (HCM.out).mono ?_); rintro e w4 ⟨rfl, m4, rfl⟩))
      skip
      go_roundg k
      case measure => exact Nat.lt_succ_self k
      case rel => exact ⟨b0, c3, A3, out, I - 1, rfl, by first | rfl | go_num, Nat.le_of_succ_le hkn, ⟨by rw [HI2.out]⟩, HST, ⟨Kd.xaQ HR3A.out (xaG (Below.refl _ _) _)⟩, ⟨HU3.out.drew _⟩, ⟨xaG HBL3.out _⟩⟩
theorem two_dig {n : Nat} (h : n < 18446744073709551616) : ∃ x y : Nat, (dg n).getD 0 0 = (x : Int) ∧ (dg n).getD 1 0 = (y : Int) ∧ x < 4294967296 ∧ y < 4294967296 ∧ x + y * 4294967296 = n := by
 by_cases h0 : n = 0
 ·
  subst h0; rw [dg0]; exact ⟨0, 0, rfl, rfl, by omega, by omega, rfl⟩
 ·
  rw [dgS h0]
  by_cases h1 : n / 4294967296 = 0
  ·
   rw [h1, dg0]; exact ⟨n % 4294967296, 0, rfl, rfl, by omega, by omega, by omega⟩
  ·
   rw [dgS h1]; exact ⟨n % 4294967296, n / 4294967296 % 4294967296, rfl, rfl, by omega, by omega, by omega⟩
theorem bl_lt (n : Nat) : n < 2 ^ bl n := by
 by_cases h : n = 0
 ·
  subst h; rw [bl0]; decide
 ·
  obtain ⟨k, h1, h2, h3⟩ := bl_rng h
  rw [h1]; exact h3
def lsbOf (D : Nat) (e : Int) : Int := max ((bl D : Int) - 53 + e) (-1074)
def rndN (D s : Nat) (more : Bool) : Nat := if D / 2 ^ (s - 1) % 2 = 1 ∧ (D % 2 ^ (s - 1) ≠ 0 ∨ more = true ∨ D / 2 ^ s % 2 = 1) then D / 2 ^ s + 1 else D / 2 ^ s
def rnd (D : Nat) (e : Int) (more : Bool) : Nat :=
  if lsbOf D e ≤ e then (lsbOf D e + 1074).toNat * 4503599627370496 + D * 2 ^ (e - lsbOf D e).toNat
  else (lsbOf D e + 1074).toNat * 4503599627370496 + rndN D (lsbOf D e - e).toNat more
theorem rnd_up {D : Nat} {e : Int} (h : lsbOf D e ≤ e) : D * 2 ^ (e - lsbOf D e).toNat < 9007199254740992 := by
 have h1 := bl_lt D
 have h2 : D * 2 ^ (e - lsbOf D e).toNat < 2 ^ bl D * 2 ^ (e - lsbOf D e).toNat := Nat.mul_lt_mul_of_pos_right h1 (Nat.two_pow_pos _)
 rw [← Nat.pow_add] at h2
 have h3 : (2 : Nat) ^ 53 = 9007199254740992 := by decide
 rw [← h3]
 exact Nat.lt_of_lt_of_le h2 (Nat.pow_le_pow_right (by decide) (by unfold lsbOf at *; omega))
theorem xjU {D : Nat} {e : Int} (h : ¬ lsbOf D e ≤ e) : D / 2 ^ (lsbOf D e - e).toNat < 9007199254740992 := by
 apply Nat.div_lt_of_lt_mul
 have h1 := bl_lt D
 have h2 : 2 ^ bl D ≤ 2 ^ (lsbOf D e - e).toNat * 2 ^ 53 := by
  rw [← Nat.pow_add]
  refine Nat.pow_le_pow_right (by decide) ?_
  unfold lsbOf at *
  omega
 exact Nat.lt_of_lt_of_le h1 h2
theorem xkF {D : Nat} {e : Int} (h1 : (bl D : Int) + e ≤ 1100) : 0 ≤ lsbOf D e + 1074 ∧ lsbOf D e + 1074 ≤ 2121 := by
  unfold lsbOf; omega
theorem dig2 {n : Nat} {A : Option Addr} (c : Nat) {w : World} (h : Kd.C (Kd.int .u64) w A (dg n).length (dg n)) (hn : n < 18446744073709551616) :
  ∃ x y : Nat, (∀ m, Calls Tryz.prog 170 #[.slice A (dg n).length c, .int .i64 0] (w.drewN m) fun e w' => e = .returned (.int .u64 (x : Int)) ∧ w' = w.drewN m) ∧ (∀ m, Calls Tryz.prog 170 #[.slice A (dg n).length c, .int .i64 1] (w.drewN m) fun e w' => e = .returned (.int .u64 (y : Int)) ∧ w' = w.drewN m) ∧ x < 4294967296 ∧ y < 4294967296 ∧ x + y * 4294967296 = n := by
 obtain ⟨x, y, hx, hy, h1, h2, h3⟩ := two_dig hn
 obtain ⟨x', hx1, hx2, hx3⟩ := digit_q c 0 h (ok_dg n)
 obtain ⟨y', hy1, hy2, hy3⟩ := digit_q c 1 h (ok_dg n)
 have e1 : x' = x := by omega
 have e2 : y' = y := by omega
 subst e1 e2
 exact ⟨x', y', hx3, hy3, h1, h2, h3⟩
theorem rd_up {D : Nat} {e ls : Int} {x y : Nat} (hls : ls = lsbOf D e) (h : ls ≤ e) (hr : (bl D : Int) + e ≤ 1100) (hxy : x + y * 4294967296 = D * 2 ^ (e - ls).toNat) :
  ∃ t : Nat, IntKind.i64.wrap (ls - -1074) = (t : Int) ∧ IntKind.i64.wrap (ls + 1074) = (t : Int) ∧ IntKind.u64.wrap (t : Int) = (t : Int) ∧ IntKind.u64.wrap ((t : Int) * 4503599627370496) = (t : Int) * 4503599627370496 ∧ IntKind.u64.wrap ((t : Int) * 4503599627370496 + (x : Int)) = (t : Int) * 4503599627370496 + (x : Int) ∧ IntKind.u64.wrap ((y : Int) * 4294967296) = (y : Int) * 4294967296 ∧
   IntKind.u64.wrap ((t : Int) * 4503599627370496 + (x : Int) + (y : Int) * 4294967296) = ((t * 4503599627370496 + (x + y * 4294967296) : Nat) : Int) ∧ t = (ls + 1074).toNat := by
 subst hls
 obtain ⟨h1, h2⟩ := xkF hr
 have h3 := rnd_up h
 rw [← hxy] at h3
 refine ⟨(lsbOf D e + 1074).toNat, ?_, ?_, u64_w (by omega) (by omega), u64_w (by omega) (by omega), u64_w (by omega) (by omega), u64_w (by omega) (by omega), uwrap (by omega) (by omega), rfl⟩
 ·
  rw [i64_w]; unfold wrap64; omega
 ·
  rw [i64_w]; unfold wrap64; omega
theorem rndN_eq {D s b o n : Nat} {lo more : Bool} (hs : 1 ≤ s) (hn : n = D / 2 ^ s) (hb : b = D / 2 ^ (s - 1) % 2) (ho : o = n % 2) (hlo : lo = decide (D % 2 ^ (s - 1) ≠ 0)) : rndN D s more = if b = 1 ∧ (lo = true ∨ more = true ∨ o = 1) then n + 1 else n := by
 subst hn hb ho hlo
 unfold rndN
 simp only [decide_eq_true_eq]
theorem rd_dn {D : Nat} {e ls : Int} {s n : Nat} (hls : ls = lsbOf D e) (h : ¬ ls ≤ e) (hr : (bl D : Int) + e ≤ 1100) (hs : s = (ls - e).toNat) (he : -30000 ≤ e ∧ e ≤ 30000) (hn : n = D / 2 ^ s) :
  ∃ t s1 n1 : Nat, (IntKind.i64.wrap (ls - e) = (s : Int) ∧ IntKind.i64.wrap ((s : Int) - 1) = (s1 : Int)) ∧ (IntKind.i64.wrap (ls - -1074) = (t : Int) ∧ IntKind.i64.wrap (ls + 1074) = (t : Int)) ∧ IntKind.u64.wrap (t : Int) = (t : Int) ∧ IntKind.u64.wrap ((t : Int) * 4503599627370496) = (t : Int) * 4503599627370496 ∧ IntKind.u64.wrap ((n : Int) + 1) = (n1 : Int) ∧
   IntKind.u64.wrap ((t : Int) * 4503599627370496 + (n : Int)) = ((t * 4503599627370496 + n : Nat) : Int) ∧ IntKind.u64.wrap ((t : Int) * 4503599627370496 + (n1 : Int)) = ((t * 4503599627370496 + n1 : Nat) : Int) ∧ n1 = n + 1 ∧ s1 = s - 1 ∧ 1 ≤ s ∧ t = (ls + 1074).toNat ∧ n < 9007199254740992 := by
 subst hls
 obtain ⟨h1, h2⟩ := xkF hr
 have h3 := xjU h
 rw [← hs, ← hn] at h3
 refine ⟨(lsbOf D e + 1074).toNat, s - 1, n + 1, ⟨?_, ?_⟩, ⟨?_, ?_⟩, u64_w (by omega) (by omega), u64_w (by omega) (by omega), uwrap (by omega) (by omega), uwrap (by omega) (by omega), uwrap (by omega) (by omega), rfl, rfl, by omega, rfl, h3⟩
 all_goals
  rw [i64_w]; unfold wrap64; omega
theorem rd_half {D s : Nat} (hs : 1 ≤ s) (h : D / 2 ^ s < 9007199254740992) : D / 2 ^ (s - 1) < 18446744073709551616 := by
 obtain ⟨k, rfl⟩ : ∃ k, s = k + 1 := ⟨s - 1, by omega⟩
 rw [Nat.pow_succ, ← Nat.div_div_eq_div_mul] at h
 rw [Nat.add_sub_cancel]
 omega
theorem rd_in {D : Nat} {e : Int} (hl : bl D ≤ 30000) (he : -30000 ≤ e ∧ e ≤ 30000) :
  ∃ L1 L0 : Int, IntKind.i64.wrap ((bl D : Int) - 53) = L1 ∧ IntKind.i64.wrap (L1 + e) = L0 ∧ (L0 < -1074 ∧ lsbOf D e = -1074 ∨ ¬ L0 < -1074 ∧ lsbOf D e = L0) := by
 refine ⟨(bl D : Int) - 53, (bl D : Int) - 53 + e, ?_, ?_, ?_⟩
 ·
  rw [i64_w]; unfold wrap64; omega
 ·
  rw [i64_w]; unfold wrap64; omega
 ·
  unfold lsbOf; omega
theorem rounded_c (D : Nat) (e : Int) (more : Bool) (A : Option Addr) (c : Nat) (w : World) (hr : Kd.C (Kd.int .u64) w A (dg D).length (dg D)) (hl : (dg D).length ≤ 600) (he : -30000 ≤ e ∧ e ≤ 30000) (hb1 : (bl D : Int) + e ≤ 1100) (hb2 : -1200 ≤ (bl D : Int) + e) :
  Calls Tryz.prog 160 #[.slice A (dg D).length c, .int .i64 e, .bool more, .int .i64 53, .int .i64 (-1074)] w fun x w' => x = .returned (.int .u64 (rnd D e more : Int)) ∧ Below w.heap.size w w' := by
 have hbl : bl D ≤ 32 * (dg D).length := bl_le (by rw [Nat.pow_mul]; have h := vl_lt (ok_dg D); rw [vl_dg] at h; exact h)
 obtain ⟨L1, L0, g1, g2, hls⟩ := rd_in (D := D) (e := e) (by omega) he
 have HLEN := am (len_c D A c w hr (by omega))
 have HR := am hr;have HL := am hl;have HE := am he;have HB1 := am hb1;have HB2 := am hb2;have HBL := am hbl;have HLS := am hls
 obtain ⟨nb, hnb⟩ : ∃ nb, nb = bl D := ⟨_, rfl⟩
 rw [← hnb] at g1
 rw [← hnb] at HLEN
 clear hr hl he hb1 hb2 hbl hls hnb
 obtain ⟨ls, hls⟩ : ∃ ls, ls = lsbOf D e := ⟨_, rfl⟩
 have HLSB := am hls;clear hls
 go_enter Tryz.func160, Tryz.ntmps160
 go_upto_region 1 with fail
 skip
 go_cut [11] from 18 to 25 (fun v11 w' => v11 = .int .i64 ls ∧ w' = w)
 case first =>
  rcases HLS.out with ⟨q1, q2⟩ | ⟨q1, q2⟩
  all_goals
   rw [← HLSB.out] at q2
   subst q2
   go_wp2_with (go_at_call 130; go_loud ((with_reducible refine (HLEN.out).mono ?_); rintro x w' ⟨rfl, hw_⟩; obtain rfl := hw_.symm))
   go_meet
   case rel => exact ⟨rfl, rfl⟩
 case rest =>
  obtain ⟨rfl, rfl⟩ := hcut
  clear g1 g2 HLEN HLS
  by_cases hle : ls ≤ e
  ·
   have d1 : decide (ls ≤ e) = true := decide_eq_true hle
   obtain ⟨k, hk⟩ : ∃ k, k = (e - ls).toNat := ⟨_, rfl⟩
   have hkw : IntKind.i64.wrap (e - ls) = (k : Int) := by rw [i64_w]; unfold wrap64; have h1 := HE.out; have h2 := HLSB.out; have h3 := xkF HB1.out; rw [← h2] at h3; omega
   have HSU := am (xhM D k A c _ HR.out (by have := HL.out; omega) (by have h1 := HE.out; have h2 := HLSB.out; have h3 := HB2.out; unfold lsbOf at h2; omega))
   have HK := am hk;have HLE := am hle;clear hk
   go_upto_region 4 with (go_at_call 132; go_loud ((with_reducible refine (HSU.out).mono ?_); rintro e w2 ⟨A2, c2, rfl, hd, hb⟩; have HRR := am hd; have HB2 := am hb; clear hd hb))
   obtain ⟨x, y, hd0, hd1, hx, hy, hxy⟩ := dig2 c2 HRR.out.C (by rw [HK.out, HLSB.out]; have := rnd_up (D := D) (e := e) (by rw [← HLSB.out]; exact HLE.out); omega)
   have hxy2 := hxy
   rw [HK.out] at hxy2
   obtain ⟨t, t1, t2, t3, t4, t5, t6, t7, ht⟩ := rd_up HLSB.out HLE.out HB1.out hxy2
   have HD0 := am hd0;have HD1 := am hd1;have HXY := am hxy2;have HT := am ht;clear hd0 hd1 hx hy hxy hxy2 ht
   skip
   go_quiet (first | (go_at_call 170; with_reducible exact Calls.quiet_of_same (HD0.out _)) | (go_at_call 170; with_reducible exact Calls.quiet_of_same (HD1.out _)))
   go_wp2_with fail
   go_ret
   refine ⟨?_, xaG HB2.out _⟩
   have hv : rnd D e more = t * 4503599627370496 + (x + y * 4294967296) := by
    have h1 := HLE.out
    rw [HLSB.out] at h1
    unfold rnd
    rw [if_pos h1, HXY.out, HT.out, HLSB.out]
   rw [hv]
   first | done | rfl
  ·
   have d1 : decide (ls ≤ e) = false := decide_eq_false hle
   obtain ⟨s, hs⟩ : ∃ s, s = (ls - e).toNat := ⟨_, rfl⟩
   obtain ⟨n, hn⟩ : ∃ n, n = D / 2 ^ s := ⟨_, rfl⟩
   obtain ⟨t, s1, n1, ⟨s2, s3⟩, ⟨t1, t2⟩, t3, t4, t5, t6, t7, hn1, hs1, hs1', ht, hnl⟩ := rd_dn HLSB.out hle HB1.out hs HE.out hn
   have HLE := am hle
   have HSD := am (xhN D s A c _ HR.out (by have := HL.out; omega))
   have HNN := am hn;have HN1 := am hn1;have HS := am hs;have HS1 := am hs1;have HS1' := am hs1';have HT := am ht;have HNL := am hnl;clear hs hn hn1 hs1 hs1' ht hnl hle
   go_upto_region 6 with (go_at_call 171; go_loud ((with_reducible refine (HSD.out).mono ?_); rintro e w2 ⟨A2, c2, rfl, hd, hb⟩; have HRR := am hd; have HB2 := am hb; clear hd hb))
   skip
   have HSH := am (xhN D s1 A c w2 (Kd.xaQ HR.out HB2.out) (by have := HL.out; omega))
   obtain ⟨lo, hlo⟩ : ∃ lo, lo = decide (D % 2 ^ s1 ≠ 0) := ⟨_, rfl⟩
   rw [← hlo] at HSH
   have HLO := am hlo;clear hlo
   go_upto_region 7 with (go_at_call 171; go_loud ((with_reducible refine (HSH.out).mono ?_); rintro e w3 ⟨A3, c3, rfl, hd, hb⟩; have HRH := am hd; have HB3 := am hb; clear hd hb))
   skip
   obtain ⟨x, y, hd0, hd1, hx, hy, hxy⟩ := dig2 c2 (Kd.xaQ HRR.out.C HB3.out) (by rw [← HNN.out]; have := HNL.out; omega)
   obtain ⟨z, y2, hd2, _, hz, _, hzy⟩ := dig2 c3 HRH.out.C (by rw [HS1.out]; exact rd_half HS1'.out (by rw [← HNN.out]; exact HNL.out))
   rw [← HNN.out] at hxy
   have u1 : IntKind.u64.wrap ((y : Int) * 4294967296) = (y : Int) * 4294967296 := u64_w (by omega) (by omega)
   have u2 : IntKind.u64.wrap ((x : Int) + (y : Int) * 4294967296) = (n : Int) := by have := HNL.out; exact uwrap (by omega) (by omega)
   obtain ⟨b, hb⟩ : ∃ b, b = z % 2 := ⟨_, rfl⟩
   obtain ⟨o, ho⟩ : ∃ o, o = n % 2 := ⟨_, rfl⟩
   have u3 : (z : Int) % 2 = (b : Int) := by omega
   have u4 : (n : Int) % 2 = (o : Int) := by omega
   have hb2 : b = 0 ∨ b = 1 := by omega
   have ho2 : o = 0 ∨ o = 1 := by omega
   have hbh : b = D / 2 ^ (s - 1) % 2 := by rw [← HS1.out, ← hzy]; first | done | omega
   have HV := am (rndN_eq (more := more) (lo := lo) HS1'.out HNN.out hbh ho (by rw [← HS1.out]; exact HLO.out))
   have HD0 : xaA (Calls Tryz.prog 170 #[.slice A2 (dg (D / 2 ^ s)).length c2, .int .i64 0] w3 fun e w' => e = .returned (.int .u64 (x : Int)) ∧ w' = w3) := ⟨hd0 0⟩
   have HD1 : xaA (Calls Tryz.prog 170 #[.slice A2 (dg (D / 2 ^ s)).length c2, .int .i64 1] w3 fun e w' => e = .returned (.int .u64 (y : Int)) ∧ w' = w3) := ⟨hd1 0⟩
   have HD2 : xaA (Calls Tryz.prog 170 #[.slice A3 (dg (D / 2 ^ s1)).length c3, .int .i64 0] w3 fun e w' => e = .returned (.int .u64 (z : Int)) ∧ w' = w3) := ⟨hd2 0⟩
   have HBB : xaA (Below w3.heap.size w3 w3) := ⟨Below.refl _ _⟩
   have HR0 : xaA (rnd D e more = t * 4503599627370496 + rndN D s more) := ⟨by
    have h0 := HLE.out
    have h1 : ¬ lsbOf D e ≤ e := by rw [← HLSB.out]; clear HRR HRH HB2 HB3; omega
    unfold rnd
    rw [if_neg h1, HT.out, HS.out, HLSB.out]⟩
   rw [HV.out] at HR0
   clear hd0 hd1 hd2 hx hy hxy hz hzy hb ho hbh HV HSD HSH
   skip
   rcases hb2 with rfl | rfl
   rotate_left
   cases lo
   cases more
   rcases ho2 with rfl | rfl
   all_goals
    go_wp2_with (go_at_call 170; go_loud ((first | with_reducible refine (HD0.out).mono ?_ | with_reducible refine (HD1.out).mono ?_ | with_reducible refine (HD2.out).mono ?_); rintro e w' ⟨rfl, hw_⟩; obtain rfl := hw_.symm))
    go_ret
    refine ⟨?_, xaC HB2.out HB3.out⟩
    have hv := HR0.out
    simp only [Nat.one_ne_zero, Nat.zero_ne_one, Bool.false_eq_true, true_and, false_and, or_true, true_or, or_false, false_or, if_true, if_false, or_self, ← HN1.out] at hv
    rw [hv]
    first | done | rfl
def mk (neg : Bool) (u : Nat) : Nat := min u 9218868437227405312 + (if neg then 9223372036854775808 else 0)
theorem made_c (neg : Bool) (u : Nat) (w : World) (hu : u < 18446744073709551616) : Calls Tryz.prog 159 #[.bool neg, .int .u64 (u : Int)] w fun e w' => e = .returned (.int .u64 (mk neg u : Int)) ∧ w' = w := by
 obtain ⟨v, hv⟩ : ∃ v, v = min u 9218868437227405312 := ⟨_, rfl⟩
 have h2 : IntKind.u64.wrap ((v : Int) + 9223372036854775808) = ((v + 9223372036854775808 : Nat) : Int) := uwrap (by omega) (by omega)
 have hm : (u ≤ 9218868437227405312 ∧ v = u) ∨ (¬ u ≤ 9218868437227405312 ∧ v = 9218868437227405312) := by omega
 have e : mk neg u = v + (if neg then 9223372036854775808 else 0) := by unfold mk; rw [← hv]
 rw [e]
 clear e hv
 rcases hm with ⟨h1, rfl⟩ | ⟨h1, rfl⟩
 all_goals
  have HH := am h1
  cases neg
  all_goals
   go_enter Tryz.func159, Tryz.ntmps159
   go_wp2_with fail
   go_ret
   exact ⟨rfl, rfl⟩
def numV (neg : Bool) (A : Option Addr) (n c : Nat) (e : Int) : Value := .agg #[.bool neg, .slice A n c, .int .i64 e]
theorem zero_c (neg : Bool) (A : Option Addr) (n c : Nat) (e : Int) (w : World) : Calls Tryz.prog 129 #[numV neg A n c e] w fun x w' => x = .returned (.bool (decide (n = 0))) ∧ Below w.heap.size w w' := by
 unfold numV
 have h1 : ((n : Int) == 0) = decide (n = 0) := by
  by_cases h : n = 0
  ·
   subst h; rfl
  ·
   rw [decide_eq_false h]; exact beq_eq_false_iff_ne.2 (by omega)
 go_enter Tryz.func129, Tryz.ntmps129
 go_wp2_with fail
 go_ret
 exact ⟨rfl, xaH (Below.refl _ _) _⟩
theorem and_mask (k x : Nat) (hk : k ≤ 63) : Go.bits .and .u64 (x : Int) ((2 ^ k - 1 : Nat) : Int) = ((x % 2 ^ k : Nat) : Int) := by
 have h2 : ∀ y : Nat, (BitVec.ofInt 64 (y : Int)).toNat = y % 18446744073709551616 := fun y => by
  rw [BitVec.ofInt_natCast, BitVec.toNat_ofNat]
 have hp : (2 : Nat) ^ k ≤ 2 ^ 63 := Nat.pow_le_pow_right (by decide) hk
 have hp2 : (2 : Nat) ^ 63 = 9223372036854775808 := by decide
 have hd : (2 : Nat) ^ k * 2 ^ (64 - k) = 18446744073709551616 := by rw [← Nat.pow_add, show k + (64 - k) = 64 by omega]
 have h3 : ((BitVec.ofInt 64 (x : Int)) &&& (BitVec.ofInt 64 ((2 ^ k - 1 : Nat) : Int))).toNat = x % 2 ^ k := by
  rw [BitVec.toNat_and, h2, h2, Nat.mod_eq_of_lt (show 2 ^ k - 1 < 18446744073709551616 by omega), Nat.and_two_pow_sub_one_eq_mod, ← hd, Nat.mod_mul_right_mod]
 show IntKind.wrap .u64 (((BitVec.ofInt 64 (x : Int)) &&& (BitVec.ofInt 64 ((2 ^ k - 1 : Nat) : Int))).toNat : Int) = _
 rw [h3]
 have h4 := Nat.mod_lt x (Nat.two_pow_pos k)
 exact u64_w (by omega) (by omega)
theorem put3 {w : World} {b : Nat} {t : TypeId} {z0 z1 z2 : Value} (x0 x1 x2 : Value) (h : w.heap[b]? = some (.cells #[z0, z1, z2] t (0, 0))) : (((w.setCell ⟨b, 0, none⟩ x0).setCell ⟨b, 1, none⟩ x1).setCell ⟨b, 2, none⟩ x2).heap[b]? = some (.cells #[x0, x1, x2] t (0, 0)) := by
 have q0 : (w.setCell ⟨b, 0, none⟩ x0).heap[b]? = some (.cells #[x0, z1, z2] t (0, 0)) := xaN h 0 x0 rfl
 have q1 : ((w.setCell ⟨b, 0, none⟩ x0).setCell ⟨b, 1, none⟩ x1).heap[b]? = some (.cells #[x0, x1, z2] t (0, 0)) := xaN q0 1 x1 rfl
 exact xaN q1 2 x2 rfl
theorem xkL {w wc w2 : World} {g : Nat} {A : Option Addr} {c n : Nat} (x0 x1 x2 : Value) (h : DG w2 wc.heap.size A c n) (hg : g < wc.heap.size) (hw : w.heap.size ≤ g) : DG (((w2.setCell ⟨g, 0, none⟩ x0).setCell ⟨g, 1, none⟩ x1).setCell ⟨g, 2, none⟩ x2) w.heap.size A c n := by
 have h1 : Sl (Kd.int .u64) 74 w2 w.heap.size (fun k => k ≠ g) A c (dg n) := ⟨h.le, h.lim, h.row.imp_right (fun ⟨b, off, cur, inner, h1, h2, h3, h4⟩ => ⟨b, off, cur, inner, h1, by omega, by omega, h4⟩)⟩
 have h2 := h1.frame (w1 := ((w2.setCell ⟨g, 0, none⟩ x0).setCell ⟨g, 1, none⟩ x1).setCell ⟨g, 2, none⟩ x2) (fun k hk _ => by
  rw [Below.heap_setCell _ ⟨g, 2, none⟩ x2 k hk, Below.heap_setCell _ ⟨g, 1, none⟩ x1 k hk, Below.heap_setCell _ ⟨g, 0, none⟩ x0 k hk])
 exact h2.mono (fun _ _ _ => trivial)
theorem and52 (x : Nat) : Go.bits .and .u64 (x : Int) 4503599627370495 = ((x % 4503599627370496 : Nat) : Int) := and_mask 52 x (by decide)
theorem and11 (x : Nat) : Go.bits .and .u64 (x : Int) 2047 = ((x % 2048 : Nat) : Int) := and_mask 11 x (by decide)
def ofM (u : Nat) : Nat := if 0 < u / 4503599627370496 % 2048 then u % 4503599627370496 + 4503599627370496 else u % 4503599627370496
def ofE (u : Nat) : Int := if ofM u = 0 then 0 else if 0 < u / 4503599627370496 % 2048 then ((u / 4503599627370496 % 2048 : Nat) : Int) - 1075 else -1074
def ofS (u : Nat) : Bool := if ofM u = 0 then false else decide (9223372036854775808 ≤ u)
theorem ofNum_c (u : Nat) (w : World) (hu : u < 18446744073709551616) : Calls Tryz.prog 114 #[.int .u64 (u : Int)] w fun x w' => ∃ A c, x = .returned (numV (ofS u) A (dg (ofM u)).length c (ofE u)) ∧ DG w' w.heap.size A c (ofM u) ∧ Below w.heap.size w w' := by
 have m1 := and52 u
 have m2 := and11 (u / 4503599627370496)
 rw [show ((u / 4503599627370496 : Nat) : Int) = (u : Int) / 4503599627370496 from Int.natCast_ediv u 4503599627370496] at m2
 obtain ⟨m, hm⟩ : ∃ m, m = u % 4503599627370496 := ⟨_, rfl⟩
 obtain ⟨e0, he⟩ : ∃ e0, e0 = u / 4503599627370496 % 2048 := ⟨_, rfl⟩
 rw [← hm] at m1
 rw [← he] at m2
 have hw0 : IntKind.i64.wrap (e0 : Int) = (e0 : Int) := by rw [i64_w]; unfold wrap64; omega
 have HU := am hu;have HM := am hm;have HE := am he
 have HB : xaA (Below w.heap.size w w) := ⟨Below.refl _ _⟩
 clear hu hm he
 go_enter Tryz.func114, Tryz.ntmps114
 go_upto_if 12 with ((with_reducible refine xaJ (N := 2) rfl ?_); refine bxv 2 #[.bool false, .slice none 0 0, .int .i64 0] 172 ?_; intro g hg w1 hbox hb; have Bg := am hbox; replace HB := am (xaC HB.out hb); have HGg := am hg; clear hb hbox hg)
 skip
 obtain ⟨E1, hE1⟩ : ∃ E1 : Int, E1 = if 0 < e0 then (e0 : Int) else 1 := ⟨_, rfl⟩
 obtain ⟨M, hM⟩ : ∃ M, M = ofM u := ⟨_, rfl⟩
 have hM2 : M = if 0 < e0 then m + 4503599627370496 else m := by rw [hM]; unfold ofM; rw [← HE.out, ← HM.out]
 have HMM := am hM;have HM2 := am hM2;have HE1 := am hE1;clear hE1 hM hM2
 go_cut [3, 4] from 13 to 14 (fun v3 v4 w' => v3 = .int .u64 (M : Int) ∧ v4 = .int .i64 E1 ∧ w' = w1)
 case first =>
  by_cases h0 : 0 < e0
  ·
   have hM := HM2.out;have hE := HE1.out
   rw [if_pos h0] at hM hE
   subst hM hE
   have hw : IntKind.u64.wrap ((m : Int) + 4503599627370496) = ((m + 4503599627370496 : Nat) : Int) := by have h := HM.out; exact uwrap (by omega) (by omega)
   go_wp2_with fail
   go_meet
   case rel => exact ⟨rfl, rfl, rfl⟩
  ·
   have hM := HM2.out;have hE := HE1.out
   rw [if_neg h0] at hM hE
   subst hM hE
   have h1 : e0 = 0 := by omega
   subst h1
   go_wp2_with fail
   go_meet
   case rel => exact ⟨rfl, rfl, rfl⟩
 case rest =>
  obtain ⟨rfl, rfl, rfl⟩ := hcut
  have cg_ := cz3 Bg
  by_cases h0 : M = 0
  ·
   subst h0
   go_wp2_with fail
   skip
   have B3 := put3 (.bool false) (.slice none 0 0) (.int .i64 0) Bg.out
   have HB3 : Below w.heap.size w (((wc.setCell ⟨g, 0, none⟩ (.bool false)).setCell ⟨g, 1, none⟩ (.slice none 0 0)).setCell ⟨g, 2, none⟩ (.int .i64 0)) := xaF (xaF (xaF HB.out (Nat.le_of_eq HGg.out.symm)) (Nat.le_of_eq HGg.out.symm)) (Nat.le_of_eq HGg.out.symm)
   generalize ((wc.setCell ⟨g, 0, none⟩ (.bool false)).setCell ⟨g, 1, none⟩ (.slice none 0 0)).setCell ⟨g, 2, none⟩ (.int .i64 0) = w3 at *
   have d0 : w3.cell? ⟨g, 0, none⟩ = some (.bool false) := (xaB B3 0).trans rfl
   have d1 : w3.cell? ⟨g, 1, none⟩ = some (.slice none 0 0) := (xaB B3 1).trans rfl
   have d2 : w3.cell? ⟨g, 2, none⟩ = some (.int .i64 0) := (xaB B3 2).trans rfl
   have hM := HMM.out
   have hv : numV (ofS u) none (dg (ofM u)).length 0 (ofE u) = .agg #[.bool false, .slice none 0 0, .int .i64 0] := by
    unfold numV ofS ofE; rw [← hM, if_pos rfl, if_pos rfl, dg0]; rfl
   exact bodyPost_ret (v := .agg #[.bool false, .slice none 0 0, .int .i64 0]) (by simp [results, Tryz.results114, go_sem, d0, d1, d2]) rfl ⟨none, 0, by rw [hv], by rw [← hM]; unfold DG; rw [dg0]; exact Sl.nil _ _ _ _ _, HB3⟩
  ·
   have t0 : ((M : Int) == 0) = false := beq_eq_false_iff_ne.2 (by omega)
   obtain ⟨E2, hE2⟩ : ∃ E2 : Int, E2 = E1 - 1075 := ⟨_, rfl⟩
   have hw2 : IntKind.i64.wrap (E1 - 1075) = E2 := by
    have h1 := HE1.out;have h2 := HE.out
    rw [hE2, i64_w]; unfold wrap64; split at h1 <;> omega
   obtain ⟨sg, hsg⟩ : ∃ sg, decide (9223372036854775808 ≤ u) = sg := ⟨_, rfl⟩
   have hsg2 : decide ((9223372036854775808 : Int) ≤ (u : Int)) = sg := by rw [← hsg]; exact decide_eq_decide.2 (by omega)
   have Bw := Bg
   have HDG := am (digits_c M wc (by have h1 := HM2.out; have h2 := HM.out; split at h1 <;> omega))
   have HSG := am hsg;have HE2 := am hE2;have H0 := am h0;clear hsg hE2 cg_
   go_upto_if 99 with (go_at_call 134; go_loud ((with_reducible refine (HDG.out).mono ?_); rintro x w2 ⟨A, c, rfl, hd, hb⟩; have HD := am hd; replace HB := am (xaC HB.out hb); replace Bg := am (xaD Bg.out hb); have cg_ := cz3 Bg; clear hd hb))
   skip
   have B3 := put3 (.bool sg) (.slice A (dg M).length c) (.int .i64 E2) Bg.out
   have hgb : w.heap.size ≤ g := Nat.le_of_eq HGg.out.symm
   have HB3 : Below w.heap.size w (((w2.setCell ⟨g, 0, none⟩ (.bool sg)).setCell ⟨g, 1, none⟩ (.slice A (dg M).length c)).setCell ⟨g, 2, none⟩ (.int .i64 E2)) := xaF (xaF (xaF HB.out hgb) hgb) hgb
   have hD3 := xkL (.bool sg) (.slice A (dg M).length c) (.int .i64 E2) HD.out (xaM Bw.out) hgb
   generalize ((w2.setCell ⟨g, 0, none⟩ (.bool sg)).setCell ⟨g, 1, none⟩ (.slice A (dg M).length c)).setCell ⟨g, 2, none⟩ (.int .i64 E2) = w3 at *
   have d0 : w3.cell? ⟨g, 0, none⟩ = some (.bool sg) := (xaB B3 0).trans rfl
   have d1 : w3.cell? ⟨g, 1, none⟩ = some (.slice A (dg M).length c) := (xaB B3 1).trans rfl
   have d2 : w3.cell? ⟨g, 2, none⟩ = some (.int .i64 E2) := (xaB B3 2).trans rfl
   have hM := HMM.out
   have hv : numV (ofS u) A (dg (ofM u)).length c (ofE u) = .agg #[.bool sg, .slice A (dg M).length c, .int .i64 E2] := by
    unfold numV ofS ofE
    rw [← hM, if_neg H0.out, if_neg H0.out, HSG.out, ← HE.out, HE2.out, HE1.out]
    split <;> rfl
   exact bodyPost_ret (v := .agg #[.bool sg, .slice A (dg M).length c, .int .i64 E2]) (by simp [results, Tryz.results114, go_sem, d0, d1, d2]) rfl ⟨A, c, by rw [hv], by rw [← hM]; exact hD3, HB3⟩
end Go.Proofs.YtkabcgmegljebaaGreatDoor.D
