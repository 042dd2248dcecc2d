/- Contracts and facts of functions of the program, joined in one text. -/
import Derived.Test.YtkabcgmegljebaaGreatDoorRGA
set_option maxHeartbeats 8000000
set_option maxRecDepth 100000
set_option linter.unusedVariables false
set_option linter.unusedSimpArgs false
namespace Go.Proofs.YtkabcgmegljebaaGreatDoor.D
open Go.RowKit Go.Proofs.YtkabcgmegljebaaGreatDoorW.PrintWords Go.Proofs.YtkabcgmegljebaaGreatDoorW.PrintLast Go.Proofs.YtkabcgmegljebaaGreatDoorW.PrintMore
open Go.Proofs.YtkabcgmegljebaaGreatDoor.Q Go.Proofs.YtkabcgmegljebaaGreatDoor.H
def vl : List Int → Nat
  | [] => 0
  | d :: r => d.toNat + 4294967296 * vl r
def Ok (l : List Int) : Prop := ∀ d ∈ l, 0 ≤ d ∧ d < 4294967296
def dg (n : Nat) : List Int := if h : n = 0 then [] else ((n % 4294967296 : Nat) : Int) :: dg (n / 4294967296)
termination_by n
decreasing_by omega
theorem dg0 : dg 0 = [] := by rw [dg, dif_pos rfl]
theorem dgS {n : Nat} (h : n ≠ 0) : dg n = ((n % 4294967296 : Nat) : Int) :: dg (n / 4294967296) := by rw [dg, dif_neg h]
theorem vl_dg (n : Nat) : vl (dg n) = n := by
 induction n using Nat.strongRecOn with
 | _ n ih =>
  by_cases h : n = 0
  ·
   subst h; rw [dg0]; rfl
  ·
   rw [dgS h, vl, ih (n / 4294967296) (by omega)]; omega
theorem ok_dg (n : Nat) : Ok (dg n) := by
 induction n using Nat.strongRecOn with
 | _ n ih =>
  by_cases h : n = 0
  ·
   subst h; rw [dg0]; intro d hd; cases hd
  ·
   rw [dgS h]
   intro d hd
   rcases List.mem_cons.1 hd with rfl | hd
   ·
    omega
   ·
    exact ih (n / 4294967296) (by omega) d hd
theorem vl_lt : ∀ {l : List Int}, Ok l → vl l < 4294967296 ^ l.length
 | [], _ => by decide
 | d :: r, h => by
  have h1 := h d (List.mem_cons_self ..)
  have h2 := vl_lt (l := r) (fun x hx => h x (List.mem_cons_of_mem _ hx))
  rw [vl, List.length_cons, Nat.pow_succ]
  omega
theorem xhK : ∀ (a b : List Int), vl (a ++ b) = vl a + 4294967296 ^ a.length * vl b
 | [], b => by simp [vl]
 | d :: r, b => by
  rw [List.cons_append, vl, vl, xhK r b, List.length_cons, Nat.pow_succ, Nat.mul_add, Nat.mul_comm _ 4294967296, Nat.mul_assoc]; omega
theorem xeR (n : Nat) : vl (List.replicate n 0) = 0 := by
 induction n with
 | zero => rfl
 | succ n ih => rw [List.replicate_succ, vl, ih]; rfl
theorem dg_vl : ∀ {l : List Int}, Ok l → (∀ d, l.getLast? = some d → d ≠ 0) → dg (vl l) = l
 | [], _, _ => dg0
 | d :: r, h, hz => by
  have h1 := h d (List.mem_cons_self ..)
  have hr : Ok r := fun x hx => h x (List.mem_cons_of_mem _ hx)
  have ih := dg_vl (l := r) hr (fun x hx => hz x (by
   match r, hx with
   | y :: s, hx => rw [List.getLast?_cons_cons]; exact hx))
  have hne : vl (d :: r) ≠ 0 := by
   intro e
   rw [vl] at e
   have hr0 : vl r = 0 := by omega
   have er : r = [] := by rw [hr0, dg0] at ih; exact ih.symm
   subst er
   exact hz d rfl (by omega)
  rw [dgS hne, vl, show (d.toNat + 4294967296 * vl r) / 4294967296 = vl r by omega, ih]
  congr 1
  omega
theorem vl_take {l : List Int} {n : Nat} (hn : n ≤ l.length) (hz : ∀ j, n ≤ j → j < l.length → l.getD j 0 = 0) : vl (l.take n) = vl l := by
 have h1 : l = l.take n ++ l.drop n := (List.take_append_drop n l).symm
 have h2 : l.drop n = List.replicate (l.length - n) 0 := by
  apply List.ext_getElem
  ·
   simp
  ·
   intro i h3 h4
   rw [List.getElem_replicate, List.getElem_drop]
   have h5 : n + i < l.length := by rw [List.length_drop] at h3; omega
   have h6 := hz (n + i) (by omega) h5
   rwa [List.getD_eq_getElem?_getD, List.getElem?_eq_getElem h5] at h6
 conv => rhs; rw [h1, xhK, h2, xeR]
 rw [Nat.mul_zero, Nat.add_zero]
theorem trim_is {l : List Int} {n : Nat} (h : Ok l) (hn : n ≤ l.length) (hz : ∀ j, n ≤ j → j < l.length → l.getD j 0 = 0) (hl : n = 0 ∨ l.getD (n - 1) 0 ≠ 0) : dg (vl l) = l.take n := by
 rw [← vl_take hn hz]
 refine dg_vl (fun d hd => h d (List.mem_of_mem_take hd)) (fun d hd => ?_)
 rcases hl with rfl | hl
 ·
  simp at hd
 ·
  rw [List.getLast?_eq_getElem?, List.getElem?_take, List.length_take, Nat.min_eq_left hn] at hd
  split at hd
  ·
   rw [List.getD_eq_getElem?_getD, hd] at hl; exact hl
  ·
   cases hd
theorem xfZ : ∀ (l : List Int) (j : Nat) (v : Int), j < l.length → vl (l.set j v) + (l.getD j 0).toNat * 4294967296 ^ j = vl l + v.toNat * 4294967296 ^ j
 | d :: r, 0, v, _ => by simp only [List.set_cons_zero, vl, List.getD_cons_zero]; omega
 | d :: r, j + 1, v, h => by
  have ih := xfZ r j v (by simpa using h)
  simp only [List.set_cons_succ, vl, List.getD_cons_succ, Nat.pow_succ]
  generalize 4294967296 ^ j = P at *
  generalize (r.getD j 0).toNat = a at *
  generalize v.toNat = b at *
  rw [show a * (P * 4294967296) = 4294967296 * (a * P) by rw [Nat.mul_comm a, Nat.mul_assoc, Nat.mul_comm, Nat.mul_assoc], show b * (P * 4294967296) = 4294967296 * (b * P) by rw [Nat.mul_comm b, Nat.mul_assoc, Nat.mul_comm, Nat.mul_assoc]]
  omega
 | [], _, _, h => absurd h (Nat.not_lt_zero _)
theorem xgZ {l : List Int} {j : Nat} {v : Int} (h : Ok l) (h0 : 0 ≤ v) (h1 : v < 4294967296) : Ok (l.set j v) := fun d hd => by
 rcases List.mem_or_eq_of_mem_set hd with hd | rfl
 ·
  exact h d hd
 ·
  exact ⟨h0, h1⟩
theorem xcK {l : List Int} (h : Ok l) (j : Nat) : 0 ≤ l.getD j 0 ∧ l.getD j 0 < 4294967296 := by
 rw [List.getD_eq_getElem?_getD]
 cases e : l[j]? with
 | none => exact ⟨Int.le_refl _, by decide⟩
 | some d => exact h d (List.mem_of_getElem? e)
theorem xfN (n : Nat) : Ok (List.replicate n 0) := fun d hd => by rw [(List.mem_replicate.1 hd).2]; decide
theorem xcT (l : List Int) (i j : Nat) (v : Int) : (l.set i v).getD j 0 = if i = j ∧ i < l.length then v else l.getD j 0 := by
 rw [List.getD_eq_getElem?_getD, List.getD_eq_getElem?_getD, List.getElem?_set]
 by_cases h : i = j
 ·
  subst h
  by_cases h2 : i < l.length
  ·
   simp [h2]
  ·
   simp [h2]
 ·
  simp [h]
theorem xgW {l : List Int} {i : Nat} (h : i < l.length) : vl (l.take (i + 1)) = vl (l.take i) + (l.getD i 0).toNat * 4294967296 ^ i := by
  rw [List.take_succ_eq_append_getElem h, xhK, List.length_take, Nat.min_eq_left (by omega), vl, vl, Nat.mul_zero, Nat.add_zero, List.getD_eq_getElem?_getD, List.getElem?_eq_getElem h, Nat.mul_comm]; rfl
def UB (w : World) (b : Nat) (l : List Int) : Prop := w.heap[b]? = some (.cells (l.map (Value.int .u64)).toArray 74 (0, 0))
section
variable {w w1 : World} {b : Nat} {l : List Int}
theorem UB.cell (h : UB w b l) (j : Nat) (hj : j < l.length) : w.cell? ⟨b, j, none⟩ = some (.int .u64 (l.getD j 0)) := (xaB h j).trans (by rw [List.getD_eq_getElem?_getD, List.getElem?_eq_getElem hj]; simp [hj])
theorem UB.frozen (h : UB w b l) (j : Nat) : w.frozen? ⟨b, j, none⟩ = false := xaE h j
theorem UB.put (h : UB w b l) (j : Nat) (v : Int) : UB (w.setCell ⟨b, j, none⟩ (.int .u64 v)) b (l.set j v) := xaN h j _ (by simp [List.map_set])
theorem UB.below (h : UB w b l) (hb : Below w.heap.size w w1) : UB w1 b l := xaD h hb
theorem UB.made (w : World) (n : Nat) : UB (w.alloc (.cells (Array.replicate n (Value.int .u64 0)) 74)) w.heap.size (List.replicate n 0) := by
 have h := xbF w (.cells (Array.replicate n (Value.int .u64 0)) 74)
 unfold UB
 rw [h]
 congr 2
 rw [List.map_replicate]; simp
theorem reps_u64 (w : World) (l : List Int) : Reps ((Kd.int .u64).K w) 1 l (l.map (Value.int .u64)) := by
 refine ⟨by rw [List.length_map, Nat.mul_one], fun j p hp => ?_⟩
 rw [Nat.mul_one]
 have hj : j < l.length := (List.getElem?_eq_some_iff.1 hp).1
 rw [List.drop_eq_getElem_cons (by rw [List.length_map]; exact hj)]
 have e : l[j] = p := by rw [List.getElem?_eq_getElem hj] at hp; exact Option.some.inj hp
 rw [List.getElem_map, e]; rfl
theorem UB.sl (h : UB w b l) {base : Nat} (hb : base ≤ b) (hl : l.length ≤ 9223372036854775807) : Sl (Kd.int .u64) 74 w base (fun _ => True) (some ⟨b, 0, none⟩) l.length l :=
  ⟨Nat.le_refl _, hl, Or.inr ⟨b, 0, _, l.map (Value.int .u64), rfl, trivial, hb, h, by show 0 + l.length * 1 ≤ _; simp, reps_u64 w l, by rw [List.drop_zero]; show List.take (l.length * 1) _ = _; rw [Nat.mul_one]; exact List.take_of_length_le (by simp)⟩⟩
end
theorem at_u {w : World} {A : Option Addr} {n : Nat} {l : List Int} (h : Kd.C (Kd.int .u64) w A n l) (i : Nat) (hi : i < n) : ∃ ad, A = some ad ∧ w.cell? (ad.add i) = some (.int .u64 (l.getD i 0)) := by
 obtain ⟨ad, e, hx⟩ := Kd.at_int h (i : Int) (by omega) (by omega)
 rw [Int.toNat_natCast] at hx
 exact ⟨ad, e, hx⟩
end Go.Proofs.YtkabcgmegljebaaGreatDoor.D
namespace Go.Proofs.YtkabcgmegljebaaGreatDoor.M
def leap (y : Int) : Bool := decide (y % 4 = 0 ∧ (y % 100 ≠ 0 ∨ y % 400 = 0))
def lp (y : Int) : Int := if leap y = true then 1 else 0
def mlen (y m : Int) : Int := if m = 2 then (if leap y = true then 29 else 28) else if m = 4 then 30 else if m = 6 then 30 else if m = 9 then 30 else if m = 11 then 30 else 31
def before (y : Int) : Int := 365 * (y - 1900) + ((y - 1) / 4 - (y - 1) / 100 + (y - 1) / 400) - 460
def cum (y m : Int) : Int :=
  if m ≤ 1 then 0 else if m = 2 then 31 else
  (if m = 3 then 59 else if m = 4 then 90 else if m = 5 then 120 else if m = 6 then 151 else if m = 7 then 181 else if m = 8 then 212 else if m = 9 then 243 else if m = 10 then 273 else if m = 11 then 304 else if m = 12 then 334 else 365) + lp y
def dayOf (y m d : Int) : Int := before y + cum y m + d - 1
theorem lp_01 (y : Int) : 0 ≤ lp y ∧ lp y ≤ 1 := by unfold lp; split <;> omega
theorem xdE (y m : Int) : 28 ≤ mlen y m ∧ mlen y m ≤ 31 := by unfold mlen; repeat' split <;> omega
theorem mlen_lp (y : Int) : mlen y 2 = 28 + lp y := by unfold mlen lp; simp; split <;> omega
theorem xeY (y m : Int) (h1 : 1 ≤ m) (h2 : m ≤ 12) : cum y (m + 1) = cum y m + mlen y m := by
 have hl := mlen_lp y
 have : m = 1 ∨ m = 2 ∨ m = 3 ∨ m = 4 ∨ m = 5 ∨ m = 6 ∨ m = 7 ∨ m = 8 ∨ m = 9 ∨ m = 10 ∨ m = 11 ∨ m = 12 := by omega
 rcases this with rfl | rfl | rfl | rfl | rfl | rfl | rfl | rfl | rfl | rfl | rfl | rfl
 all_goals first | (rw [hl]; simp [cum]; done) | (simp [cum, mlen]; done) | (rw [hl]; simp [cum]; omega) | (simp [cum, mlen]; omega)
theorem xcF (y : Int) : before (y + 1) = before y + 365 + lp y := by
 unfold before lp leap
 by_cases h : y % 4 = 0 ∧ (y % 100 ≠ 0 ∨ y % 400 = 0)
 ·
  rw [if_pos (by simpa using h)]; omega
 ·
  rw [if_neg (by simpa using h)]; omega
theorem xdU : before 1900 = 0 := by decide
theorem xdH : before 2200 = 109573 := by decide
theorem xcY {a b : Int} (h : a ≤ b) : before a + 365 * (b - a) ≤ before b := by
  unfold before; omega
theorem xlU {a b : Int} (h : a ≤ b) : before b ≤ before a + 366 * (b - a) := by
  unfold before; omega
theorem cum_le (y : Int) {a b : Int} (h0 : 1 ≤ a) (h : a ≤ b) (hb : b ≤ 13) : cum y a + 28 * (b - a) ≤ cum y b := by
 have := lp_01 y
 have ha : a = 1 ∨ a = 2 ∨ a = 3 ∨ a = 4 ∨ a = 5 ∨ a = 6 ∨ a = 7 ∨ a = 8 ∨ a = 9 ∨ a = 10 ∨ a = 11 ∨ a = 12 ∨ a = 13 := by omega
 have hb' : b = 1 ∨ b = 2 ∨ b = 3 ∨ b = 4 ∨ b = 5 ∨ b = 6 ∨ b = 7 ∨ b = 8 ∨ b = 9 ∨ b = 10 ∨ b = 11 ∨ b = 12 ∨ b = 13 := by omega
 unfold cum
 rcases ha with rfl | rfl | rfl | rfl | rfl | rfl | rfl | rfl | rfl | rfl | rfl | rfl | rfl <;>
  rcases hb' with rfl | rfl | rfl | rfl | rfl | rfl | rfl | rfl | rfl | rfl | rfl | rfl | rfl <;> simp <;> omega
theorem cum_1 (y : Int) : cum y 1 = 0 := by simp [cum]
theorem cum_13 (y : Int) : cum y 13 = 365 + lp y := by simp [cum]
theorem xgR (y m : Int) : 0 ≤ cum y m ∧ cum y m ≤ 366 := by
 have := lp_01 y
 unfold cum; repeat' split
 all_goals omega
def xcP (n : Int) : Int := if before (1901 + n / 366) ≤ n then 1901 + n / 366 else 1900 + n / 366
def monOf (y d : Int) : Int :=
  if d < cum y 2 then 1 else if d < cum y 3 then 2 else if d < cum y 4 then 3 else if d < cum y 5 then 4 else if d < cum y 6 then 5 else if d < cum y 7 then 6 else
  if d < cum y 8 then 7 else if d < cum y 9 then 8 else if d < cum y 10 then 9 else if d < cum y 11 then 10 else if d < cum y 12 then 11 else 12
theorem xdF (n : Int) (h0 : 0 ≤ n) (h1 : n ≤ 109572) : 1900 ≤ xcP n ∧ xcP n ≤ 2199 ∧ before (xcP n) ≤ n ∧ n < before (xcP n + 1) := by
 unfold xcP
 split
 ·
  rename_i h
  refine ⟨by omega, ?_, h, ?_⟩
  ·
   have := xdH
   by_cases h2 : 1901 + n / 366 ≤ 2199
   ·
    exact h2
   ·
    have := xcY (a := 2200) (b := 1901 + n / 366) (by omega); omega
  ·
   unfold before; omega
 ·
  rename_i h
  refine ⟨by omega, by omega, ?_, ?_⟩
  ·
   unfold before; omega
  ·
   have e : 1900 + n / 366 + 1 = 1901 + n / 366 := by omega
   rw [e]; omega
theorem xeC (y d : Int) (h0 : 0 ≤ d) (h1 : d < 365 + lp y) : 1 ≤ monOf y d ∧ monOf y d ≤ 12 ∧ cum y (monOf y d) ≤ d ∧ d < cum y (monOf y d + 1) := by
 have c1 := cum_1 y; have c13 := cum_13 y
 unfold monOf
 repeat' split
 all_goals (refine ⟨by omega, by omega, ?_, ?_⟩)
 all_goals first | omega | (rw [c1]; omega) | (show d < cum y 13; omega) | assumption
def civY (n : Int) : Int := xcP n
def civM (n : Int) : Int := monOf (civY n) (n - before (civY n))
def civD (n : Int) : Int := n - before (civY n) - cum (civY n) (civM n) + 1
def xdQ (y m d : Int) : Prop := 1900 ≤ y ∧ y ≤ 2199 ∧ 1 ≤ m ∧ m ≤ 12 ∧ 1 ≤ d ∧ d ≤ mlen y m
theorem xfS (n : Int) (h0 : 0 ≤ n) (h1 : n ≤ 109572) : xdQ (civY n) (civM n) (civD n) ∧ dayOf (civY n) (civM n) (civD n) = n := by
 obtain ⟨a, b, c, d⟩ := xdF n h0 h1
 have hs := xcF (xcP n)
 obtain ⟨e, f, g, i⟩ := xeC (xcP n) (n - before (xcP n)) (by omega) (by omega)
 have hc := xeY (xcP n) _ e f
 refine ⟨⟨a, b, e, f, ?_, ?_⟩, ?_⟩
 ·
  unfold civD civM civY; omega
 ·
  unfold civD civM civY; omega
 ·
  unfold dayOf civD civM civY; omega
theorem day_rng {y m d : Int} (h : xdQ y m d) : 0 ≤ dayOf y m d ∧ dayOf y m d ≤ 109572 ∧ before y ≤ dayOf y m d ∧ dayOf y m d < before (y + 1) := by
 obtain ⟨a, b, c, e, f, g⟩ := h
 have h1 := xdU; have h2 := xdH
 have h3 := xcY a; have h4 := xcY (show y + 1 ≤ 2200 by omega)
 have h5 := xcF y
 have h6 := cum_le y (show (1 : Int) ≤ 1 by omega) c (by omega)
 have h7 := cum_le y (show 1 ≤ m + 1 by omega) (show m + 1 ≤ 13 by omega) (by omega)
 have h8 := cum_1 y; have h9 := cum_13 y; have h10 := xeY y m c e
 unfold dayOf; omega
theorem xhH {n y z : Int} (h1 : before y ≤ n) (h2 : n < before (y + 1)) (h3 : before z ≤ n) (h4 : n < before (z + 1)) : y = z := by
 by_cases h : y < z
 ·
  have := xcY (show y + 1 ≤ z by omega); omega
 ·
  by_cases h' : z < y
  ·
   have := xcY (show z + 1 ≤ y by omega); omega
  ·
   omega
instance isDateDec (y m d : Int) : Decidable (xdQ y m d) := inferInstanceAs (Decidable (1900 ≤ y ∧ y ≤ 2199 ∧ 1 ≤ m ∧ m ≤ 12 ∧ 1 ≤ d ∧ d ≤ mlen y m))
end Go.Proofs.YtkabcgmegljebaaGreatDoor.M
namespace Go.Proofs.YtkabcgmegljebaaGreatDoor.D
open Go.RowKit Go.Proofs.YtkabcgmegljebaaGreatDoorW.PrintWords Go.Proofs.YtkabcgmegljebaaGreatDoorW.PrintLast Go.Proofs.YtkabcgmegljebaaGreatDoorW.PrintMore
open Go.Proofs.YtkabcgmegljebaaGreatDoor.Q Go.Proofs.YtkabcgmegljebaaGreatDoor.H
theorem tms {a b : Int} (h : 0 ≤ a) : a.tmod b = a % b := Int.tmod_eq_emod_of_nonneg h
theorem leap_c (y : Int) (w : World) (h : 0 ≤ y) : Calls Tryz.prog 152 #[.int .i64 y] w fun e w' => e = .returned (.bool (M.leap y)) ∧ w' = w := by
 obtain ⟨b1, h1⟩ : ∃ b, (y.tmod 4 == 0) = b := ⟨_, rfl⟩
 obtain ⟨b2, h2⟩ : ∃ b, (y.tmod 100 != 0) = b := ⟨_, rfl⟩
 obtain ⟨b3, h3⟩ : ∃ b, (y.tmod 400 == 0) = b := ⟨_, rfl⟩
 have e : M.leap y = (b1 && b2 || b3) := by
  rw [← h1, ← h2, ← h3, tms h, tms h, tms h]
  unfold M.leap
  rw [Bool.eq_iff_iff]
  simp
  omega
 rw [e]
 clear e h
 cases b1
 all_goals
  cases b2
  all_goals
   cases b3
   all_goals
    go_enter Tryz.func152, Tryz.ntmps152
    go_wp2_with fail
    go_ret
    exact ⟨rfl, rfl⟩
theorem xhF (y m : Int) (w : World) (h : 0 ≤ y) : Calls Tryz.prog 138 #[.int .i64 y, .int .i64 m] w fun e w' => e = .returned (.int .i64 (M.mlen y m)) ∧ w' = w := by
 have HL : xaA (∀ w, Calls Tryz.prog 152 #[.int .i64 y] w fun e w' => e = .returned (.bool (M.leap y)) ∧ w' = w) := ⟨fun w => leap_c y w h⟩
 by_cases h2 : m = 2
 ·
  subst h2
  have e : M.mlen y 2 = if M.leap y = true then 29 else 28 := by unfold M.mlen; rw [if_pos rfl]
  rw [e]
  generalize M.leap y = b at *
  clear h e
  cases b
  all_goals
   go_enter Tryz.func138, Tryz.ntmps138
   go_wp2_with (go_at_call 152; go_loud ((with_reducible refine (HL.out _).mono ?_); rintro x w2 ⟨rfl, hw_⟩; obtain rfl := hw_.symm))
   go_ret
   exact ⟨rfl, rfl⟩
 ·
  by_cases h3 : m = 4 ∨ m = 6 ∨ m = 9 ∨ m = 11
  ·
   clear HL
   rcases h3 with rfl | rfl | rfl | rfl
   all_goals
    go_enter Tryz.func138, Tryz.ntmps138
    go_wp2_with fail
    go_ret
    exact ⟨rfl, rfl⟩
  ·
   have t1 : (m == 4) = false := beq_eq_false_iff_ne.2 (by omega)
   have t2 : (m == 6) = false := beq_eq_false_iff_ne.2 (by omega)
   have t3 : (m == 9) = false := beq_eq_false_iff_ne.2 (by omega)
   have t4 : (m == 11) = false := beq_eq_false_iff_ne.2 (by omega)
   have t5 : (m == 2) = false := beq_eq_false_iff_ne.2 h2
   have e : M.mlen y m = 31 := by unfold M.mlen; rw [if_neg h2, if_neg (by omega), if_neg (by omega), if_neg (by omega), if_neg (by omega)]
   rw [e]
   clear HL h e h2 h3
   go_enter Tryz.func138, Tryz.ntmps138
   go_wp2_with fail
   go_ret
   exact ⟨rfl, rfl⟩
theorem lenOk_c (y m : Int) (w : World) (h : 1900 ≤ y ∧ y ≤ 2199 ∧ 1 ≤ m ∧ m ≤ 12) : Calls Tryz.prog 161 #[.int .i64 y, .int .i64 m] w fun e w' => e = .returned (.tuple #[.int .i64 (M.mlen y m), .int .i64 0]) ∧ w' = w := by
 have HL : xaA (∀ w, Calls Tryz.prog 138 #[.int .i64 y, .int .i64 m] w fun e w' => e = .returned (.int .i64 (M.mlen y m)) ∧ w' = w) := ⟨fun w => xhF y m w (by omega)⟩
 have t1 : decide (y < 1900) = false := decide_eq_false (by omega)
 have t2 : decide (2199 < y) = false := decide_eq_false (by omega)
 have t3 : decide (m < 1) = false := decide_eq_false (by omega)
 have t4 : decide (12 < m) = false := decide_eq_false (by omega)
 generalize M.mlen y m = r at *
 clear h
 go_enter Tryz.func161, Tryz.ntmps161
 go_wp2_with (go_at_call 138; go_loud ((with_reducible refine (HL.out _).mono ?_); rintro x w2 ⟨rfl, hw_⟩; obtain rfl := hw_.symm))
 go_ret2
 exact ⟨rfl, rfl⟩
theorem lenBad_c (m : Int) (w : World) : Calls Tryz.prog 161 #[.int .i64 2200, .int .i64 m] w fun e w' => e = .returned (.tuple #[.int .i64 0, .int .i64 50]) ∧ w' = w := by
 go_enter Tryz.func161, Tryz.ntmps161
 go_wp2_with fail
 go_ret2
 exact ⟨rfl, rfl⟩
theorem of_in {y m d : Int} (h : M.xdQ y m d) : (0 ≤ d - 1 ∧ d - 1 ≤ 30) ∧ (1900 ≤ y ∧ y ≤ 2199) ∧ (1 ≤ m ∧ m ≤ 12) ∧ wrap64 (d - 1) = d - 1 := by
 have := M.xdE y m
 unfold M.xdQ at h
 refine ⟨by omega, by omega, by omega, ?_⟩
 unfold wrap64; omega
theorem of_facts1 {y i d : Int} (h : (1900 ≤ i ∧ i < y) ∧ y ≤ 2199) (hd : 0 ≤ d ∧ d ≤ 30) : ∃ o l o1 o2 j : Int, o = d + M.before i ∧ l = M.lp i ∧ o1 = o + 365 ∧ IntKind.i64.wrap (o + 365) = o1 ∧ o2 = o1 + 1 ∧ IntKind.i64.wrap (o1 + 1) = o2 ∧ d + M.before (i + 1) = (if M.leap i = true then o2 else o1) ∧ j = i + 1 ∧ IntKind.i64.wrap (i + 1) = j := by
 have h1 := M.xcF i
 have h2 := M.xcY (a := 1900) (b := i) h.1.1
 have h3 := M.xlU (a := 1900) (b := i) h.1.1
 rw [M.xdU] at h2 h3
 refine ⟨_, _, _, _, _, rfl, rfl, rfl, ?_, rfl, ?_, ?_, rfl, ?_⟩
 ·
  rw [i64_w]; unfold wrap64; omega
 ·
  rw [i64_w]; unfold wrap64; omega
 ·
  rw [h1]; unfold M.lp; split <;> omega
 ·
  rw [i64_w]; unfold wrap64; omega
theorem of_facts2 {y i m d : Int} (hy : 1900 ≤ y ∧ y ≤ 2199) (h : (1 ≤ i ∧ i < m) ∧ m ≤ 12) (hd : 0 ≤ d ∧ d ≤ 30) : ∃ o l o1 j : Int, o = d + M.before y + M.cum y i ∧ l = M.mlen y i ∧ IntKind.i64.wrap (o + l) = o1 ∧ o1 = d + M.before y + M.cum y (i + 1) ∧ j = i + 1 ∧ IntKind.i64.wrap (i + 1) = j := by
 have h1 := M.xeY y i h.1.1 (by omega)
 have h2 := M.xcY (a := 1900) (b := y) hy.1
 have h3 := M.xlU (a := 1900) (b := y) hy.1
 rw [M.xdU] at h2 h3
 have h4 := M.xgR y i;have h5 := M.xdE y i
 refine ⟨_, _, d + M.before y + M.cum y (i + 1), _, rfl, rfl, ?_, rfl, rfl, ?_⟩
 ·
  rw [i64_w]; unfold wrap64; omega
 ·
  rw [i64_w]; unfold wrap64; omega
theorem ofOk_c (y m d : Int) (w : World) (h : M.xdQ y m d) : Calls Tryz.prog 139 #[.int .i64 y, .int .i64 m, .int .i64 d] w fun e w' => e = .returned (.tuple #[.int .i64 (M.dayOf y m d), .int .i64 0]) ∧ w' = w := by
 obtain ⟨hd, hy, hm, hw⟩ := of_in h
 have HN : xaA (∀ w, Calls Tryz.prog 161 #[.int .i64 y, .int .i64 m] w fun e w' => e = .returned (.tuple #[.int .i64 (M.mlen y m), .int .i64 0]) ∧ w' = w) := ⟨fun w => lenOk_c y m w ⟨hy.1, hy.2, hm.1, hm.2⟩⟩
 have HLE : xaA (∀ i w, 0 ≤ i → Calls Tryz.prog 152 #[.int .i64 i] w fun e w' => e = .returned (.bool (M.leap i)) ∧ w' = w) := ⟨fun i w h => leap_c i w h⟩
 have HLN : xaA (∀ i w, Calls Tryz.prog 138 #[.int .i64 y, .int .i64 i] w fun e w' => e = .returned (.int .i64 (M.mlen y i)) ∧ w' = w) := ⟨fun i w => xhF y i w (by omega)⟩
 have t1 : decide (d < 1) = false := decide_eq_false (by omega)
 have t2 : decide (M.mlen y m < d) = false := decide_eq_false (by unfold M.xdQ at h; omega)
 have hr : M.dayOf y m d = d - 1 + M.before y + M.cum y m := by unfold M.dayOf; omega
 rw [hr]
 generalize M.mlen y m = q at *
 obtain ⟨d0, hd0⟩ : ∃ d0, d0 = d - 1 := ⟨_, rfl⟩
 rw [← hd0] at hd ⊢
 have hw0 : IntKind.i64.wrap (d - 1) = d0 := by rw [i64_w, hw, hd0]
 clear hw;have HD := am hd;have HY := am hy;have HM := am hm;clear h hr hd hy hm hd0
 go_enter Tryz.func139, Tryz.ntmps139
 go_wp2_with (go_at_call 161; go_loud ((with_reducible refine (HN.out _).mono ?_); rintro x w2 ⟨rfl, hw_⟩; obtain rfl := hw_.symm))
 skip
 go_loopg [10, 11] (y - 1900).toNat (fun kq v10 v11 w' => ∃ i o : Int, (kq = (y - i).toNat ∧ 1900 ≤ i ∧ i ≤ y) ∧ v10 = .int .i64 o ∧ v11 = .int .i64 i ∧ xaA (o = d0 + M.before i) ∧ w' = w)
 case atStart => exact ⟨1900, d0, ⟨rfl, Int.le_refl _, HY.out.1⟩, by first | rfl | rw [hw0], rfl, ⟨by rw [M.xdU]; omega⟩, rfl⟩
 case round =>
  obtain ⟨i, o, ⟨hk, hi1, hi2⟩, rfl, rfl, HO, rfl⟩ := hrel
  by_cases hlt : i < y
  ·
   have t3 : decide (i < y) = true := decide_eq_true hlt
   obtain ⟨o', l, o1, o2, j, e1, e2, e3, a1, e4, a2, e5, e6, a3⟩ := of_facts1 (d := d0) ⟨⟨hi1, hlt⟩, HY.out.2⟩ HD.out
   obtain rfl : o' = o := by rw [e1, HO.out]
   have HL2 := am (HLE.out i)
   have hi0 : 0 ≤ i := by omega
   have hm : (y - j).toNat < gk := by omega
   have HR : xaA ((1900 ≤ j ∧ j ≤ y) ∧ (y - j).toNat < gk) := ⟨by omega⟩
   rw [← e6] at e5
   generalize hb : M.leap i = b at *
   have HO2 := am e5;clear e1 e2 e3 e4 e5 e6 hb HO hk hi1 hi2 hlt hm
   cases b with
   | true =>
    go_wp2_with (go_at_call 152; go_loud ((with_reducible refine (HL2.out _ hi0).mono ?_); rintro x w2 ⟨rfl, hw_⟩; obtain rfl := hw_.symm))
    skip
    go_roundg (y - j).toNat
    case measure => exact HR.out.2
    case rel => exact ⟨j, o2, ⟨rfl, HR.out.1⟩, by first | rfl | rw [a2], by first | rfl | rw [a3], ⟨by rw [HO2.out]; rfl⟩, rfl⟩
   | false =>
    go_wp2_with (go_at_call 152; go_loud ((with_reducible refine (HL2.out _ hi0).mono ?_); rintro x w2 ⟨rfl, hw_⟩; obtain rfl := hw_.symm))
    go_roundg (y - j).toNat
    case measure => exact HR.out.2
    case rel => exact ⟨j, o1, ⟨rfl, HR.out.1⟩, by first | rfl | rw [a1], by first | rfl | rw [a3], ⟨by rw [HO2.out]; rfl⟩, rfl⟩
  ·
   obtain rfl : i = y := by omega
   have t3 : decide (i < i) = false := decide_eq_false (by omega)
   clear hk hi1 hi2 hlt HLE
   go_wp2_with fail
   skip
   go_loopg [10, 12] (m - 1).toNat (fun kq v10 v12 w' => ∃ k o : Int, (kq = (m - k).toNat ∧ 1 ≤ k ∧ k ≤ m) ∧ v10 = .int .i64 o ∧ v12 = .int .i64 k ∧ xaA (o = d0 + M.before i + M.cum i k) ∧ w' = wr)
   case atStart => exact ⟨1, o, ⟨rfl, Int.le_refl _, HM.out.1⟩, rfl, rfl, ⟨by rw [HO.out, M.cum_1]; omega⟩, rfl⟩
   case round =>
    obtain ⟨k, o, ⟨hk, hk1, hk2⟩, rfl, rfl, HO, rfl⟩ := hrel
    by_cases hlt : k < m
    ·
     have t4 : decide (k < m) = true := decide_eq_true hlt
     obtain ⟨o', l, o1, j, e1, e2, a1, e3, e4, a2⟩ := of_facts2 (d := d0) HY.out ⟨⟨hk1, hlt⟩, HM.out.2⟩ HD.out
     obtain rfl : o' = o := by rw [e1, HO.out]
     have HL2 := am (HLN.out k)
     have HR : xaA ((1 ≤ j ∧ j ≤ m) ∧ (m - j).toNat < gk) := ⟨by omega⟩
     rw [← e4] at e3
     rw [← e2] at HL2
     have HO2 := am e3;clear e1 e2 e3 e4 HO hk hk1 hk2 hlt
     go_wp2_with (go_at_call 138; go_loud ((with_reducible refine (HL2.out _).mono ?_); rintro x w2 ⟨rfl, hw_⟩; obtain rfl := hw_.symm))
     skip
     go_roundg (m - j).toNat
     case measure => exact HR.out.2
     case rel => exact ⟨j, o1, ⟨rfl, HR.out.1⟩, by first | rfl | rw [a1], by first | rfl | rw [a2], HO2, rfl⟩
    ·
     obtain rfl : k = m := by omega
     have t4 : decide (k < k) = false := decide_eq_false (by omega)
     clear hk hk1 hk2 hlt HLN
     go_wp2_with fail
     go_ret2
     exact ⟨by rw [HO.out]; first | done | rfl, rfl⟩
theorem xkA (m d : Int) (w : World) : Calls Tryz.prog 139 #[.int .i64 2200, .int .i64 m, .int .i64 d] w fun e w' => e = .returned (.tuple #[.int .i64 0, .int .i64 50]) ∧ w' = w := by
 have HN : xaA (∀ w, Calls Tryz.prog 161 #[.int .i64 2200, .int .i64 m] w fun e w' => e = .returned (.tuple #[.int .i64 0, .int .i64 50]) ∧ w' = w) := ⟨fun w => lenBad_c m w⟩
 go_enter Tryz.func139, Tryz.ntmps139
 go_wp2_with (go_at_call 161; go_loud ((with_reducible refine (HN.out _).mono ?_); rintro x w2 ⟨rfl, hw_⟩; obtain rfl := hw_.symm))
 go_ret2
 exact ⟨rfl, rfl⟩
theorem trim_c (l : List Int) (A : Option Addr) (c : Nat) (w : World) (hr : Kd.C (Kd.int .u64) w A l.length l) (hok : Ok l) (hc : l.length ≤ c) (hl : l.length ≤ 100000) :
  Calls Tryz.prog 157 #[.slice A l.length c] w fun e w' => ∃ n, n ≤ l.length ∧ dg (vl l) = l.take n ∧ e = .returned (.slice A n c) ∧ w' = w := by
 have HR := am hr;have HOK := am hok;have HL := am hl;have HC := am hc;clear hr hok hl hc
 cases A with
 | none =>
  have h0 : l.length = 0 := by
   rcases Nat.eq_zero_or_pos l.length with h | h
   ·
    exact h
   ·
    obtain ⟨ad, e, _⟩ := at_u HR.out 0 h; cases e
  obtain rfl := List.eq_nil_of_length_eq_zero h0
  clear h0
  go_enter Tryz.func157, Tryz.ntmps157
  go_wp2_with fail
  go_loopg [3] 0 (fun kq v3 w' => v3 = .int .i64 0 ∧ w' = w)
  case atStart => exact ⟨rfl, rfl⟩
  case round =>
   obtain ⟨rfl, rfl⟩ := hrel
   go_wp2_with fail
   go_ret
   exact ⟨0, Nat.zero_le _, by rw [vl, dg0]; rfl, rfl, rfl⟩
 | some ad =>
  go_enter Tryz.func157, Tryz.ntmps157
  go_wp2_with fail
  go_loopg [3] (l.length) (fun kq v3 w' => ∃ n : Nat, kq = n ∧ n ≤ l.length ∧ v3 = .int .i64 (n : Int) ∧ xaA (∀ j, n ≤ j → j < l.length → l.getD j 0 = 0) ∧ w' = w)
  case atStart => exact ⟨l.length, rfl, Nat.le_refl _, rfl, ⟨fun j h1 h2 => by omega⟩, rfl⟩
  case round =>
   obtain ⟨n, hk, hn, rfl, HZ, rfl⟩ := hrel
   have hnc : n ≤ c := by have := HC.out; omega
   by_cases h0 : n = 0
   ·
    subst h0
    go_wp2_with fail
    go_ret
    exact ⟨0, Nat.zero_le _, trim_is HOK.out (Nat.zero_le _) HZ.out (Or.inl rfl), rfl, rfl⟩
   ·
    obtain ⟨m, rfl⟩ : ∃ m, n = m + 1 := ⟨n - 1, by omega⟩
    have hw : IntKind.i64.wrap (((m + 1 : Nat) : Int) - 1) = (m : Int) := by rw [i64_w]; unfold wrap64; have := HL.out; omega
    have hw3 : wrap64 (m : Int) = (m : Int) := by unfold wrap64; have := HL.out; omega
    have hw2 : IntKind.i64.wrap ((m : Int) + 1 - 1) = (m : Int) := by rw [i64_w]; unfold wrap64; have := HL.out; omega
    obtain ⟨ad2, e, hcell⟩ := at_u HR.out m (by omega)
    injection e with e
    subst e
    have hml : m < l.length := by omega
    obtain ⟨d, hd⟩ : ∃ d, d = l.getD m 0 := ⟨_, rfl⟩
    rw [← hd] at hcell
    have HD := am hd;clear hd
    by_cases hz : d = 0
    ·
     have t1 : (d == 0) = true := beq_iff_eq.2 hz
     have HZ2 : xaA (∀ j, m ≤ j → j < l.length → l.getD j 0 = 0) := ⟨fun j h1 h2 => by
      by_cases e : j = m
      ·
       rw [e, ← HD.out]; exact hz
      ·
       exact HZ.out j (by omega) h2⟩
     clear hz
     go_wp2_with fail
     go_roundg m
     case measure => omega
     case rel => exact ⟨m, rfl, by omega, by go_num, HZ2, rfl⟩
    ·
     have t1 : (d == 0) = false := beq_eq_false_iff_ne.2 hz
     have HNE : xaA (l.getD (m + 1 - 1) 0 ≠ 0) := ⟨by rw [Nat.add_sub_cancel, ← HD.out]; exact hz⟩
     clear hz
     go_wp2_with fail
     go_ret
     exact ⟨m + 1, hn, trim_is HOK.out hn HZ.out (Or.inr HNE.out), rfl, rfl⟩
theorem digit_c (l : List Int) (A : Option Addr) (c : Nat) (i : Int) (w : World) (hr : Kd.C (Kd.int .u64) w A l.length l) (h0 : 0 ≤ i) : Calls Tryz.prog 170 #[.slice A l.length c, .int .i64 i] w fun e w' => e = .returned (.int .u64 (l.getD i.toNat 0)) ∧ w' = w := by
 obtain ⟨k, rfl⟩ : ∃ k : Nat, i = (k : Int) := ⟨i.toNat, by omega⟩
 rw [Int.toNat_natCast]
 have t1 : decide ((k : Int) < 0) = false := decide_eq_false (by omega)
 by_cases h : k < l.length
 ·
  obtain ⟨ad, e, hcell⟩ := at_u hr k h
  subst e
  have t2 : decide ((l.length : Int) ≤ (k : Int)) = false := decide_eq_false (by omega)
  have t3 : decide (l.length ≤ k) = false := decide_eq_false (by omega)
  generalize l.getD k 0 = d at hcell ⊢
  clear hr h0
  go_enter Tryz.func170, Tryz.ntmps170
  go_wp2
  go_ret
  exact ⟨rfl, rfl⟩
 ·
  have t2 : decide ((l.length : Int) ≤ (k : Int)) = true := decide_eq_true (by omega)
  have t3 : decide (l.length ≤ k) = true := decide_eq_true (by omega)
  rw [List.getD_eq_getElem?_getD, List.getElem?_eq_none (by omega)]
  clear hr h0
  go_enter Tryz.func170, Tryz.ntmps170
  go_wp2
  go_ret
  exact ⟨rfl, rfl⟩
def DG (w : World) (base : Nat) (A : Option Addr) (c n : Nat) : Prop := Sl (Kd.int .u64) 74 w base (fun _ => True) A c (dg n)
theorem u64_w {x : Int} (h0 : 0 ≤ x) (h1 : x < 18446744073709551616) : IntKind.u64.wrap x = x := by
 unfold IntKind.wrap
 simp [IntKind.bits, IntKind.signed]
 omega
theorem vl_two (N : Nat) : vl [(N : Int) % 4294967296, (N : Int) / 4294967296] = N := by
  unfold vl vl vl; omega
theorem digits_c (N : Nat) (w : World) (hN : N < 18446744073709551616) : Calls Tryz.prog 134 #[.int .u64 (N : Int)] w fun e w' => ∃ A c, e = .returned (.slice A (dg N).length c) ∧ DG w' w.heap.size A c N ∧ Below w.heap.size w w' := by
 have hb := xbF w (.cells #[.int .u64 ((N : Int) % 4294967296), .int .u64 ((N : Int) / 4294967296)] 74)
 have hu : UB (w.alloc (.cells #[.int .u64 ((N : Int) % 4294967296), .int .u64 ((N : Int) / 4294967296)] 74)) w.heap.size [(N : Int) % 4294967296, (N : Int) / 4294967296] := hb
 have hs := hu.sl (Nat.le_refl _) (by simp)
 have hok : Ok [(N : Int) % 4294967296, (N : Int) / 4294967296] := fun d hd => by
  simp only [List.mem_cons, List.not_mem_nil, or_false] at hd
  rcases hd with rfl | rfl <;> omega
 have ht : Calls Tryz.prog 157 #[.slice (some ⟨w.heap.size, 0, none⟩) 2 2] (w.alloc (.cells #[.int .u64 ((N : Int) % 4294967296), .int .u64 ((N : Int) / 4294967296)] 74)) fun e w' => ∃ n, n ≤ 2 ∧ dg N = [(N : Int) % 4294967296, (N : Int) / 4294967296].take n ∧ e = .returned (.slice (some ⟨w.heap.size, 0, none⟩) n 2) ∧ w' = w.alloc (.cells #[.int .u64 ((N : Int) % 4294967296), .int .u64 ((N : Int) / 4294967296)] 74) := by
  have h := trim_c _ _ _ _ hs.C hok hs.le (by simp)
  rw [vl_two] at h
  exact h
 have HS := am hs;have HT := am ht
 have e1 : IntKind.u64.wrap ((N : Int) / 4294967296) = (N : Int) / 4294967296 := by rw [u64_w (by omega) (by omega)]
 clear hb hu hs hok ht hN
 go_enter Tryz.func134, Tryz.ntmps134
 go_wp2_with (go_at_call 157; go_loud ((with_reducible refine (HT.out).mono ?_); rintro e w' ⟨n, hn, hd, rfl, hw_⟩; obtain rfl := hw_.symm; have HN := am hn; have HD := am hd; clear hn hd))
 go_ret
 have h2 := HS.out.head n 2 HN.out HN.out (Nat.le_refl _)
 rw [← HD.out] at h2
 have hl : (dg N).length = n := by rw [HD.out, List.length_take]; have := HN.out; simp only [List.length_cons, List.length_nil]; omega
 exact ⟨_, 2, by rw [hl]; rfl, h2, xaH (Below.refl _ _) _⟩
def bl (n : Nat) : Nat := if h : n = 0 then 0 else bl (n / 2) + 1
termination_by n
decreasing_by omega
theorem bl0 : bl 0 = 0 := by rw [bl, dif_pos rfl]
theorem blS {n : Nat} (h : n ≠ 0) : bl n = bl (n / 2) + 1 := by rw [bl, dif_neg h]
theorem bl_rng {n : Nat} (h : n ≠ 0) : ∃ k, bl n = k + 1 ∧ 2 ^ k ≤ n ∧ n < 2 ^ (k + 1) := by
 induction n using Nat.strongRecOn with
 | _ n ih =>
  rw [blS h]
  by_cases h2 : n / 2 = 0
  ·
   exact ⟨0, by rw [h2, bl0], by simp; omega, by simp; omega⟩
  ·
   obtain ⟨k, h3, h4, h5⟩ := ih (n / 2) (by omega) h2
   exact ⟨k + 1, by rw [h3], by rw [Nat.pow_succ]; omega, by rw [Nat.pow_succ]; omega⟩
theorem xlT {n : Nat} (h : n ≠ 0) : bl n = n.log2 + 1 := by
 obtain ⟨k, h1, h2, h3⟩ := bl_rng h
 have h4 := (Nat.le_log2 h).2 h2
 have h5 := (Nat.log2_lt h).2 h3
 omega
theorem bl_le {n k : Nat} (h : n < 2 ^ k) : bl n ≤ k := by
 by_cases h0 : n = 0
 ·
  subst h0; rw [bl0]; exact Nat.zero_le _
 ·
  obtain ⟨j, h1, h2, h3⟩ := bl_rng h0
  have h4 : 2 ^ j < 2 ^ k := Nat.lt_of_le_of_lt h2 h
  have h5 := (Nat.pow_lt_pow_iff_right (by decide)).1 h4
  omega
theorem bl_div : ∀ (k n : Nat), 2 ^ k ≤ n → bl n = bl (n / 2 ^ k) + k
 | 0, n, _ => by rw [Nat.pow_zero, Nat.div_one, Nat.add_zero]
 | k + 1, n, h => by
  have h1 : 2 ^ k ≤ n / 2 := by rw [Nat.pow_succ] at h; omega
  have h0 : n ≠ 0 := by have := Nat.two_pow_pos k; omega
  rw [blS h0, bl_div k (n / 2) h1, Nat.div_div_eq_div_mul, Nat.pow_succ, Nat.mul_comm 2]; omega
theorem dg_one {n : Nat} (h : n ≠ 0) (h2 : n < 4294967296) : dg n = [(n : Int)] := by
  rw [dgS h, show n / 4294967296 = 0 by omega, dg0, show n % 4294967296 = n by omega]
theorem dg_ne {n : Nat} (h : n ≠ 0) : dg n ≠ [] := by rw [dgS h]; simp
theorem bl_dg (n : Nat) (h : n ≠ 0) : bl n = 32 * ((dg n).length - 1) + bl ((dg n).getD ((dg n).length - 1) 0).toNat := by
 induction n using Nat.strongRecOn with
 | _ n ih =>
  by_cases h2 : n < 4294967296
  ·
   rw [dg_one h h2]; simp
  ·
   have ih := ih (n / 4294967296) (by omega) (by omega)
   have h3 : bl n = bl (n / 4294967296) + 32 := bl_div 32 n (by omega)
   have hne := dg_ne (n := n / 4294967296) (by omega)
   rw [dgS h]
   generalize dg (n / 4294967296) = l at ih hne
   match l, hne with
   | d :: r, _ =>
    simp only [List.length_cons, Nat.add_sub_cancel, List.getD_cons_succ] at ih ⊢
    omega
theorem len_c (N : Nat) (A : Option Addr) (c : Nat) (w : World) (hr : Kd.C (Kd.int .u64) w A (dg N).length (dg N)) (hl : (dg N).length ≤ 1000) : Calls Tryz.prog 130 #[.slice A (dg N).length c] w fun e w' => e = .returned (.int .i64 (bl N : Int)) ∧ w' = w := by
 by_cases h0 : N = 0
 ·
  subst h0
  rw [dg0, bl0]
  clear hr hl
  go_enter Tryz.func130, Tryz.ntmps130
  go_wp2_with fail
  go_ret
  exact ⟨rfl, rfl⟩
 ·
  have hb := bl_dg N h0;have hok := ok_dg N
  obtain ⟨m, hm⟩ : ∃ m, (dg N).length = m + 1 := ⟨(dg N).length - 1, by have := List.length_pos_iff.2 (dg_ne h0); omega⟩
  have hx := xcK hok m
  obtain ⟨ad, e, hcell⟩ := at_u hr m (by omega)
  subst e
  rw [hm, Nat.add_sub_cancel] at hb
  rw [hm] at hl ⊢
  generalize (dg N).getD m 0 = x at hb hx hcell
  obtain ⟨y, rfl⟩ : ∃ y : Nat, x = (y : Int) := ⟨x.toNat, by omega⟩
  rw [Int.toNat_natCast] at hb
  have HB := am hb
  have HX : xaA (y < 4294967296) := ⟨by omega⟩
  have hw1 : IntKind.i64.wrap (((m + 1 : Nat) : Int) - 1) = (m : Int) := by rw [i64_w]; unfold wrap64; omega
  have hw2 : wrap64 (m : Int) = (m : Int) := by unfold wrap64; omega
  have hw3 : IntKind.i64.wrap (32 * (m : Int)) = 32 * (m : Int) := by rw [i64_w]; unfold wrap64; omega
  have hw4 : wrap64 (32 * (m : Int)) = 32 * (m : Int) := by unfold wrap64; omega
  have hmm : m < m + 1 := Nat.lt_succ_self m
  have HBN : xaA (bl N ≤ 40000) := ⟨by have := bl_le (n := y) (k := 32) (by omega); omega⟩
  have t0 : ((m : Int) + 1 == 0) = false := beq_eq_false_iff_ne.2 (by omega)
  clear hb hok hx hm h0 hr hl
  go_enter Tryz.func130, Tryz.ntmps130
  go_wp2_with fail
  clear hw1 hw2 hw3 hw4
  go_loopg [3, 4] (bl y) (fun kq v3 v4 w' => ∃ (z n : Nat), kq = bl z ∧ v4 = .int .u64 (z : Int) ∧ v3 = .int .i64 (n : Int) ∧ n + bl z = bl N ∧ z < 4294967296 ∧ w' = w)
  case atStart => exact ⟨y, 32 * m, rfl, rfl, by push_cast; rfl, HB.out.symm, HX.out, rfl⟩
  case round =>
   obtain ⟨z, n, hk, rfl, rfl, hn, hz, rfl⟩ := hrel
   have hnn : n ≤ 40000 := by have := HBN.out; omega
   by_cases hz0 : z = 0
   ·
    subst hz0
    rw [bl0, Nat.add_zero] at hn
    subst hn
    go_wp2_with fail
    go_ret
    exact ⟨rfl, rfl⟩
   ·
    have t1 : decide ((0 : Int) < (z : Int)) = true := decide_eq_true (by omega)
    have t2 : 0 < z := by omega
    have hq : IntKind.u64.wrap ((z : Int) / 2) = ((z / 2 : Nat) : Int) := by rw [u64_w (by omega) (by omega)]; omega
    have hwn : IntKind.i64.wrap ((n : Int) + 1) = ((n + 1 : Nat) : Int) := by rw [i64_w]; unfold wrap64; omega
    have hbz := blS hz0
    have HN : xaA (n + 1 + bl (z / 2) = bl N) := ⟨by omega⟩
    have HKK : xaA (gk = bl (z / 2) + 1) := ⟨by omega⟩
    clear hn hbz
    go_wp2_with fail
    clear hq hwn
    go_roundg (bl (z / 2))
    case measure => have := HKK.out; omega
    case rel => exact ⟨z / 2, n + 1, rfl, by first | rfl | (congr 1; rw [u64_w (by omega) (by omega)]; omega), by go_num, HN.out, by omega, rfl⟩
theorem xjB {P : Program} {ops : Array Oper} {rest : List Oper} {o : Oper} {a : Act} {Q : Exit → Act → World → Prop} {W : World} (hgd : o.guard = none) {N : Tmp} (hd : o.dst = some N) (n : Nat)
  (hrun : (execOp a.eval o).run P W = .ok (.value (.slice (some ⟨W.heap.size, 0, none⟩) n n)) (W.alloc (.cells (Array.replicate n (Value.int .u64 0)) 74)))
  (h : ∀ g w1, g = W.heap.size → UB w1 g (List.replicate n 0) → Below W.heap.size W w1 → wpList P ops Q rest (a.put o.dst (.slice (some ⟨g, 0, none⟩) n n)) w1) : wpList P ops Q (o :: rest) a W :=
 Kd.xgD hgd hrun (h _ _ rfl (UB.made W n) (xaH (Below.refl _ _) _))
theorem xiU (w : World) (n : Nat) (hn : n ≤ 100000) : (Instr.makeSlice 170 (.int .i64 (n : Int)) (.int .i64 (n : Int))).run Tryz.prog w = .ok (.slice (some ⟨w.heap.size, 0, none⟩) n n) (w.alloc (.cells (Array.replicate n (Value.int .u64 0)) 74)) := by
 obtain ⟨i0, hi, hzz⟩ := Option.map_eq_some_iff.1 info74
 simp only [Prod.mk.injEq] at hzz
 obtain ⟨hz0, hz1, hz2⟩ := hzz
 rw [run_make (P := Tryz.prog) w 170 74 i0 (.int .u64 0) Tryz.underlying170 hi hz0 .i64 .i64 (n : Int) (n : Int) (by omega) (by omega) (by rw [hz2]; omega) (by omega)]
 rw [Int.toNat_natCast, hz1, Nat.mul_one]
 have e : madeCells (Value.int IntKind.u64 0).cells n = Array.replicate n (Value.int .u64 0) := by
  apply Array.ext'
  rw [show (Value.int IntKind.u64 0).cells = #[.int .u64 0] from rfl, toList_madeCells_one, Array.toList_replicate]
 rw [e]
theorem wrap2 {x : Int} {m : Nat} (h : x = (m : Int)) (hm : m ≤ 1000000) : IntKind.i64.wrap x = (m : Int) ∧ wrap64 x = (m : Int) := by
  subst h; rw [i64_w]; unfold wrap64; omega
theorem uwrap {x : Int} {m : Nat} (h : x = (m : Int)) (hm : m < 18446744073709551616) : IntKind.u64.wrap x = (m : Int) := by
  subst h; exact u64_w (by omega) (by omega)
theorem pow_s {s : Nat} (h : s ≤ 31) : 1 ≤ 2 ^ s ∧ 2 ^ s ≤ 2147483648 := by
 have h1 : (2 : Nat) ^ s ≤ 2 ^ 31 := Nat.pow_le_pow_right (by decide) h
 have h2 := Nat.two_pow_pos s
 have h3 : (2 : Nat) ^ 31 = 2147483648 := by decide
 omega
theorem shl_nat {x s : Nat} (hx : x < 4294967296) (hs : s ≤ 31) : shl .u64 (x : Int) (s : Int) = ((x * 2 ^ s : Nat) : Int) ∧ x * 2 ^ s < 18446744073709551616 := by
 obtain ⟨a, b⟩ := pow_s hs
 have hm : x * 2 ^ s ≤ 4294967295 * 2147483648 := Nat.mul_le_mul (by omega) b
 have hlt : x * 2 ^ s < 18446744073709551616 := by omega
 refine ⟨?_, hlt⟩
 unfold shl
 rw [Int.toNat_natCast, show min s (IntKind.bits .u64) = s from Nat.min_eq_left (by show s ≤ 64; omega)]
 have e : ((x : Int) * 2 ^ s) = ((x * 2 ^ s : Nat) : Int) := by push_cast; rfl
 rw [e, u64_w (by omega) (by omega)]
structure UpI (d out : List Int) (k i : Nat) : Prop where
 len : out.length = d.length + k / 32 + 1
 ok : Ok out
 val : vl out = vl (d.take i) * 2 ^ k
 zero : ∀ j, i + k / 32 < j → out.getD j 0 = 0
 low : (out.getD (i + k / 32) 0).toNat < 2 ^ (k % 32)
theorem up0 (d : List Int) (k : Nat) : UpI d (List.replicate (d.length + k / 32 + 1) 0) k 0 :=
 have hz : ∀ j, (List.replicate (d.length + k / 32 + 1) (0 : Int)).getD j 0 = 0 := fun j => by
  rw [List.getD_eq_getElem?_getD, List.getElem?_replicate]; split <;> rfl
 ⟨List.length_replicate, xfN _, by rw [xeR, List.take_zero, vl, Nat.zero_mul], fun j _ => hz j, by rw [hz]; exact Nat.two_pow_pos _⟩
theorem up_step {d out : List Int} {k i : Nat} (h : UpI d out k i) (hd : Ok d) (hi : i < d.length) {y : Nat} (hy : y = (d.getD i 0).toNat * 2 ^ (k % 32)) :
  (out.getD (i + k / 32) 0).toNat + y % 4294967296 < 4294967296 ∧ UpI d ((out.set (i + k / 32) (((out.getD (i + k / 32) 0).toNat + y % 4294967296 : Nat) : Int)).set (i + k / 32 + 1) ((y / 4294967296 : Nat) : Int)) k (i + 1) := by
 obtain ⟨hlen, hok, hval, hzero, hlow⟩ := h
 have hdi := xcK hd i
 have hr : k % 32 ≤ 31 := by omega
 obtain ⟨p1, p2⟩ := pow_s hr
 have hb : (2 : Nat) ^ (k % 32) * 2 ^ (32 - k % 32) = 4294967296 := by rw [← Nat.pow_add, show k % 32 + (32 - k % 32) = 32 by omega]
 obtain ⟨P, hP⟩ : ∃ P, P = 2 ^ (k % 32) := ⟨_, rfl⟩
 obtain ⟨R, hR⟩ : ∃ R, R = 2 ^ (32 - k % 32) := ⟨_, rfl⟩
 rw [← hP] at hy hlow p1 p2 hb
 rw [← hR] at hb
 have hmod : y % 4294967296 + P ≤ 4294967296 := by
  have h1 : y % 4294967296 = P * ((d.getD i 0).toNat % R) := by rw [hy, ← hb, Nat.mul_comm (d.getD i 0).toNat P, Nat.mul_mod_mul_left]
  have hR0 : 0 < R := by rw [hR]; exact Nat.two_pow_pos _
  have h2 := Nat.mod_lt (d.getD i 0).toNat hR0
  have h3 : P * ((d.getD i 0).toNat % R + 1) ≤ P * R := Nat.mul_le_mul_left _ h2
  rw [Nat.mul_add, Nat.mul_one, hb, ← h1] at h3
  exact h3
 have hdiv : y / 4294967296 < P := by
  have h1 : y < 4294967296 * P := by
   rw [hy]
   exact Nat.mul_lt_mul_of_pos_right (by omega) (by omega)
  exact Nat.div_lt_of_lt_mul h1
 have hlt : (out.getD (i + k / 32) 0).toNat + y % 4294967296 < 4294967296 := by omega
 have e1 : i + k / 32 < out.length := by omega
 have e2 : i + k / 32 + 1 < (out.set (i + k / 32) (((out.getD (i + k / 32) 0).toNat + y % 4294967296 : Nat) : Int)).length := by rw [List.length_set]; omega
 refine ⟨hlt, by rw [List.length_set, List.length_set]; exact hlen, xgZ (xgZ hok (by omega) (by omega)) (by omega) (by omega), ?_, fun j hj => ?_, ?_⟩
 ·
  have v1 := xfZ out (i + k / 32) (((out.getD (i + k / 32) 0).toNat + y % 4294967296 : Nat) : Int) e1
  have v2 := xfZ _ (i + k / 32 + 1) ((y / 4294967296 : Nat) : Int) e2
  rw [xcT, if_neg (fun q => by omega), hzero (i + k / 32 + 1) (by omega)] at v2
  rw [Int.toNat_natCast] at v1 v2
  rw [xgW hi, Nat.add_mul, ← hval]
  have hk : 2 ^ k = 4294967296 ^ (k / 32) * P := by
   rw [hP, show (4294967296 : Nat) = 2 ^ 32 by decide, ← Nat.pow_mul, ← Nat.pow_add]; congr 1; omega
  have hsum : y * 4294967296 ^ (i + k / 32) = (d.getD i 0).toNat * 4294967296 ^ i * 2 ^ k := by
   rw [hk, hy, Nat.pow_add]; simp only [Nat.mul_comm, Nat.mul_left_comm, Nat.mul_assoc]
  rw [← hsum]
  rw [Nat.pow_succ] at v2
  generalize 4294967296 ^ (i + k / 32) = W at v1 v2 ⊢
  rw [Nat.add_mul] at v1
  have hy2 : y * W = y % 4294967296 * W + y / 4294967296 * (W * 4294967296) := by
   conv => lhs; rw [show y = y % 4294967296 + 4294967296 * (y / 4294967296) by omega]
   rw [Nat.add_mul]; congr 1; simp only [Nat.mul_comm, Nat.mul_left_comm, Nat.mul_assoc]
  rw [hy2]
  simp only [Int.toNat_zero, Nat.zero_mul, Nat.add_zero] at v2
  omega
 ·
  rw [xcT, xcT, if_neg (fun q => by omega), if_neg (fun q => by omega)]
  exact hzero j (by omega)
 ·
  rw [xcT, if_pos ⟨by omega, e2⟩, Int.toNat_natCast]; rw [← hP]; exact hdiv
theorem up_facts {d out : List Int} {k i q r n : Nat} (h : UpI d out k i) (hok : Ok d) (hi : i < d.length) (hq : q = k / 32) (hr : r = k % 32) (hn : n = d.length + k / 32 + 1) (hl : d.length ≤ 1000) (hk : k ≤ 20000) :
  ∃ x o y j j1 v1 v2 : Nat, d.getD i 0 = (x : Int) ∧ out.getD j 0 = (o : Int) ∧ IntKind.u64.wrap ((x : Int) * 2 ^ min r 64) = (y : Int) ∧ j < n ∧ j1 < n ∧ j < out.length ∧ j1 < (out.set j (v1 : Int)).length ∧
   (IntKind.i64.wrap ((i : Int) + (q : Int)) = (j : Int) ∧ wrap64 (j : Int) = (j : Int)) ∧ (IntKind.i64.wrap ((j : Int) + 1) = (j1 : Int) ∧ wrap64 (j1 : Int) = (j1 : Int)) ∧
   IntKind.u64.wrap ((o : Int) + (y : Int) % 4294967296) = (v1 : Int) ∧ IntKind.u64.wrap ((y : Int) / 4294967296) = (v2 : Int) ∧ IntKind.u64.wrap ((y : Int) % 4294967296) = (y : Int) % 4294967296 ∧ UpI d ((out.set j (v1 : Int)).set j1 (v2 : Int)) k (i + 1) ∧ (IntKind.i64.wrap ((i : Int) + 1) = ((i + 1 : Nat) : Int) ∧ wrap64 ((i : Int)) = (i : Int)) := by
 have hdi := xcK hok i
 obtain ⟨x, hx⟩ : ∃ x : Nat, d.getD i 0 = (x : Int) := ⟨(d.getD i 0).toNat, by omega⟩
 have hoi := xcK h.ok (i + q)
 obtain ⟨o, ho⟩ : ∃ o : Nat, out.getD (i + q) 0 = (o : Int) := ⟨(out.getD (i + q) 0).toNat, by omega⟩
 obtain ⟨y, hy⟩ : ∃ y, y = x * 2 ^ (k % 32) := ⟨_, rfl⟩
 obtain ⟨hsh, hylt⟩ := shl_nat (x := x) (s := k % 32) (by omega) (by omega)
 rw [← hy] at hsh hylt
 have hst := up_step h hok hi (y := y) (by rw [hx, Int.toNat_natCast]; exact hy)
 have hlen := h.len;clear hy
 rw [← hq, ho, Int.toNat_natCast] at hst
 rw [← hr] at hsh
 refine ⟨x, o, y, i + q, i + q + 1, o + y % 4294967296, y / 4294967296, hx, ho, by unfold shl at hsh; rw [Int.toNat_natCast] at hsh; exact hsh, by omega, by omega, by omega, by rw [List.length_set]; omega, ⟨?_, ?_⟩, ⟨?_, ?_⟩, uwrap ?_ (by omega), uwrap ?_ (by omega), ?_, hst.2, ⟨?_, ?_⟩⟩
 ·
  exact (wrap2 (by omega) (by omega)).1
 ·
  exact (wrap2 rfl (by omega)).2
 ·
  exact (wrap2 (by omega) (by omega)).1
 ·
  exact (wrap2 rfl (by omega)).2
 ·
  clear hst hsh; omega
 ·
  clear hst hsh; omega
 ·
  exact uwrap (m := y % 4294967296) (by omega) (by omega)
 ·
  exact (wrap2 (by omega) (by omega)).1
 ·
  exact (wrap2 rfl (by omega)).2
theorem up_in {d : List Int} {k q r n : Nat} {K : Int} (hK : K = (k : Int)) (hq : q = k / 32) (hr : r = k % 32) (hn : n = d.length + k / 32 + 1) (hl : d.length ≤ 1000) (hk : k ≤ 20000) (h0 : d ≠ []) :
  ((d.length : Int) == 0) = false ∧ K.tdiv 32 = (q : Int) ∧ K.tmod 32 = (r : Int) ∧ wrap64 (q : Int) = (q : Int) ∧ IntKind.i64.wrap (q : Int) = (q : Int) ∧ wrap64 (r : Int) = (r : Int) ∧ IntKind.i64.wrap (r : Int) = (r : Int) ∧
   (IntKind.i64.wrap ((d.length : Int) + (q : Int)) = (d.length : Int) + (q : Int) ∧ wrap64 ((d.length : Int) + (q : Int)) = (d.length : Int) + (q : Int)) ∧ IntKind.i64.wrap ((d.length : Int) + (q : Int) + 1) = (n : Int) ∧ wrap64 (n : Int) = (n : Int) ∧ n ≤ 100000 ∧ ¬ (r : Int) < 0 := by
 have h1 := List.length_pos_iff.2 h0
 refine ⟨beq_eq_false_iff_ne.2 (by omega), by subst hK; rw [Int.tdiv_eq_ediv_of_nonneg (by omega)]; omega, by subst hK; rw [Int.tmod_eq_emod_of_nonneg (by omega)]; omega, (wrap2 (x := (q : Int)) rfl (by omega)).2, (wrap2 (x := (q : Int)) rfl (by omega)).1, (wrap2 (x := (r : Int)) rfl (by omega)).2, (wrap2 (x := (r : Int)) rfl (by omega)).1, ?_, (wrap2 (by omega) (by omega)).1, (wrap2 (x := (n : Int)) rfl (by omega)).2, by omega, by omega⟩
 have h := wrap2 (x := (d.length : Int) + (q : Int)) (m := d.length + q) (by omega) (by omega)
 push_cast at h
 exact h
theorem up_end {d out : List Int} {k N n : Nat} (h : UpI d out k d.length) (hv : vl d = N) (hn : n = d.length + k / 32 + 1) : Ok out ∧ out.length = n ∧ vl out = N * 2 ^ k :=
  ⟨h.ok, by rw [hn]; exact h.len, by rw [h.val, List.take_length, hv]⟩
theorem xfL {w : World} {b : Nat} {out : List Int} {N n base : Nat} (h : UB w b out) (hok : Ok out) (hlen : out.length = n) (hv : vl out = N) (hn : n ≤ 100000) (hb : base ≤ b) :
  Calls Tryz.prog 157 #[.slice (some ⟨b, 0, none⟩) n n] w fun e w' => e = .returned (.slice (some ⟨b, 0, none⟩) (dg N).length n) ∧ w' = w ∧ DG w base (some ⟨b, 0, none⟩) n N := by
 subst hlen
 have hs := h.sl hb (by omega)
 refine (trim_c out _ out.length w hs.C hok (Nat.le_refl _) hn).mono ?_
 rintro e w' ⟨m, hm, hd, rfl, rfl⟩
 rw [hv] at hd
 have hl : (dg N).length = m := by rw [hd, List.length_take, Nat.min_eq_left hm]
 have h2 := hs.head m out.length hm hm (Nat.le_refl _)
 rw [← hd] at h2
 exact ⟨by rw [hl], rfl, h2⟩
theorem xhM (N k : Nat) (A : Option Addr) (c : Nat) (w : World) (hr : Kd.C (Kd.int .u64) w A (dg N).length (dg N)) (hl : (dg N).length ≤ 1000) (hk : k ≤ 20000) :
  Calls Tryz.prog 132 #[.slice A (dg N).length c, .int .i64 (k : Int)] w fun e w' => ∃ A' c', e = .returned (.slice A' (dg (N * 2 ^ k)).length c') ∧ DG w' w.heap.size A' c' (N * 2 ^ k) ∧ Below w.heap.size w w' := by
 by_cases h0 : N = 0
 ·
  subst h0
  rw [Nat.zero_mul, dg0]
  clear hr hl hk
  go_enter Tryz.func132, Tryz.ntmps132
  go_wp2_with fail
  go_ret
  exact ⟨none, 0, rfl, by unfold DG; rw [dg0]; exact Sl.nil _ _ _ _ _, Below.refl _ _⟩
 ·
  have hok := ok_dg N;have hv := vl_dg N;have hne := dg_ne h0
  generalize dg N = d at hr hl hok hv hne ⊢
  obtain ⟨K, hK⟩ : ∃ K : Int, K = (k : Int) := ⟨_, rfl⟩
  rw [← hK]
  obtain ⟨q, hq⟩ : ∃ q, q = k / 32 := ⟨_, rfl⟩
  obtain ⟨r, hr0⟩ : ∃ r, r = k % 32 := ⟨_, rfl⟩
  obtain ⟨n, hn⟩ : ∃ n, n = d.length + k / 32 + 1 := ⟨_, rfl⟩
  have HU0 := am (up0 d k)
  rw [← hn] at HU0
  obtain ⟨t0, hq1, hq2, hqw, hqw2, hrw, hrw2, ⟨hn1, hn2⟩, hn3, hn4, hn5, hr3⟩ := up_in hK hq hr0 hn hl hk hne
  have hmk := fun w' => xiU w' n hn5
  have HR := am hr;have HOK := am hok;have HV := am hv;have HL := am hl;have HK := am hk;have HQ := am hq;have HR0 := am hr0;have HN := am hn;have HN5 := am hn5;clear hr hok hv hl hne hk hq hr0 hn h0 hK hn5
  go_enter Tryz.func132, Tryz.ntmps132
  go_wp2_with ((with_reducible refine xaJ (N := 17) rfl ?_); refine xjB ?hg (N := 17) ?hd n ?hr ?_; (case hd => rfl); (case hg => rfl); (case hr => first | (go_simp; done) | (go_simp; rfl)); intro b w1 hb0 hub hbl; have HU := am hub; have HBL := am hbl; have HB0 := am hb0; clear hub hbl hb0)
  clear hn1 hn2 hn3 hn4 hmk
  go_loopg [6] (d.length) (fun kq v6 w' => ∃ (i : Nat) (out : List Int), kq + i = d.length ∧ v6 = .int .i64 (i : Int) ∧ xaA (UpI d out k i) ∧ xaA (UB w' b out) ∧ xaA (Below w.heap.size w w'))
  case atStart => exact ⟨0, List.replicate n 0, by omega, rfl, HU0, HU, HBL⟩
  case round =>
   clear HU HBL HU0
   obtain ⟨i, out, hk, rfl, HUP, HU, HBL⟩ := hrel
   by_cases hil : i < d.length
   ·
    obtain ⟨x, o, y, j, j1, v1, v2, hx, ho, hsh, hjn, hjn1, hjl, hjl1, ⟨i1, i2⟩, ⟨i3, i4⟩, u1, u2, u3, hst, ⟨i5, i6⟩⟩ := up_facts HUP.out HOK.out hil HQ.out HR0.out HN.out HL.out HK.out
    obtain ⟨ad, e, hc1⟩ := at_u (Kd.xaQ HR.out HBL.out) i hil
    subst e;have hc2 := HU.out.cell j hjl
    rw [hx] at hc1
    rw [ho] at hc2
    have hf1 := HU.out.frozen j
    have hf2 := (HU.out.put j (v1 : Int)).frozen j1
    have hc3 := (HU.out.put j (v1 : Int)).cell j1 hjl1
    have HST := am hst;have HKQ := am hk;clear hst hx ho hjl hjl1 hk
    generalize hg : (out.set j (v1 : Int)).getD j1 0 = z at hc3
    clear hg
    go_wp2_with fail
    clear hsh i1 i2 i3 i4 i5 i6 u1 u2 u3 hq1 hq2 hqw hqw2 hrw hrw2 hc1 hc2 hc3 hf1 hf2 hjn hjn1 t0 hr3
    go_roundg (d.length - (i + 1))
    case measure => have := HKQ.out; omega
    case rel => exact ⟨i + 1, (out.set j (v1 : Int)).set j1 (v2 : Int), by have := HKQ.out; clear HU HBL HST HUP; omega, by first | rfl | go_num, HST, ⟨(HU.out.put j v1).put j1 v2⟩, ⟨xaF (xaF HBL.out (by have := HB0.out; omega)) (by have := HB0.out; omega)⟩⟩
   ·
    have hk0 : i = d.length := by omega
    subst hk0
    obtain ⟨e1, e2, e3⟩ := up_end HUP.out HV.out HN.out
    have HC := am (xfL HU.out e1 e2 e3 HN5.out (show w.heap.size ≤ b by have := HB0.out; omega))
    clear e1 e2 e3 hil hk hq1 hq2 hqw hqw2 hrw hrw2 hr3
    go_wp2_with (go_at_call 157; go_loud ((with_reducible refine (HC.out).mono ?_); rintro e w' ⟨rfl, hw_, HD⟩; obtain rfl := hw_.symm; have HDD := am HD; clear HD))
    go_ret
    exact ⟨_, _, rfl, HDD.out, HBL.out⟩
theorem xcJ (l : List Int) (i : Nat) : vl (l.take (i + 1)) = vl (l.take i) + (l.getD i 0).toNat * 4294967296 ^ i := by
 by_cases h : i < l.length
 ·
  exact xgW h
 ·
  rw [List.take_of_length_le (by omega), List.take_of_length_le (by omega), List.getD_eq_getElem?_getD, List.getElem?_eq_none (by omega)]
  simp
theorem xgK {l : List Int} (h : Ok l) (i : Nat) : vl (l.take i) < 4294967296 ^ i := by
 have h1 := vl_lt (l := l.take i) (fun d hd => h d (List.mem_of_mem_take hd))
 refine Nat.lt_of_lt_of_le h1 (Nat.pow_le_pow_right (by decide) ?_)
 rw [List.length_take]; exact Nat.min_le_left _ _
theorem digit_n {l : List Int} {A : Option Addr} (c i : Nat) {w : World} (hr : Kd.C (Kd.int .u64) w A l.length l) (hok : Ok l) :
  ∃ x : Nat, x < 4294967296 ∧ l.getD i 0 = (x : Int) ∧ Calls Tryz.prog 170 #[.slice A l.length c, .int .i64 (i : Int)] w fun e w' => e = .returned (.int .u64 (x : Int)) ∧ w' = w := by
 have h := xcK hok i
 refine ⟨(l.getD i 0).toNat, by omega, by omega, ?_⟩
 have h2 := digit_c l A c (i : Int) w hr (by omega)
 rw [Int.toNat_natCast] at h2
 rw [show ((l.getD i 0).toNat : Int) = l.getD i 0 by omega]
 exact h2
theorem dg_le {n k : Nat} (h : n < 4294967296 ^ k) : (dg n).length ≤ k := by
 induction k generalizing n with
 | zero => rw [show n = 0 by simpa using h, dg0]; exact Nat.le_refl _
 | succ k ih =>
  by_cases h0 : n = 0
  ·
   subst h0; rw [dg0]; exact Nat.zero_le _
  ·
   rw [dgS h0, List.length_cons]
   have := ih (n := n / 4294967296) (Nat.div_lt_of_lt_mul (by rw [Nat.pow_succ, Nat.mul_comm] at h; exact h))
   omega
theorem dg_mono {a b : Nat} (h : a ≤ b) : (dg a).length ≤ (dg b).length := by
 have h1 := vl_lt (ok_dg b)
 rw [vl_dg] at h1
 exact dg_le (Nat.lt_of_le_of_lt h h1)
structure AdI (a b out : List Int) (n i cy : Nat) : Prop where
 len : out.length = n
 ok : Ok out
 car : cy ≤ 1
 val : vl out + cy * 4294967296 ^ i = vl (a.take i) + vl (b.take i)
 zero : ∀ j, i ≤ j → out.getD j 0 = 0
theorem xfQ (n j : Nat) : (List.replicate n (0 : Int)).getD j 0 = 0 := by
  rw [List.getD_eq_getElem?_getD, List.getElem?_replicate]; split <;> rfl
theorem ad0 (a b : List Int) (n : Nat) : AdI a b (List.replicate n 0) n 0 0 :=
  ⟨List.length_replicate, xfN _, by omega, by rw [xeR]; simp [vl], fun j _ => xfQ n j⟩
theorem ad_step {a b out : List Int} {n i cy x y s : Nat} (h : AdI a b out n i cy) (hi : i < n) (hx : a.getD i 0 = (x : Int)) (hy : b.getD i 0 = (y : Int)) (hx2 : x < 4294967296) (hy2 : y < 4294967296) (hs : s = x + y + cy) :
  AdI a b (out.set i ((s % 4294967296 : Nat) : Int)) n (i + 1) (s / 4294967296) := by
 obtain ⟨hlen, hok, hcar, hval, hzero⟩ := h
 refine ⟨by rw [List.length_set]; exact hlen, xgZ hok (by omega) (by omega), by omega, ?_, fun j hj => ?_⟩
 ·
  have v1 := xfZ out i ((s % 4294967296 : Nat) : Int) (by omega)
  rw [hzero i (Nat.le_refl _), Int.toNat_natCast] at v1
  rw [xcJ, xcJ, hx, hy, Int.toNat_natCast, Int.toNat_natCast, Nat.pow_succ]
  have e : s * 4294967296 ^ i = s % 4294967296 * 4294967296 ^ i + s / 4294967296 * (4294967296 ^ i * 4294967296) := by
   conv => lhs; rw [show s = s % 4294967296 + 4294967296 * (s / 4294967296) by omega]
   rw [Nat.add_mul]; congr 1; simp only [Nat.mul_comm, Nat.mul_left_comm, Nat.mul_assoc]
  rw [hs, Nat.add_mul, Nat.add_mul, ← hs] at e
  simp only [Int.toNat_zero, Nat.zero_mul, Nat.add_zero] at v1
  omega
 ·
  rw [xcT, if_neg (fun q => by omega)]; exact hzero j (by omega)
theorem ad_end {a b out : List Int} {A B n cy : Nat} (h : AdI a b out n n cy) (ha : Ok a) (hb : Ok b) (hva : vl a = A) (hvb : vl b = B) (hn : n = max a.length b.length + 1) : Ok out ∧ out.length = n ∧ vl out = A + B := by
 refine ⟨h.ok, h.len, ?_⟩
 have h1 := h.val
 rw [List.take_of_length_le (by omega), List.take_of_length_le (by omega), hva, hvb] at h1
 have h2 : A < 4294967296 ^ (n - 1) := by rw [← hva]; exact Nat.lt_of_lt_of_le (vl_lt ha) (Nat.pow_le_pow_right (by decide) (by omega))
 have h3 : B < 4294967296 ^ (n - 1) := by rw [← hvb]; exact Nat.lt_of_lt_of_le (vl_lt hb) (Nat.pow_le_pow_right (by decide) (by omega))
 have h4 : 4294967296 ^ n = 4294967296 ^ (n - 1) * 4294967296 := by rw [← Nat.pow_succ]; congr 1; omega
 have h5 := h.car
 by_cases h6 : cy = 0
 ·
  subst h6; omega
 ·
  rw [show cy = 1 by omega] at h1; omega
theorem ad_facts {a b out : List Int} {Aa Ab : Option Addr} {ca cb n i cy : Nat} {w : World} (h : AdI a b out n i cy) (hi : i < n) (ha : Ok a) (hb : Ok b) (hra : Kd.C (Kd.int .u64) w Aa a.length a) (hrb : Kd.C (Kd.int .u64) w Ab b.length b) (hn : n ≤ 100000) :
  ∃ x y s z cy' : Nat, Calls Tryz.prog 170 #[.slice Aa a.length ca, .int .i64 (i : Int)] w (fun e w' => e = .returned (.int .u64 (x : Int)) ∧ w' = w) ∧ Calls Tryz.prog 170 #[.slice Ab b.length cb, .int .i64 (i : Int)] w (fun e w' => e = .returned (.int .u64 (y : Int)) ∧ w' = w) ∧
   IntKind.u64.wrap ((x : Int) + (y : Int)) = (x : Int) + (y : Int) ∧ IntKind.u64.wrap ((x : Int) + (y : Int) + (cy : Int)) = (s : Int) ∧ (s : Int) % 4294967296 = (z : Int) ∧ IntKind.u64.wrap ((s : Int) / 4294967296) = (cy' : Int) ∧
   AdI a b (out.set i (z : Int)) n (i + 1) cy' ∧ (IntKind.i64.wrap ((i : Int) + 1) = ((i + 1 : Nat) : Int) ∧ wrap64 (i : Int) = (i : Int)) ∧ i < out.length := by
 obtain ⟨x, hx2, hx, hcx⟩ := digit_n ca i hra ha
 obtain ⟨y, hy2, hy, hcy⟩ := digit_n cb i hrb hb
 have hcar := h.car;have hlen := h.len;have hst := ad_step h hi hx hy hx2 hy2 rfl
 refine ⟨x, y, x + y + cy, _, _, hcx, hcy, ?_, uwrap (by omega) (by omega), (by omega : ((x + y + cy : Nat) : Int) % 4294967296 = (((x + y + cy) % 4294967296 : Nat) : Int)), uwrap (m := (x + y + cy) / 4294967296) (by omega) (by omega), hst, ⟨(wrap2 (by omega) (by omega)).1, (wrap2 rfl (by omega)).2⟩, by omega⟩
 have h9 := uwrap (x := (x : Int) + (y : Int)) (m := x + y) (by omega) (by omega)
 rw [h9]; omega
theorem ad_in {a b : List Int} {n : Nat} (hn : n = max a.length b.length + 1) (ha : a.length ≤ 1000) (hb : b.length ≤ 1000) :
  (a.length < b.length ∧ IntKind.i64.wrap ((b.length : Int) + 1) = (n : Int) ∨ ¬ a.length < b.length ∧ IntKind.i64.wrap ((a.length : Int) + 1) = (n : Int)) ∧ wrap64 (n : Int) = (n : Int) ∧ n ≤ 100000 := by
 refine ⟨?_, (wrap2 rfl (by omega)).2, by omega⟩
 by_cases h : a.length < b.length
 ·
  exact Or.inl ⟨h, (wrap2 (by omega) (by omega)).1⟩
 ·
  exact Or.inr ⟨h, (wrap2 (by omega) (by omega)).1⟩
theorem add_c (X Y : Nat) (Aa Ab : Option Addr) (ca cb : Nat) (w : World) (hra : Kd.C (Kd.int .u64) w Aa (dg X).length (dg X)) (hrb : Kd.C (Kd.int .u64) w Ab (dg Y).length (dg Y)) (hla : (dg X).length ≤ 1000) (hlb : (dg Y).length ≤ 1000) :
  Calls Tryz.prog 154 #[.slice Aa (dg X).length ca, .slice Ab (dg Y).length cb] w fun e w' => ∃ A' c', e = .returned (.slice A' (dg (X + Y)).length c') ∧ DG w' w.heap.size A' c' (X + Y) ∧ Below w.heap.size w w' := by
  have hoa := ok_dg X;have hva := vl_dg X;have hob := ok_dg Y;have hvb := vl_dg Y
  generalize dg X = a at hra hla hoa hva ⊢
  generalize dg Y = b at hrb hlb hob hvb ⊢
  obtain ⟨n, hn⟩ : ∃ n, n = max a.length b.length + 1 := ⟨_, rfl⟩
  obtain ⟨hn3, hn4, hn5⟩ := ad_in hn hla hlb
  have hmk := fun w' => xiU w' n hn5
  have Hra := am hra;have Hrb := am hrb;have Hla := am hla;have Hlb := am hlb;have Hoa := am hoa;have Hob := am hob;have Hva := am hva;have Hvb := am hvb;have Hn := am hn;have Hn5 := am hn5;clear hra hrb hla hlb hoa hob hva hvb hn hn5
  rcases hn3 with ⟨hlt, hn3⟩ | ⟨hlt, hn3⟩
  all_goals
   go_enter Tryz.func154, Tryz.ntmps154
   go_wp2_with ((with_reducible refine xaJ (N := 17) rfl ?_); refine xjB ?hg (N := 17) ?hd n ?hr ?_; (case hd => rfl); (case hg => rfl); (case hr => first | (go_simp; done) | (go_simp; rfl)); intro bl w1 hb0 hub hbl; have HU := am hub; have HBL := am hbl; have HB0 := am hb0; clear hub hbl hb0)
   clear hn3 hn4 hmk hlt
   go_loopg [7, 8, 9] n (fun kq v7 v8 v9 w' => ∃ (i cy : Nat) (out : List Int), kq + i = n ∧ v8 = .int .i64 (i : Int) ∧ v7 = .int .u64 (cy : Int) ∧ xaA (AdI a b out n i cy) ∧ xaA (UB w' bl out) ∧ xaA (Below w.heap.size w w'))
   case atStart => exact ⟨0, 0, List.replicate n 0, by omega, rfl, rfl, ⟨ad0 a b n⟩, HU, HBL⟩
   case round =>
    clear HU HBL
    obtain ⟨i, cy, out, hk, rfl, rfl, HI, HU, HBL⟩ := hrel
    by_cases hil : i < n
    ·
     obtain ⟨x, y, s, z, cy', hd1, hd2, u1, u2, u3, u4, hst, ⟨i5, i6⟩, hlt⟩ := ad_facts (ca := ca) (cb := cb) HI.out hil Hoa.out Hob.out (Kd.xaQ Hra.out HBL.out) (Kd.xaQ Hrb.out HBL.out) Hn5.out
     have hc2 := HU.out.cell i hlt;have hf1 := HU.out.frozen i
     generalize out.getD i 0 = zz at hc2
     have HST := am hst;have HKQ := am hk;have HD1 := am hd1;have HD2 := am hd2;clear hst hk hd1 hd2 hlt
     go_wp2_with (go_at_call 170; go_loud ((first | with_reducible refine (HD1.out).mono ?_ | with_reducible refine (HD2.out).mono ?_); rintro e w' ⟨rfl, hw_⟩; obtain rfl := hw_.symm))
     clear u1 u2 u3 u4 i5 i6 hc2 hf1
     go_roundg (n - (i + 1))
     case measure => have := HKQ.out; omega
     case rel => exact ⟨i + 1, cy', out.set i (z : Int), by have := HKQ.out; clear HU HBL HST HI; omega, by first | rfl | go_num, rfl, HST, ⟨HU.out.put i z⟩, ⟨xaF HBL.out (by have := HB0.out; omega)⟩⟩
    ·
     have hk0 : i = n := by omega
     subst hk0
     obtain ⟨e1, e2, e3⟩ := ad_end HI.out Hoa.out Hob.out Hva.out Hvb.out Hn.out
     have HC := am (xfL HU.out e1 e2 e3 Hn5.out (show w.heap.size ≤ bl by have := HB0.out; omega))
     clear e1 e2 e3 hil hk
     go_wp2_with (go_at_call 157; go_loud ((with_reducible refine (HC.out).mono ?_); rintro e w' ⟨rfl, hw_, HD⟩; obtain rfl := hw_.symm; have HDD := am HD; clear HD))
     go_ret
     exact ⟨_, _, rfl, HDD.out, HBL.out⟩
theorem digit_q {l : List Int} {A : Option Addr} (c i : Nat) {w : World} (hr : Kd.C (Kd.int .u64) w A l.length l) (hok : Ok l) :
  ∃ x : Nat, x < 4294967296 ∧ l.getD i 0 = (x : Int) ∧ ∀ m, Calls Tryz.prog 170 #[.slice A l.length c, .int .i64 (i : Int)] (w.drewN m) fun e w' => e = .returned (.int .u64 (x : Int)) ∧ w' = w.drewN m := by
 have h := xcK hok i
 refine ⟨(l.getD i 0).toNat, by omega, by omega, fun m => ?_⟩
 have h2 := digit_c l A c (i : Int) _ (Kd.xaQ hr (xaG (Below.refl _ _) m)) (by omega)
 rw [Int.toNat_natCast] at h2
 rw [show ((l.getD i 0).toNat : Int) = l.getD i 0 by omega]
 exact h2
theorem UB.drew {w : World} {b : Nat} {l : List Int} (h : UB w b l) (m : Nat) : UB (w.drewN m) b l := h.below (xaG (Below.refl _ _) m)
def cmpv (x y : Nat) : Int := if x < y then -1 else if y < x then 1 else 0
theorem xkM {x y : Nat} (h : x < y) : cmpv x y = -1 := if_pos h
theorem cmpv_gt {x y : Nat} (h : y < x) : cmpv x y = 1 := by unfold cmpv; rw [if_neg (by omega), if_pos h]
theorem cmpv_eq (x : Nat) : cmpv x x = 0 := by unfold cmpv; rw [if_neg (by omega), if_neg (by omega)]
theorem cmp_len {X Y : Nat} (h : (dg X).length < (dg Y).length) : X < Y := by
 apply Nat.lt_of_not_le
 intro h2
 have := dg_mono h2
 omega
theorem xkX {a b : List Int} {n : Nat} (hl : a.length = b.length) (h : ∀ j, n ≤ j → a.getD j 0 = b.getD j 0) : a.drop n = b.drop n := by
 apply List.ext_getElem
 ·
  rw [List.length_drop, List.length_drop, hl]
 ·
  intro i h1 h2
  rw [List.getElem_drop, List.getElem_drop]
  rw [List.length_drop] at h1
  have h3 := h (n + i) (by omega)
  rw [List.getD_eq_getElem?_getD, List.getD_eq_getElem?_getD, List.getElem?_eq_getElem (by omega), List.getElem?_eq_getElem (by omega)] at h3
  exact h3
theorem cmp_at {a b : List Int} {m x y : Nat} (hl : a.length = b.length) (ha : Ok a) (h : ∀ j, m + 1 ≤ j → a.getD j 0 = b.getD j 0) (hx : a.getD m 0 = (x : Int)) (hy : b.getD m 0 = (y : Int)) (hxy : x < y) : vl a < vl b := by
 have h1 := xgK ha m;have h2 := xcJ a m;have h3 := xcJ b m
 rw [hx, Int.toNat_natCast] at h2
 rw [hy, Int.toNat_natCast] at h3
 have h4 : (x + 1) * 4294967296 ^ m ≤ y * 4294967296 ^ m := Nat.mul_le_mul_right _ hxy
 rw [Nat.add_mul, Nat.one_mul] at h4
 rw [show vl a = vl (a.take (m + 1)) + 4294967296 ^ (a.take (m + 1)).length * vl (a.drop (m + 1)) by rw [← xhK, List.take_append_drop]]
 rw [show vl b = vl (b.take (m + 1)) + 4294967296 ^ (b.take (m + 1)).length * vl (b.drop (m + 1)) by rw [← xhK, List.take_append_drop]]
 rw [xkX hl h, List.length_take, List.length_take, hl]
 omega
theorem cmp_all {a b : List Int} (hl : a.length = b.length) (h : ∀ j, 0 ≤ j → a.getD j 0 = b.getD j 0) : a = b := by
  have := xkX hl h
  simpa using this
theorem cmp_step {a b : List Int} {m x y : Nat} (h : ∀ j, m + 1 ≤ j → a.getD j 0 = b.getD j 0) (hx : a.getD m 0 = (x : Int)) (hy : b.getD m 0 = (y : Int)) (h1 : ¬ x < y) (h2 : ¬ y < x) : ∀ j, m ≤ j → a.getD j 0 = b.getD j 0 := fun j hj => by
 by_cases e : j = m
 ·
  subst e; rw [hx, hy, show x = y by omega]
 ·
  exact h j (by omega)
theorem drew1 {w w1 : World} (h : ∃ m, w1 = w.drewN m) (k : Nat) : ∃ m, w1.drewN k = w.drewN m := by obtain ⟨m, rfl⟩ := h; exact ⟨_, World.drewN_drewN ..⟩
theorem cmp_facts {a b : List Int} {Aa Ab : Option Addr} {m n : Nat} {w : World} (ha : Ok a) (hb : Ok b) (hra : Kd.C (Kd.int .u64) w Aa n a) (hrb : Kd.C (Kd.int .u64) w Ab n b) (hm : m < n) (hn : n ≤ 1000) :
  ∃ (x y : Nat) (ada adb : Addr), Aa = some ada ∧ Ab = some adb ∧ a.getD m 0 = (x : Int) ∧ b.getD m 0 = (y : Int) ∧ w.cell? (ada.add m) = some (.int .u64 (x : Int)) ∧ w.cell? (adb.add m) = some (.int .u64 (y : Int)) ∧ IntKind.i64.wrap ((m : Int) - 1) = (m : Int) - 1 ∧ wrap64 (m : Int) = (m : Int) ∧ decide ((m : Int) < 0) = false := by
 have h1 := xcK ha m;have h2 := xcK hb m
 obtain ⟨ada, e1, c1⟩ := at_u hra m hm
 obtain ⟨adb, e2, c2⟩ := at_u hrb m hm
 refine ⟨(a.getD m 0).toNat, (b.getD m 0).toNat, ada, adb, e1, e2, by omega, by omega, ?_, ?_, ?_, (wrap2 rfl (by omega)).2, decide_eq_false (by omega)⟩
 ·
  rw [show ((a.getD m 0).toNat : Int) = a.getD m 0 by omega]; exact c1
 ·
  rw [show ((b.getD m 0).toNat : Int) = b.getD m 0 by omega]; exact c2
 ·
  rw [i64_w]; unfold wrap64; omega
theorem cmp_c (X Y : Nat) (Aa Ab : Option Addr) (ca cb : Nat) (w : World) (hra : Kd.C (Kd.int .u64) w Aa (dg X).length (dg X)) (hrb : Kd.C (Kd.int .u64) w Ab (dg Y).length (dg Y)) (hla : (dg X).length ≤ 1000) :
  Calls Tryz.prog 155 #[.slice Aa (dg X).length ca, .slice Ab (dg Y).length cb] w fun e w' => e = .returned (.int .i64 (cmpv X Y)) ∧ ∃ m, w' = w.drewN m := by
 have hoa := ok_dg X;have hva := vl_dg X;have hob := ok_dg Y;have hvb := vl_dg Y
 have hlt1 := cmp_len (X := X) (Y := Y)
 have hlt2 := cmp_len (X := Y) (Y := X)
 generalize dg X = a at hra hla hoa hva hlt1 hlt2 ⊢
 generalize dg Y = b at hrb hob hvb hlt1 hlt2 ⊢
 by_cases h1 : a.length = b.length
 ·
  obtain ⟨n, hn⟩ : ∃ n, n = a.length := ⟨_, rfl⟩
  rw [← h1, ← hn]
  rw [← hn] at hra hla
  rw [← h1, ← hn] at hrb
  obtain ⟨I0, hI0⟩ : ∃ I : Int, I = (n : Int) - 1 := ⟨_, rfl⟩
  have hw0 : IntKind.i64.wrap ((n : Int) - 1) = I0 := by rw [hI0, i64_w]; unfold wrap64; omega
  have hst : ∀ j, n ≤ j → a.getD j 0 = b.getD j 0 := fun j hj => by rw [List.getD_eq_getElem?_getD, List.getD_eq_getElem?_getD, List.getElem?_eq_none (by omega), List.getElem?_eq_none (by omega)]
  clear hlt1 hlt2 hn;have Hra := am hra;have Hrb := am hrb;have Hla := am hla;have Hoa := am hoa;have Hob := am hob;have Hva := am hva;have Hvb := am hvb;have H1 := am h1;have HI0 := am hI0;have Hst := am hst;clear hra hrb hla hoa hob hva hvb h1 hI0 hst
  go_enter Tryz.func155, Tryz.ntmps155
  go_wp2_with fail
  clear hw0
  skip
  go_loopg [5] n (fun kq v5 w' => ∃ I : Int, xaA (I = (kq : Int) - 1) ∧ kq ≤ n ∧ v5 = .int .i64 I ∧ xaA (∀ j, kq ≤ j → a.getD j 0 = b.getD j 0) ∧ xaA (∃ m, w' = w.drewN m))
  case atStart => exact ⟨I0, HI0, Nat.le_refl _, rfl, Hst, ⟨⟨0, rfl⟩⟩⟩
  case round =>
   clear HI0 Hst
   obtain ⟨I, HI, hkn, rfl, HS, HW⟩ := hrel
   cases gk with
   | zero =>
    have hI : I = -1 := by have := HI.out; omega
    subst hI
    go_wp2_with fail
    go_ret
    refine ⟨?_, HW.out⟩
    have e := cmp_all H1.out HS.out
    rw [← Hva.out, ← Hvb.out, e, cmpv_eq]; first | done | rfl
   | succ m =>
    have hI : I = (m : Int) := by have := HI.out; omega
    subst hI
    have HBW : xaA (Below w.heap.size w wr) := ⟨by obtain ⟨mm, hmm⟩ := HW.out; rw [hmm]; exact xaG (Below.refl _ _) mm⟩
    obtain ⟨x, y, ada, adb, e1, e2, hx, hy, c1, c2, i1, i2, i3⟩ := cmp_facts Hoa.out Hob.out (Kd.xaQ Hra.out HBW.out) (Kd.xaQ Hrb.out HBW.out) (Nat.lt_of_succ_le hkn) Hla.out
    subst e1 e2
    have hmn := Nat.lt_of_succ_le hkn;have HX := am hx;have HY := am hy;clear hx hy HI HBW
    by_cases q1 : x < y
    ·
     have q2 : decide ((x : Int) < (y : Int)) = true := decide_eq_true (by omega)
     go_wp2_with fail
     go_quiet (fail)
     go_wp2_with fail
     go_ret
     refine ⟨?_, drew1 HW.out _⟩
     rw [xkM (by rw [← Hva.out, ← Hvb.out]; exact cmp_at H1.out Hoa.out HS.out HX.out HY.out q1)]; first | done | rfl
    ·
     have q2 : decide ((x : Int) < (y : Int)) = false := decide_eq_false (by omega)
     by_cases q3 : y < x
     ·
      have q4 : decide ((y : Int) < (x : Int)) = true := decide_eq_true (by omega)
      go_wp2_with fail
      go_quiet (fail)
      go_wp2_with fail
      go_quiet (fail)
      go_wp2_with fail
      go_ret
      refine ⟨?_, drew1 (drew1 HW.out _) _⟩
      rw [cmpv_gt (by rw [← Hva.out, ← Hvb.out]; exact cmp_at H1.out.symm Hob.out (fun j hj => (HS.out j hj).symm) HY.out HX.out q3)]; first | done | rfl
     ·
      have q4 : decide ((y : Int) < (x : Int)) = false := decide_eq_false (by omega)
      have HST := am (cmp_step HS.out HX.out HY.out q1 q3)
      go_wp2_with fail
      go_quiet (fail)
      go_wp2_with fail
      go_quiet (fail)
      go_wp2_with fail
      clear c1 c2 i1 i2 i3 q1 q2 q3 q4
      go_roundg m
      case measure => exact Nat.lt_succ_self m
      case rel => exact ⟨(m : Int) - 1, ⟨rfl⟩, by omega, by first | rfl | go_num, HST, ⟨drew1 HW.out _⟩⟩
 ·
  clear hra hrb hla hoa hva hob hvb
  by_cases h2 : a.length < b.length
  ·
   rw [xkM (hlt1 h2)]
   have q1 : ((a.length : Int) != (b.length : Int)) = true := bne_iff_ne.2 (by omega)
   have q2 : decide ((a.length : Int) < (b.length : Int)) = true := decide_eq_true (by omega)
   clear hlt1 hlt2
   go_enter Tryz.func155, Tryz.ntmps155
   go_wp2_with fail
   go_ret
   exact ⟨rfl, 0, rfl⟩
  ·
   rw [cmpv_gt (hlt2 (by omega))]
   have q1 : ((a.length : Int) != (b.length : Int)) = true := bne_iff_ne.2 (by omega)
   have q2 : decide ((a.length : Int) < (b.length : Int)) = false := decide_eq_false (by omega)
   clear hlt1 hlt2
   go_enter Tryz.func155, Tryz.ntmps155
   go_wp2_with fail
   go_ret
   exact ⟨rfl, 0, rfl⟩
structure SuI (a b out : List Int) (i bw : Nat) : Prop where
 len : out.length = a.length
 ok : Ok out
 car : bw ≤ 1
 val : vl out + vl (b.take i) = vl (a.take i) + bw * 4294967296 ^ i
 zero : ∀ j, i ≤ j → out.getD j 0 = 0
theorem su0 (a b : List Int) : SuI a b (List.replicate a.length 0) 0 0 :=
  ⟨List.length_replicate, xfN _, by omega, by rw [xeR]; simp [vl], fun j _ => xfQ _ j⟩
theorem su_step {a b out : List Int} {i bw x y s : Nat} (h : SuI a b out i bw) (hi : i < a.length) (hx : a.getD i 0 = (x : Int)) (hy : b.getD i 0 = (y : Int)) (hx2 : x < 4294967296) (hy2 : y < 4294967296) (hs : s = x + 4294967296 - y - bw) :
  SuI a b (out.set i ((s % 4294967296 : Nat) : Int)) (i + 1) (1 - s / 4294967296) := by
 obtain ⟨hlen, hok, hcar, hval, hzero⟩ := h
 refine ⟨by rw [List.length_set]; exact hlen, xgZ hok (by omega) (by omega), by omega, ?_, fun j hj => ?_⟩
 ·
  have v1 := xfZ out i ((s % 4294967296 : Nat) : Int) (by omega)
  rw [hzero i (Nat.le_refl _), Int.toNat_natCast] at v1
  rw [xcJ, xcJ, hx, hy, Int.toNat_natCast, Int.toNat_natCast, Nat.pow_succ]
  have k1 : s % 4294967296 + y + bw = x + (1 - s / 4294967296) * 4294967296 := by omega
  have k2 := congrArg (· * 4294967296 ^ i) k1
  simp only [Nat.add_mul] at k2
  rw [show (1 - s / 4294967296) * 4294967296 * 4294967296 ^ i = (1 - s / 4294967296) * (4294967296 ^ i * 4294967296) by rw [Nat.mul_assoc, Nat.mul_comm 4294967296]] at k2
  simp only [Int.toNat_zero, Nat.zero_mul, Nat.add_zero] at v1
  omega
 ·
  rw [xcT, if_neg (fun q => by omega)]; exact hzero j (by omega)
theorem su_end {a b out : List Int} {A B bw : Nat} (h : SuI a b out a.length bw) (hlb : b.length ≤ a.length) (hva : vl a = A) (hvb : vl b = B) (hAB : B ≤ A) : Ok out ∧ out.length = a.length ∧ vl out = A - B := by
 refine ⟨h.ok, h.len, ?_⟩
 have h1 := h.val
 rw [List.take_length, List.take_of_length_le hlb, hva, hvb] at h1
 have h2 := vl_lt h.ok
 rw [h.len] at h2
 have h5 := h.car
 by_cases h6 : bw = 0
 ·
  subst h6; omega
 ·
  rw [show bw = 1 by omega] at h1; omega
theorem su_facts {a b out : List Int} {Aa Ab : Option Addr} {cb i bw : Nat} {w : World} (h : SuI a b out i bw) (hi : i < a.length) (ha : Ok a) (hb : Ok b) (hra : Kd.C (Kd.int .u64) w Aa a.length a) (hrb : Kd.C (Kd.int .u64) w Ab b.length b) (hn : a.length ≤ 1000) :
  ∃ (x y s z c bw' : Nat) (ad : Addr), Aa = some ad ∧ w.cell? (ad.add i) = some (.int .u64 (x : Int)) ∧ (∀ m, Calls Tryz.prog 170 #[.slice Ab b.length cb, .int .i64 (i : Int)] (w.drewN m) (fun e w' => e = .returned (.int .u64 (y : Int)) ∧ w' = w.drewN m)) ∧
   IntKind.u64.wrap ((x : Int) + 4294967296) = (x : Int) + 4294967296 ∧ IntKind.u64.wrap ((x : Int) + 4294967296 - (y : Int)) = (x : Int) + 4294967296 - (y : Int) ∧ IntKind.u64.wrap ((x : Int) + 4294967296 - (y : Int) - (bw : Int)) = (s : Int) ∧ (s : Int) % 4294967296 = (z : Int) ∧ IntKind.u64.wrap ((s : Int) / 4294967296) = (c : Int) ∧ IntKind.u64.wrap (1 - (c : Int)) = (bw' : Int) ∧
   SuI a b (out.set i (z : Int)) (i + 1) bw' ∧ (IntKind.i64.wrap ((i : Int) + 1) = ((i + 1 : Nat) : Int) ∧ wrap64 (i : Int) = (i : Int)) ∧ i < out.length := by
 have hx2 := xcK ha i
 obtain ⟨ad, e1, c1⟩ := at_u hra i hi
 obtain ⟨x, hx⟩ : ∃ x : Nat, a.getD i 0 = (x : Int) := ⟨(a.getD i 0).toNat, by omega⟩
 obtain ⟨y, hy2, hy, hcy⟩ := digit_q cb i hrb hb
 have hcar := h.car;have hlen := h.len
 have hst := su_step h hi hx hy (by omega) hy2 rfl
 rw [hx] at c1
 refine ⟨x, y, x + 4294967296 - y - bw, _, _, _, ad, e1, c1, hcy, ?_, ?_, uwrap (by omega) (by omega), (by omega : ((x + 4294967296 - y - bw : Nat) : Int) % 4294967296 = (((x + 4294967296 - y - bw) % 4294967296 : Nat) : Int)), uwrap (m := (x + 4294967296 - y - bw) / 4294967296) (by omega) (by omega), uwrap (m := 1 - (x + 4294967296 - y - bw) / 4294967296) (by omega) (by omega), hst, ⟨(wrap2 (by omega) (by omega)).1, (wrap2 rfl (by omega)).2⟩, by omega⟩
 ·
  exact u64_w (by omega) (by omega)
 ·
  exact u64_w (by omega) (by omega)
theorem sub_c (X Y : Nat) (Aa Ab : Option Addr) (ca cb : Nat) (w : World) (hra : Kd.C (Kd.int .u64) w Aa (dg X).length (dg X)) (hrb : Kd.C (Kd.int .u64) w Ab (dg Y).length (dg Y)) (hla : (dg X).length ≤ 1000) (hxy : Y ≤ X) :
  Calls Tryz.prog 156 #[.slice Aa (dg X).length ca, .slice Ab (dg Y).length cb] w fun e w' => ∃ A' c', e = .returned (.slice A' (dg (X - Y)).length c') ∧ DG w' w.heap.size A' c' (X - Y) ∧ Below w.heap.size w w' := by
  have hoa := ok_dg X;have hva := vl_dg X;have hob := ok_dg Y;have hvb := vl_dg Y;have hlb := dg_mono hxy
  generalize dg X = a at hra hla hoa hva hlb ⊢
  generalize dg Y = b at hrb hlb hob hvb ⊢
  obtain ⟨n, hn⟩ : ∃ n, n = a.length := ⟨_, rfl⟩
  have hn5 : n ≤ 100000 := by omega
  have hmk := fun w' => xiU w' n hn5
  have hz := su0 a b
  rw [hn] at hmk
  have Hra := am hra;have Hrb := am hrb;have Hla := am hla;have Hlb := am hlb;have Hoa := am hoa;have Hob := am hob;have Hva := am hva;have Hvb := am hvb;have Hn := am hn;have Hn5 := am hn5;have Hxy := am hxy;have Hz := am hz;clear hra hrb hla hlb hoa hob hva hvb hn hn5 hxy hz
  go_enter Tryz.func156, Tryz.ntmps156
  go_wp2_with ((with_reducible refine xaJ (N := 11) rfl ?_); refine xjB ?hg (N := 11) ?hd a.length ?hr ?_; (case hd => rfl); (case hg => rfl); (case hr => first | (go_simp; done) | (go_simp; rfl)); intro bl w1 hb0 hub hbl; have HU := am hub; have HBL := am hbl; have HB0 := am hb0; clear hub hbl hb0)
  clear hmk
  go_loopg [6, 7, 8] a.length (fun kq v6 v7 v8 w' => ∃ (i bw : Nat) (out : List Int), kq + i = a.length ∧ v7 = .int .i64 (i : Int) ∧ v6 = .int .u64 (bw : Int) ∧ xaA (SuI a b out i bw) ∧ xaA (UB w' bl out) ∧ xaA (Below w.heap.size w w'))
  case atStart => exact ⟨0, 0, List.replicate a.length 0, by omega, rfl, rfl, Hz, HU, HBL⟩
  case round =>
   clear HU HBL
   obtain ⟨i, bw, out, hk, rfl, rfl, HI, HU, HBL⟩ := hrel
   by_cases hil : i < a.length
   ·
    obtain ⟨x, y, s, z, c, bw', ad, e, hc1, hd1, u1, u2, u3, u4, u5, u6, hst, ⟨i5, i6⟩, hlt⟩ := su_facts (cb := cb) HI.out hil Hoa.out Hob.out (Kd.xaQ Hra.out HBL.out) (Kd.xaQ Hrb.out HBL.out) Hla.out
    subst e;have hc2 := HU.out.cell i hlt;have hf1 := HU.out.frozen i
    generalize out.getD i 0 = zz at hc2
    have HST := am hst;have HKQ := am hk;have HD1 := am hd1;clear hst hk hd1 hlt
    go_wp2_with fail
    go_quiet ((go_at_call 170; exact Calls.quiet_of_same (HD1.out _)))
    go_wp2_with fail
    clear u1 u2 u3 u4 u5 u6 i5 i6 hc1 hc2 hf1
    go_roundg (a.length - (i + 1))
    case measure => have := HKQ.out; omega
    case rel => exact ⟨i + 1, bw', out.set i (z : Int), by have := HKQ.out; clear HU HBL HST HI; omega, by first | rfl | go_num, rfl, HST, ⟨(HU.out.drew _).put i z⟩, ⟨xaF (xaG HBL.out _) (by have := HB0.out; omega)⟩⟩
   ·
    have hk0 : i = a.length := by omega
    subst hk0
    obtain ⟨e1, e2, e3⟩ := su_end HI.out Hlb.out Hva.out Hvb.out Hxy.out
    have HC := am (xfL HU.out e1 e2 e3 (by have := Hla.out; omega) (show w.heap.size ≤ bl by have := HB0.out; omega))
    clear e1 e2 e3 hil hk
    go_wp2_with (go_at_call 157; go_loud ((with_reducible refine (HC.out).mono ?_); rintro e w' ⟨rfl, hw_, HD⟩; obtain rfl := hw_.symm; have HDD := am HD; clear HD))
    go_ret
    exact ⟨_, _, rfl, HDD.out, HBL.out⟩
end Go.Proofs.YtkabcgmegljebaaGreatDoor.D
