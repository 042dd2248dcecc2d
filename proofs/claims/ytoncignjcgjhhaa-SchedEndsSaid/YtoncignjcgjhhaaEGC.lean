/- Contracts and facts of functions of the program (calendar, dates and their documents), joined in one text by a program of this session. No condition but what each theorem states. -/
import Derived.Test.YtoncignjcgjhhaaEGA
import Derived.Test.YtoncignjcgjhhaaEGB
set_option linter.unusedVariables false
set_option linter.unusedSimpArgs false
namespace Go.Proofs.Ytoncignjcgjhhaa.L
open Go.RowKit Go.Proofs.YtoncignjcgjhhaaW.PrintWords Go.Proofs.YtoncignjcgjhhaaW.PrintLast Go.Proofs.YtoncignjcgjhhaaW.PrintMore
open Go.Proofs.Ytoncignjcgjhhaa.Q
theorem w64 {x : Int} (h0 : -9223372036854775808 ≤ x) (h1 : x ≤ 9223372036854775807) : wrap64 x = x := by unfold wrap64; omega
theorem td {a b : Int} (h : 0 ≤ a) : Int.tdiv a b = a / b := Int.tdiv_eq_ediv_of_nonneg h
theorem tm {a b : Int} (h : 0 ≤ a) : Int.tmod a b = a % b := Int.tmod_eq_emod_of_nonneg h
theorem tm0 (a b : Int) : Int.tmod a b = 0 ↔ a % b = 0 := ⟨fun h => Int.emod_eq_zero_of_dvd (Int.dvd_of_tmod_eq_zero h), fun h => Int.tmod_eq_zero_of_dvd (Int.dvd_of_emod_eq_zero h)⟩
theorem within (a b c : Int) : cal_within.f a b c = some (decide (b ≤ a ∧ a ≤ c)) := by
 unfold cal_within.f
 by_cases h : a ≥ b
 ·
  rw [if_pos h]; simp [h]
 ·
  rw [if_neg h]; simp; omega
theorem leap (y : Int) : date_Leap.f y = some (M.leap y) := by
 unfold date_Leap.f M.leap
 simp only [tm0]
 by_cases h4 : y % 4 = 0
 ·
  rw [if_pos h4]
  by_cases h100 : y % 100 = 0
  ·
   rw [if_pos h100]
   by_cases h400 : y % 400 = 0
   ·
    have : Int.tmod y 400 = 0 := (tm0 y 400).2 h400
    simp [h4, h400, this]
   ·
    have : ¬ Int.tmod y 400 = 0 := fun e => h400 ((tm0 y 400).1 e)
    simp [h4, h100, h400, this]
  ·
   rw [if_neg h100]; simp [h4, h100]
 ·
  rw [if_neg h4]; simp [h4]
theorem length (y m : Int) : date_length.f y m = some (M.mlen y m) := by
 unfold date_length.f M.mlen
 rw [leap]
 by_cases h2 : m = 2
 ·
  rw [if_pos h2, if_pos h2]; cases M.leap y <;> rfl
 ·
  rw [if_neg h2, if_neg h2]; repeat' split
  all_goals rfl
theorem Length (y m : Int) : date_Length.f y m = some (if 1900 ≤ y ∧ y ≤ 2199 ∧ 1 ≤ m ∧ m ≤ 12 then (M.mlen y m, 0) else (0, 50)) := by
 have hm : date_month.f y m = some (decide (1900 ≤ y ∧ y ≤ 2199 ∧ 1 ≤ m ∧ m ≤ 12)) := by
  unfold date_month.f
  repeat' split
  all_goals first | (congr 1; rw [decide_eq_decide]; omega) | (congr 1; symm; rw [decide_eq_false_iff_not]; omega)
 unfold date_Length.f
 rw [hm, length]
 by_cases h : 1900 ≤ y ∧ y ≤ 2199 ∧ 1 ≤ m ∧ m ≤ 12 <;> simp [h]
theorem before (y : Int) (h0 : 1 ≤ y) (h1 : y ≤ 3000) : date_before.f y = some (M.before y) := by
 unfold date_before.f M.before
 simp (disch := omega) only [w64, td]
theorem day_l (y m n : Int) (hn : -1000000 ≤ n) (hn1 : n ≤ 2000000) (hm : 1 ≤ m) (hm1 : m ≤ 12) : ∀ (d : Nat) (i : Int), 0 ≤ i → i ≤ m - 1 → m - 1 - i = d →
  Ev (fun k => date_day.l0 k y (n + M.cum y (i + 1)) (m - 1) i) (n + M.cum y m)
 | 0, i, a, b, c => by
  refine Ev.step (f := fun _ => some (n + M.cum y m)) (fun k => ?_) (Ev.now _)
  simp only [date_day.l0]
  rw [if_neg (by omega), show i + 1 = m from by omega]
 | d + 1, i, a, b, c => by
  have ih := day_l y m n hn hn1 hm hm1 d (i + 1) (by omega) (by omega) (by omega)
  refine Ev.step (fun k => ?_) ih
  simp only [date_day.l0]
  have r := M.cum_rng y (i + 1)
  have l := M.mlen_rng y (i + 1)
  have s := M.cum_succ y (i + 1) (by omega) (by omega)
  rw [if_pos (by omega), w64 (by omega) (by omega), length]
  simp only [Option.bind_some]
  rw [w64 (by omega) (by omega), show n + M.cum y (i + 1) + M.mlen y (i + 1) = n + M.cum y (i + 1 + 1) from by omega]
theorem before_rng (y : Int) (h0 : 1 ≤ y) (h1 : y ≤ 3000) : -800000 ≤ M.before y ∧ M.before y ≤ 500000 := by unfold M.before; omega
theorem day (y m d : Int) (h0 : 1 ≤ y) (h1 : y ≤ 3000) (hm : 1 ≤ m) (hm1 : m ≤ 12) (hd : -1000 ≤ d) (hd1 : d ≤ 1000) : Ev (fun k => date_day.f k y m d) (M.dayOf y m d) := by
 have hb := before_rng y h0 h1
 have h := day_l y m (M.before y + d - 1) (by omega) (by omega) hm hm1 (m - 1).toNat 0 (by omega) (by omega) (by omega)
 refine Ev.congr (fun k => ?_) (by rw [show M.dayOf y m d = M.before y + d - 1 + M.cum y m from by unfold M.dayOf; omega]; exact h)
 unfold date_day.f
 rw [before y h0 h1]
 simp only [Option.bind_some]
 rw [w64 (x := M.before y + d) (by omega) (by omega), w64 (x := M.before y + d - 1) (by omega) (by omega), w64 (x := m - 1) (by omega) (by omega), show M.cum y (0 + 1) = 0 from M.cum_1 y, Int.add_zero]
theorem Of (y m d : Int) : Ev (fun k => date_Of.f k y m d) (if M.isDate y m d then (M.dayOf y m d, 0) else (0, 50)) := by
 have hm : date_month.f y m = some (decide (1900 ≤ y ∧ y ≤ 2199 ∧ 1 ≤ m ∧ m ≤ 12)) := by
  unfold date_month.f
  repeat' split
  all_goals first | (congr 1; rw [decide_eq_decide]; omega) | (congr 1; symm; rw [decide_eq_false_iff_not]; omega)
 have hl := M.mlen_rng y m
 by_cases h : M.isDate y m d
 ·
  rw [if_pos h]
  obtain ⟨a, b, c, e, f, g⟩ := h
  have hd := day y m d (by omega) (by omega) c e (by omega) (by omega)
  have hd2 := Ev.bind (f := fun _ t => some (t, (0 : Int))) hd (Ev.now _)
  refine Ev.congr (fun k => ?_) hd2
  unfold date_Of.f
  rw [hm, length]
  simp only [Option.bind_some, a, b, c, e, and_self, decide_true, if_true]
  rw [if_neg (by omega), if_neg (by omega)]
 ·
  rw [if_neg h]
  refine Ev.congr (fun k => ?_) (Ev.now _)
  unfold date_Of.f
  rw [hm, length]
  simp only [Option.bind_some]
  by_cases h2 : 1900 ≤ y ∧ y ≤ 2199 ∧ 1 ≤ m ∧ m ≤ 12
  ·
   rw [if_pos (by simp [h2])]
   by_cases h3 : d < 1
   ·
    rw [if_pos h3]
   ·
    rw [if_neg h3, if_pos (by rcases Int.lt_or_le (M.mlen y m) d with h5 | h5; exact h5; exact absurd ⟨h2.1, h2.2.1, h2.2.2.1, h2.2.2.2, by omega, h5⟩ h)]
  ·
   rw [if_neg (by simpa using h2)]
end Go.Proofs.Ytoncignjcgjhhaa.L
namespace Go.Proofs.Ytoncignjcgjhhaa.L
open Go.RowKit Go.Proofs.YtoncignjcgjhhaaW.PrintWords Go.Proofs.YtoncignjcgjhhaaW.PrintLast Go.Proofs.YtoncignjcgjhhaaW.PrintMore
open Go.Proofs.Ytoncignjcgjhhaa.Q
def i64 (x : Int) : Prop := -9223372036854775808 ≤ x ∧ x ≤ 9223372036854775807
theorem ofInt0 {x : Int} (h : i64 x) : BitVec.ofInt 64 x = 0#64 ↔ x = 0 := by
 unfold i64 at h
 constructor
 ·
  intro e
  have := congrArg BitVec.toInt e
  rw [BitVec.toInt_ofInt] at this
  simp only [Int.bmod] at this
  simp at this
  omega
 ·
  rintro rfl; rfl
theorem wrap_i64 (n : Nat) (h : n < 18446744073709551616) : IntKind.i64.wrap (n : Int) = if 9223372036854775808 ≤ (n : Int) then (n : Int) - 18446744073709551616 else n := by
 have hb : IntKind.i64.bits = 64 := rfl
 have hs : IntKind.i64.signed = true := rfl
 unfold IntKind.wrap
 rw [hb, hs]
 simp only [Bool.true_and, decide_eq_true_eq]
 have e : (n : Int) % 2 ^ 64 = n := by omega
 rw [e]
 simp
theorem or_eq (x y : Int) : bits .or .i64 x y = IntKind.i64.wrap ((BitVec.ofInt 64 x ||| BitVec.ofInt 64 y).toNat : Int) := rfl
theorem or_i64 (x y : Int) : i64 (bits .or .i64 x y) := by
 rw [or_eq, wrap_i64 _ (BitVec.isLt _)]
 have := (BitVec.ofInt 64 x ||| BitVec.ofInt 64 y).isLt
 unfold i64
 split <;> omega
theorem or0 {x y : Int} (hx : i64 x) (hy : i64 y) : bits .or .i64 x y = 0 ↔ x = 0 ∧ y = 0 := by
 rw [or_eq, wrap_i64 _ (BitVec.isLt _)]
 have hl := (BitVec.ofInt 64 x ||| BitVec.ofInt 64 y).isLt
 rw [← ofInt0 hx, ← ofInt0 hy]
 constructor
 ·
  intro h
  have h0 : (BitVec.ofInt 64 x ||| BitVec.ofInt 64 y).toNat = 0 := by
   split at h <;> omega
  have h1 : BitVec.ofInt 64 x ||| BitVec.ofInt 64 y = 0#64 := BitVec.eq_of_toNat_eq (by simpa using h0)
  exact BitVec.or_eq_zero_iff.1 h1
 ·
  rintro ⟨a, b⟩
  rw [a, b]; rfl
theorem i64_0 : i64 0 := by unfold i64; omega
variable {a0 a1 a2 a3 a4 a5 a6 a7 a8 : Int}
theorem years : cal_years.f a0 a1 a2 a3 a4 a5 a6 a7 a8 = some (M.yearsOk ⟨a0, a1, a2, a3, a4, a5, a6, a7, a8⟩) := by
 unfold cal_years.f M.yearsOk
 simp only [within, Option.bind_some]
 by_cases h1 : 1900 ≤ a6 ∧ a6 ≤ 2199
 ·
  rw [if_pos (by simpa using h1)]
  by_cases h2 : a6 ≤ a7 ∧ a7 ≤ 2199
  ·
   rw [if_pos (by simpa using h2)]; congr 1; rw [decide_eq_decide]; omega
  ·
   rw [if_neg (by simpa using h2)]; congr 1; symm; rw [decide_eq_false_iff_not]; omega
 ·
  rw [if_neg (by simpa using h1)]; congr 1; symm; rw [decide_eq_false_iff_not]; omega
theorem may_fixed (h3 : i64 a3) (h4 : i64 a4) (h5 : i64 a5) (k : Nat) : cal_fixed_may.f (k + 1) 1 a1 a2 a3 a4 a5 a6 a7 a8 = some (M.may ⟨1, a1, a2, a3, a4, a5, a6, a7, a8⟩) := by
 have ho : bits .or .i64 (bits .or .i64 a3 a4) a5 = 0 ↔ (a3 = 0 ∧ a4 = 0) ∧ a5 = 0 := by rw [or0 (or_i64 _ _) h5, or0 h3 h4]
 have hL := Length 2000 a1
 unfold cal_fixed_may.f M.may
 simp only [cal_fixed_may.j0, within, years, Option.bind_some, if_true]
 by_cases h1 : 1 ≤ a1 ∧ a1 ≤ 12
 ·
  rw [if_pos (by simpa using h1)]
  by_cases hz : (a3 = 0 ∧ a4 = 0) ∧ a5 = 0
  ·
   have hz' : (bits .or .i64 (bits .or .i64 a3 a4) a5 != 0) = false := by rw [ho.2 hz]; rfl
   rw [if_pos (show 1900 ≤ (2000 : Int) ∧ (2000 : Int) ≤ 2199 ∧ 1 ≤ a1 ∧ a1 ≤ 12 from ⟨by omega, by omega, h1.1, h1.2⟩)] at hL
   rw [hz', hL]
   simp only [Option.bind_some, Bool.false_eq_true, if_false]
   by_cases h2 : 1 ≤ a2 ∧ a2 ≤ M.mlen 2000 a1
   ·
    rw [if_pos (by simpa using h2)]; congr 1; simp [h1, h2, hz]
   ·
    rw [if_neg (by simpa using h2)]; congr 1; symm; rw [Bool.and_eq_false_iff]; left; rw [decide_eq_false_iff_not]; omega
  ·
   have hz' : (bits .or .i64 (bits .or .i64 a3 a4) a5 != 0) = true := by rw [bne_iff_ne]; exact fun e => hz (ho.1 e)
   rw [hz', if_pos rfl]; congr 1; symm; rw [Bool.and_eq_false_iff]; left; rw [decide_eq_false_iff_not]; omega
 ·
  rw [if_neg (by simpa using h1)]; congr 1; symm; rw [Bool.and_eq_false_iff]; left; rw [decide_eq_false_iff_not]; omega
theorem may_nth (h2 : i64 a2) (h5 : i64 a5) : cal_nth_may.f 2 a1 a2 a3 a4 a5 a6 a7 a8 = some (M.may ⟨2, a1, a2, a3, a4, a5, a6, a7, a8⟩) := by
 have ho : bits .or .i64 a2 a5 = 0 ↔ a2 = 0 ∧ a5 = 0 := or0 h2 h5
 unfold cal_nth_may.f M.may
 simp only [within, years, Option.bind_some, if_true, show ¬ ((2 : Int) = 1) from by decide, if_false]
 have no : ∀ {p : Prop} [Decidable p] {b : Bool}, ¬ p → some false = some (decide p && b) := by intro p _ b h; simp [h]
 by_cases hz : a2 = 0 ∧ a5 = 0
 ·
  rw [if_pos (ho.2 hz)]
  by_cases h1 : 1 ≤ a1 ∧ a1 ≤ 12
  ·
   rw [if_pos (by simpa using h1)]
   by_cases h4 : 0 ≤ a4 ∧ a4 ≤ 6
   ·
    rw [if_pos (by simpa using h4)]
    by_cases h3 : 1 ≤ a3 ∧ a3 ≤ 5
    ·
     rw [if_pos (by simpa using h3)]; congr 1; simp [h1, h3, h4, hz]
    ·
     rw [if_neg (by simpa using h3)]; exact no (by omega)
   ·
    rw [if_neg (by simpa using h4)]; exact no (by omega)
  ·
   rw [if_neg (by simpa using h1)]; exact no (by omega)
 ·
  rw [if_neg (fun e => hz (ho.1 e))]; exact no (by omega)
theorem may_easter (h1 : i64 a1) (h2 : i64 a2) (h3 : i64 a3) (h4 : i64 a4) : cal_easter_may.f 3 a1 a2 a3 a4 a5 a6 a7 a8 = some (M.may ⟨3, a1, a2, a3, a4, a5, a6, a7, a8⟩) := by
 have ho : bits .or .i64 (bits .or .i64 (bits .or .i64 a1 a2) a3) a4 = 0 ↔ ((a1 = 0 ∧ a2 = 0) ∧ a3 = 0) ∧ a4 = 0 := by rw [or0 (or_i64 _ _) h4, or0 (or_i64 _ _) h3, or0 h1 h2]
 unfold cal_easter_may.f M.may
 simp only [within, years, Option.bind_some, if_true, show ¬ ((3 : Int) = 1) from by decide, show ¬ ((3 : Int) = 2) from by decide, if_false]
 have no : ∀ {p : Prop} [Decidable p] {b : Bool}, ¬ p → some false = some (decide p && b) := by intro p _ b h; simp [h]
 by_cases hz : ((a1 = 0 ∧ a2 = 0) ∧ a3 = 0) ∧ a4 = 0
 ·
  rw [if_pos (ho.2 hz)]
  by_cases h5 : -100 ≤ a5 ∧ a5 ≤ 100
  ·
   rw [if_pos (by simpa using h5)]; congr 1; simp [h5, hz]
  ·
   rw [if_neg (by simpa using h5)]; exact no (by omega)
 ·
  rw [if_neg (fun e => hz (ho.1 e))]; exact no (by omega)
end Go.Proofs.Ytoncignjcgjhhaa.L
namespace Go.Proofs.Ytoncignjcgjhhaa.H
open Go.RowKit Go.Maps Go.Proofs.YtoncignjcgjhhaaW.PrintWords Go.Proofs.YtoncignjcgjhhaaW.PrintLast Go.Proofs.YtoncignjcgjhhaaW.PrintMore
theorem month_calls (y m : Int) (b : Bool) (hb : decide (1900 ≤ y ∧ y ≤ 2199 ∧ 1 ≤ m ∧ m ≤ 12) = b) (w : World) : Calls Try.prog 121 #[.int .i64 y, .int .i64 m] w fun e w' => e = .returned (.bool b) ∧ Drawn0 w w' := by
 refine Q.date_month.calls y m b w ?_
 rw [← hb]
 unfold Q.date_month.f
 repeat' split
 all_goals first | (congr 1; rw [decide_eq_decide]; omega) | (congr 1; symm; rw [decide_eq_false_iff_not]; omega)
theorem day_calls (y m d : Int) (h0 : 1 ≤ y) (h1 : y ≤ 3000) (hm : 1 ≤ m) (hm1 : m ≤ 12) (hd : -1000 ≤ d) (hd1 : d ≤ 1000) (w : World) :
  Calls Try.prog 123 #[.int .i64 y, .int .i64 m, .int .i64 d] w fun e w' => e = .returned (.int .i64 (M.dayOf y m d)) ∧ Drawn0 w w' := by
 obtain ⟨k, hk⟩ := (L.day y m d h0 h1 hm hm1 hd hd1).rounds
 exact Q.date_day.calls k y m d _ w hk
theorem easter_day (y m d : Int) (h0 : 1900 ≤ y) (h1 : y ≤ 2199) (em : m = M.eT y / 31) (ed : d = M.eT y % 31 + 1) (w : World) :
  Calls Try.prog 123 #[.int .i64 y, .int .i64 m, .int .i64 d] w fun e w' => e = .returned (.int .i64 (M.easterDay y)) ∧ Drawn0 w w' := by
 obtain ⟨⟨a, b, c, e, f, g⟩, _⟩ := M.easter_spec y h0 h1
 have := M.mlen_rng y (M.eT y / 31)
 subst em ed
 exact day_calls _ _ _ (by omega) (by omega) c e (by omega) (by omega) w
theorem m4 (y : Int) : y % 100 % 4 = y % 4 := by omega
set_option maxHeartbeats 1000000 in
set_option maxRecDepth 100000 in
theorem easter_yes (y : Int) (h0 : 1900 ≤ y) (h1 : y ≤ 2199) (w : World) :
  Calls Try.prog 162 #[.int .i64 y] w fun e w' => e = .returned (.tuple #[.int .i64 (M.easterDay y), .int .i64 0]) ∧ Drawn0 w w' := by
 go_enter Try.func162, Try.ntmps162
 go_wp2_with (first | (go_at_call 121; refine (month_calls _ _ true (by simp; omega) _).mono ?_; rintro e w' ⟨rfl, ⟨n, rfl⟩⟩))
 refine (easter_day y _ _ h0 h1 ?_ ?_ _).mono ?_
 ·
  simp only [M.eT, m4]
 ·
  simp only [M.eT, m4]
 rintro e w' ⟨rfl, ⟨n2, rfl⟩⟩
 go_wp2_with fail
 go_ret2
 exact ⟨rfl, by repeat (first | exact Drawn0.refl _ | apply Drawn0.step)⟩
theorem easter_no (y : Int) (h : ¬ (1900 ≤ y ∧ y ≤ 2199)) (w : World) :
  Calls Try.prog 162 #[.int .i64 y] w fun e w' => e = .returned (.tuple #[.int .i64 0, .int .i64 50]) ∧ Drawn0 w w' := by
 have H := Aside0.mk h; clear h
 go_enter Try.func162, Try.ntmps162
 go_wp2_with (first | (go_at_call 121; refine (month_calls _ _ false (by have := H.out; simp; omega) _).mono ?_; rintro e w' ⟨rfl, ⟨n, rfl⟩⟩))
 go_ret2
 exact ⟨rfl, by repeat (first | exact Drawn0.refl _ | apply Drawn0.step)⟩
def easterF (y : Int) : Int × Int := if 1900 ≤ y ∧ y ≤ 2199 then (M.easterDay y, 0) else (0, 50)
theorem easter_calls (y : Int) (w : World) : Calls Try.prog 162 #[.int .i64 y] w fun e w' => e = .returned (.tuple #[.int .i64 (easterF y).1, .int .i64 (easterF y).2]) ∧ Drawn0 w w' := by
 unfold easterF
 by_cases h : 1900 ≤ y ∧ y ≤ 2199
 ·
  rw [if_pos h]; exact easter_yes y h.1 h.2 w
 ·
  rw [if_neg h]; exact easter_no y h w
end Go.Proofs.Ytoncignjcgjhhaa.H
namespace Go.Proofs.Ytoncignjcgjhhaa.Q
open Go.RowKit Go.Proofs.YtoncignjcgjhhaaW.PrintWords Go.Proofs.YtoncignjcgjhhaaW.PrintLast Go.Proofs.YtoncignjcgjhhaaW.PrintMore
attribute [local go_sem] max2_int min2_int max_two min_two max_three min_three max_four min_four   -- for this text's walks alone
def date_Easter.f (a0 : Int) : Option (Int × Int) := some (Go.Proofs.Ytoncignjcgjhhaa.H.easterF a0)
theorem date_Easter.calls (a0 : Int) (r1 : Int) (r2 : Int) (w : World) (h : date_Easter.f a0 = some (r1, r2)) :
  Calls Try.prog 162 #[.int .i64 a0] w fun e w' => e = .returned (.tuple #[.int .i64 r1, .int .i64 r2]) ∧ Drawn0 w w' := by
 have e := Option.some.inj h;have c := Go.Proofs.Ytoncignjcgjhhaa.H.easter_calls a0 w
 rw [e] at c
 exact c
end Go.Proofs.Ytoncignjcgjhhaa.Q
namespace Go.Proofs.Ytoncignjcgjhhaa.Q
open Go.RowKit Go.Proofs.YtoncignjcgjhhaaW.PrintWords Go.Proofs.YtoncignjcgjhhaaW.PrintLast Go.Proofs.YtoncignjcgjhhaaW.PrintMore
attribute [local go_sem] max2_int min2_int max_two min_two max_three min_three max_four min_four   -- for this text's walks alone
def cal_easter_day.f (a0_0 : Int) (a0_1 : Int) (a0_2 : Int) (a0_3 : Int) (a0_4 : Int) (a0_5 : Int) (a0_6 : Int) (a0_7 : Int) (a0_8 : Int) (a1 : Int) : Option (Int × Bool) := (date_Easter.f a1).bind fun bt136 => (some (wrap64 (bt136.1 + a0_5), true))
set_option maxHeartbeats 8000000 in
set_option maxRecDepth 100000 in
theorem cal_easter_day.calls (a0_0 : Int) (a0_1 : Int) (a0_2 : Int) (a0_3 : Int) (a0_4 : Int) (a0_5 : Int) (a0_6 : Int) (a0_7 : Int) (a0_8 : Int) (a1 : Int) (r1 : Int) (r2 : Bool) (w : World) (h : cal_easter_day.f a0_0 a0_1 a0_2 a0_3 a0_4 a0_5 a0_6 a0_7 a0_8 a1 = some (r1, r2)) :
  Calls Try.prog 160 #[.agg #[.int .i64 a0_0, .int .i64 a0_1, .int .i64 a0_2, .int .i64 a0_3, .int .i64 a0_4, .int .i64 a0_5, .int .i64 a0_6, .int .i64 a0_7, .int .i64 a0_8], .int .i64 a1] w fun e w' => e = .returned (.tuple #[.int .i64 r1, .bool r2]) ∧ Below w.heap.size w w' := by
 have hu134 := Try.underlying134
 have HB := Aside0.mk (Below.refl w.heap.size w)
 have H : ((date_Easter.f a1).bind fun bt136 => (some (wrap64 (bt136.1 + a0_5), true))) = some (r1, r2) := h
 clear h;replace H := Option.bind_eq_some_iff.mp H
 obtain ⟨⟨t136, t137⟩, A30, H⟩ := H
 replace H : (some (wrap64 (t136 + a0_5), true)) = some (r1, r2) := H
 have A3 := Aside0.mk A30;clear A30
 simp only [Option.some.injEq, Prod.mk.injEq] at H
 obtain ⟨rfl, rfl⟩ := H
 go_enter Try.func160, Try.ntmps160
 go_wp2_with (first | ((with_reducible refine gate_dst (N := 2) rfl ?_); refine box_event ?hg (N := 2) ?hd (cs := #[.int .i64 a0_0, .int .i64 a0_1, .int .i64 a0_2, .int .i64 a0_3, .int .i64 a0_4, .int .i64 a0_5, .int .i64 a0_6, .int .i64 a0_7, .int .i64 a0_8]) (t := 134) ?hr ?_; (case hd => rfl); (case hg => rfl); (case hr => first | (go_simp; done) | (go_simp; rfl)); intro gb135 hg w4 hbox hb; have n0_ := Aside0.mk (below_step (by repeat (first | (with_reducible first | exact HB.out | apply below_alloc | apply pw_below_drewN | apply below_drew1) | exact HB.out)) hb); have n1_ := Aside0.mk (hbox); have n2_ := Aside0.mk ((by rw [hg]; exact (below_size (by repeat (first | (with_reducible first | exact HB.out | apply below_alloc | apply pw_below_drewN | apply below_drew1) | exact HB.out))) : w.heap.size ≤ gb135)); have n3_ := Aside0.mk ((by rw [hg]; exact (below_size (by repeat (first | (with_reducible first | exact HB.out | apply below_alloc | apply pw_below_drewN | apply below_drew1) | exact HB.out))) : w.heap.size ≤ gb135)); clear HB; have HB := n0_; have BK135 := n1_; have GW135 := n2_; have GE135 := n3_; clear n0_ n1_ n2_ n3_; clear hb hbox hg) | ((with_reducible refine gate_callee (f := 162) rfl ?_); refine goesL_ (some 10) rfl rfl Try.func162 (by kernel_rfl) rfl #[.int .i64 a1] rfl (by (try simp only [List.map_toArray, List.map_cons, List.map_nil]); first | done | rfl | (simp only [List.length_drop, List.length_take]; rfl)) ?_; (with_reducible refine (date_Easter.calls a1 t136 t137 _ A3.out).mono ?_); rintro e w' ⟨rfl, ⟨nd, rfl⟩⟩; refine ⟨_, rfl, ?_⟩; have hcz5_0 : w4.cell? ⟨gb135, 0, none⟩ = some (.int .i64 a0_0) := (blk_cell BK135.out 0).trans rfl; have hcz5_1 : w4.cell? ⟨gb135, 1, none⟩ = some (.int .i64 a0_1) := (blk_cell BK135.out 1).trans rfl; have hcz5_2 : w4.cell? ⟨gb135, 2, none⟩ = some (.int .i64 a0_2) := (blk_cell BK135.out 2).trans rfl; have hcz5_3 : w4.cell? ⟨gb135, 3, none⟩ = some (.int .i64 a0_3) := (blk_cell BK135.out 3).trans rfl; have hcz5_4 : w4.cell? ⟨gb135, 4, none⟩ = some (.int .i64 a0_4) := (blk_cell BK135.out 4).trans rfl; have hcz5_5 : w4.cell? ⟨gb135, 5, none⟩ = some (.int .i64 a0_5) := (blk_cell BK135.out 5).trans rfl; have hcz5_6 : w4.cell? ⟨gb135, 6, none⟩ = some (.int .i64 a0_6) := (blk_cell BK135.out 6).trans rfl; have hcz5_7 : w4.cell? ⟨gb135, 7, none⟩ = some (.int .i64 a0_7) := (blk_cell BK135.out 7).trans rfl; have hcz5_8 : w4.cell? ⟨gb135, 8, none⟩ = some (.int .i64 a0_8) := (blk_cell BK135.out 8).trans rfl; have hfz5_0 := blk_frozen BK135.out 0; have hfz5_1 := blk_frozen BK135.out 1; have hfz5_2 := blk_frozen BK135.out 2; have hfz5_3 := blk_frozen BK135.out 3; have hfz5_4 := blk_frozen BK135.out 4; have hfz5_5 := blk_frozen BK135.out 5; have hfz5_6 := blk_frozen BK135.out 6; have hfz5_7 := blk_frozen BK135.out 7; have hfz5_8 := blk_frozen BK135.out 8))
 go_ret2
 exact ⟨by first | rfl | (simp [errW_none, errW_some] <;> rfl) | (simp [*, errW_none, errW_some] <;> rfl), by repeat (first | (with_reducible first | exact HB.out | apply below_alloc | apply pw_below_drewN | apply below_drew1 | refine below_set ?_ GE135.out) | exact HB.out)⟩
def cal_single_may.f (a0_0 : Int) (a0_1 : Int) (a0_2 : Int) (a0_3 : Int) (a0_4 : Int) (a0_5 : Int) (a0_6 : Int) (a0_7 : Int) (a0_8 : Int) : Option (Bool) := if (Go.bits .or .i64 (Go.bits .or .i64 (Go.bits .or .i64 (Go.bits .or .i64 (Go.bits .or .i64 (Go.bits .or .i64 a0_1 a0_3) a0_4) a0_5) a0_6) a0_7) a0_8) = 0 then ((cal_within.f a0_2 0 109572).bind fun t139 => (some t139)) else (some false)
set_option maxHeartbeats 8000000 in
set_option maxRecDepth 100000 in
theorem cal_single_may.calls (a0_0 : Int) (a0_1 : Int) (a0_2 : Int) (a0_3 : Int) (a0_4 : Int) (a0_5 : Int) (a0_6 : Int) (a0_7 : Int) (a0_8 : Int) (r : Bool) (w : World) (h : cal_single_may.f a0_0 a0_1 a0_2 a0_3 a0_4 a0_5 a0_6 a0_7 a0_8 = some r) :
  Calls Try.prog 164 #[.agg #[.int .i64 a0_0, .int .i64 a0_1, .int .i64 a0_2, .int .i64 a0_3, .int .i64 a0_4, .int .i64 a0_5, .int .i64 a0_6, .int .i64 a0_7, .int .i64 a0_8]] w fun e w' => e = .returned (.bool r) ∧ Below w.heap.size w w' := by
 have hu135 := Try.underlying135
 have HB := Aside0.mk (Below.refl w.heap.size w)
 have H : (if (Go.bits .or .i64 (Go.bits .or .i64 (Go.bits .or .i64 (Go.bits .or .i64 (Go.bits .or .i64 (Go.bits .or .i64 a0_1 a0_3) a0_4) a0_5) a0_6) a0_7) a0_8) = 0 then ((cal_within.f a0_2 0 109572).bind fun t139 => (some t139)) else (some false)) = some r := h
 clear h
 by_cases c2 : (Go.bits .or .i64 (Go.bits .or .i64 (Go.bits .or .i64 (Go.bits .or .i64 (Go.bits .or .i64 (Go.bits .or .i64 a0_1 a0_3) a0_4) a0_5) a0_6) a0_7) a0_8) = 0
 ·
  rw [if_pos c2] at H
  have c2b0 : ((Go.bits .or .i64 (Go.bits .or .i64 (Go.bits .or .i64 (Go.bits .or .i64 (Go.bits .or .i64 (Go.bits .or .i64 a0_1 a0_3) a0_4) a0_5) a0_6) a0_7) a0_8) == 0) = true := beq_iff_eq.mpr c2
  have c2b1 : ((Go.bits .or .i64 (Go.bits .or .i64 (Go.bits .or .i64 (Go.bits .or .i64 (Go.bits .or .i64 (Go.bits .or .i64 a0_1 a0_3) a0_4) a0_5) a0_6) a0_7) a0_8) != 0) = false := bne_eq_false_iff_eq.mpr c2
  clear c2;replace H := Option.bind_eq_some_iff.mp H
  obtain ⟨t139, A30, H⟩ := H
  replace H : (some t139) = some r := H
  have A3 := Aside0.mk A30;clear A30
  obtain rfl := Option.some.inj H
  go_enter Try.func164, Try.ntmps164
  go_wp2_with (first | ((with_reducible refine gate_dst (N := 1) rfl ?_); refine box_event ?hg (N := 1) ?hd (cs := #[.int .i64 a0_0, .int .i64 a0_1, .int .i64 a0_2, .int .i64 a0_3, .int .i64 a0_4, .int .i64 a0_5, .int .i64 a0_6, .int .i64 a0_7, .int .i64 a0_8]) (t := 135) ?hr ?_; (case hd => rfl); (case hg => rfl); (case hr => first | (go_simp; done) | (go_simp; rfl)); intro gb138 hg w4 hbox hb; have n0_ := Aside0.mk (below_step (by repeat (first | (with_reducible first | exact HB.out | apply below_alloc | apply pw_below_drewN | apply below_drew1) | exact HB.out)) hb); have n1_ := Aside0.mk (hbox); have n2_ := Aside0.mk ((by rw [hg]; exact (below_size (by repeat (first | (with_reducible first | exact HB.out | apply below_alloc | apply pw_below_drewN | apply below_drew1) | exact HB.out))) : w.heap.size ≤ gb138)); have n3_ := Aside0.mk ((by rw [hg]; exact (below_size (by repeat (first | (with_reducible first | exact HB.out | apply below_alloc | apply pw_below_drewN | apply below_drew1) | exact HB.out))) : w.heap.size ≤ gb138)); clear HB; have HB := n0_; have BK138 := n1_; have GW138 := n2_; have GE138 := n3_; clear n0_ n1_ n2_ n3_; clear hb hbox hg; have hcz5_0 : w4.cell? ⟨gb138, 0, none⟩ = some (.int .i64 a0_0) := (blk_cell BK138.out 0).trans rfl; have hcz5_1 : w4.cell? ⟨gb138, 1, none⟩ = some (.int .i64 a0_1) := (blk_cell BK138.out 1).trans rfl; have hcz5_2 : w4.cell? ⟨gb138, 2, none⟩ = some (.int .i64 a0_2) := (blk_cell BK138.out 2).trans rfl; have hcz5_3 : w4.cell? ⟨gb138, 3, none⟩ = some (.int .i64 a0_3) := (blk_cell BK138.out 3).trans rfl; have hcz5_4 : w4.cell? ⟨gb138, 4, none⟩ = some (.int .i64 a0_4) := (blk_cell BK138.out 4).trans rfl; have hcz5_5 : w4.cell? ⟨gb138, 5, none⟩ = some (.int .i64 a0_5) := (blk_cell BK138.out 5).trans rfl; have hcz5_6 : w4.cell? ⟨gb138, 6, none⟩ = some (.int .i64 a0_6) := (blk_cell BK138.out 6).trans rfl; have hcz5_7 : w4.cell? ⟨gb138, 7, none⟩ = some (.int .i64 a0_7) := (blk_cell BK138.out 7).trans rfl; have hcz5_8 : w4.cell? ⟨gb138, 8, none⟩ = some (.int .i64 a0_8) := (blk_cell BK138.out 8).trans rfl; have hfz5_0 := blk_frozen BK138.out 0; have hfz5_1 := blk_frozen BK138.out 1; have hfz5_2 := blk_frozen BK138.out 2; have hfz5_3 := blk_frozen BK138.out 3; have hfz5_4 := blk_frozen BK138.out 4; have hfz5_5 := blk_frozen BK138.out 5; have hfz5_6 := blk_frozen BK138.out 6; have hfz5_7 := blk_frozen BK138.out 7; have hfz5_8 := blk_frozen BK138.out 8) | (go_at_call 83; (with_reducible refine (cal_within.calls a0_2 0 109572 t139 _ A3.out).mono ?_); rintro e w' ⟨rfl, ⟨nd, rfl⟩⟩))
  go_ret
  exact ⟨by first | rfl | (simp [errW_none, errW_some] <;> rfl) | (simp [*, errW_none, errW_some] <;> rfl), by repeat (first | (with_reducible first | exact HB.out | apply below_alloc | apply pw_below_drewN | apply below_drew1 | refine below_set ?_ GE138.out) | exact HB.out)⟩
 ·
  rw [if_neg c2] at H
  have c2b0 : ((Go.bits .or .i64 (Go.bits .or .i64 (Go.bits .or .i64 (Go.bits .or .i64 (Go.bits .or .i64 (Go.bits .or .i64 a0_1 a0_3) a0_4) a0_5) a0_6) a0_7) a0_8) == 0) = false := beq_eq_false_iff_ne.mpr c2
  have c2b1 : ((Go.bits .or .i64 (Go.bits .or .i64 (Go.bits .or .i64 (Go.bits .or .i64 (Go.bits .or .i64 (Go.bits .or .i64 a0_1 a0_3) a0_4) a0_5) a0_6) a0_7) a0_8) != 0) = true := bne_iff_ne.mpr c2
  obtain rfl := Option.some.inj H
  go_enter Try.func164, Try.ntmps164
  go_wp2_with (first | ((with_reducible refine gate_dst (N := 1) rfl ?_); refine box_event ?hg (N := 1) ?hd (cs := #[.int .i64 a0_0, .int .i64 a0_1, .int .i64 a0_2, .int .i64 a0_3, .int .i64 a0_4, .int .i64 a0_5, .int .i64 a0_6, .int .i64 a0_7, .int .i64 a0_8]) (t := 135) ?hr ?_; (case hd => rfl); (case hg => rfl); (case hr => first | (go_simp; done) | (go_simp; rfl)); intro gb138 hg w6 hbox hb; have n0_ := Aside0.mk (below_step (by repeat (first | (with_reducible first | exact HB.out | apply below_alloc | apply pw_below_drewN | apply below_drew1) | exact HB.out)) hb); have n1_ := Aside0.mk (hbox); have n2_ := Aside0.mk ((by rw [hg]; exact (below_size (by repeat (first | (with_reducible first | exact HB.out | apply below_alloc | apply pw_below_drewN | apply below_drew1) | exact HB.out))) : w.heap.size ≤ gb138)); have n3_ := Aside0.mk ((by rw [hg]; exact (below_size (by repeat (first | (with_reducible first | exact HB.out | apply below_alloc | apply pw_below_drewN | apply below_drew1) | exact HB.out))) : w.heap.size ≤ gb138)); clear HB; have HB := n0_; have BK138 := n1_; have GW138 := n2_; have GE138 := n3_; clear n0_ n1_ n2_ n3_; clear hb hbox hg; have hcz7_0 : w6.cell? ⟨gb138, 0, none⟩ = some (.int .i64 a0_0) := (blk_cell BK138.out 0).trans rfl; have hcz7_1 : w6.cell? ⟨gb138, 1, none⟩ = some (.int .i64 a0_1) := (blk_cell BK138.out 1).trans rfl; have hcz7_2 : w6.cell? ⟨gb138, 2, none⟩ = some (.int .i64 a0_2) := (blk_cell BK138.out 2).trans rfl; have hcz7_3 : w6.cell? ⟨gb138, 3, none⟩ = some (.int .i64 a0_3) := (blk_cell BK138.out 3).trans rfl; have hcz7_4 : w6.cell? ⟨gb138, 4, none⟩ = some (.int .i64 a0_4) := (blk_cell BK138.out 4).trans rfl; have hcz7_5 : w6.cell? ⟨gb138, 5, none⟩ = some (.int .i64 a0_5) := (blk_cell BK138.out 5).trans rfl; have hcz7_6 : w6.cell? ⟨gb138, 6, none⟩ = some (.int .i64 a0_6) := (blk_cell BK138.out 6).trans rfl; have hcz7_7 : w6.cell? ⟨gb138, 7, none⟩ = some (.int .i64 a0_7) := (blk_cell BK138.out 7).trans rfl; have hcz7_8 : w6.cell? ⟨gb138, 8, none⟩ = some (.int .i64 a0_8) := (blk_cell BK138.out 8).trans rfl; have hfz7_0 := blk_frozen BK138.out 0; have hfz7_1 := blk_frozen BK138.out 1; have hfz7_2 := blk_frozen BK138.out 2; have hfz7_3 := blk_frozen BK138.out 3; have hfz7_4 := blk_frozen BK138.out 4; have hfz7_5 := blk_frozen BK138.out 5; have hfz7_6 := blk_frozen BK138.out 6; have hfz7_7 := blk_frozen BK138.out 7; have hfz7_8 := blk_frozen BK138.out 8))
  go_ret
  exact ⟨by first | rfl | (simp [errW_none, errW_some] <;> rfl) | (simp [*, errW_none, errW_some] <;> rfl), by repeat (first | (with_reducible first | exact HB.out | apply below_alloc | apply pw_below_drewN | apply below_drew1 | refine below_set ?_ GE138.out) | exact HB.out)⟩
def date_is.f (a0 : Int) : Option (Bool) := if a0 ≥ 0 then (some (decide (a0 ≤ 109572))) else (some false)
set_option maxHeartbeats 8000000 in
set_option maxRecDepth 100000 in
theorem date_is.calls (a0 : Int) (r : Bool) (w : World) (h : date_is.f a0 = some r) :
  Calls Try.prog 119 #[.int .i64 a0] w fun e w' => e = .returned (.bool r) ∧ Drawn0 w w' := by
 have H : (if a0 ≥ 0 then (some (decide (a0 ≤ 109572))) else (some false)) = some r := h
 clear h
 by_cases c2 : a0 ≥ 0
 ·
  rw [if_pos c2] at H
  have c2b0 : decide (0 ≤ a0) = true := decide_eq_true c2
  clear c2
  obtain rfl := Option.some.inj H
  go_enter Try.func119, Try.ntmps119
  go_wp2
  go_ret
  exact ⟨by first | rfl | (simp; done) | (simp [*]; done), by repeat (first | exact Drawn0.refl _ | apply Drawn0.step)⟩
 ·
  rw [if_neg c2] at H
  have c2b0 : decide (0 ≤ a0) = false := decide_eq_false c2
  clear c2
  obtain rfl := Option.some.inj H
  go_enter Try.func119, Try.ntmps119
  go_wp2
  go_ret
  exact ⟨by first | rfl | (simp; done) | (simp [*]; done), by repeat (first | exact Drawn0.refl _ | apply Drawn0.step)⟩
mutual
def date_civil.l0 : Nat → Int → Int → Option (Int × Int × Int)
  | 0, _, _ => none
  | k + 1, x0, x2 => (date_before.f (wrap64 (x2 + 1))).bind fun t140 => (if t140 ≤ x0 then (date_civil.l0 k x0 (wrap64 (x2 + 1))) else ((date_before.f x2).bind fun t141 => (date_civil.l1 k x2 1 (wrap64 (x0 - t141)))))
def date_civil.l1 : Nat → Int → Int → Int → Option (Int × Int × Int)
  | 0, _, _, _ => none
  | k + 1, x2, x3, x4 => (date_length.f x2 x3).bind fun t142 => (if x4 ≥ t142 then ((date_length.f x2 x3).bind fun t143 => (date_civil.l1 k x2 (wrap64 (x3 + 1)) (wrap64 (x4 - t143)))) else (some (x2, x3, wrap64 (x4 + 1))))
end
def date_civil.f (k : Nat) (a0 : Int) : Option (Int × Int × Int) := date_civil.l0 k a0 (wrap64 (1900 + (wrap64 (Int.tdiv a0 366))))
theorem date_civil.mono_l : ∀ k, (∀ y0 y1, LeO (date_civil.l0 k y0 y1) (date_civil.l0 (k + 1) y0 y1)) ∧ (∀ y0 y1 y2, LeO (date_civil.l1 k y0 y1 y2) (date_civil.l1 (k + 1) y0 y1 y2))
 | 0 => ⟨fun _ _ r h => by simp [date_civil.l0] at h, fun _ _ _ r h => by simp [date_civil.l1] at h⟩
 | k + 1 => by
  obtain ⟨ih0, ih1⟩ := date_civil.mono_l k
  refine ⟨?_, ?_⟩
  ·
   intro y0 y1
   unfold date_civil.l0
   repeat' first
   | (with_reducible exact ih0 _ _)
   | (with_reducible exact ih1 _ _ _)
   | (with_reducible exact LeO.refl _)
   | (with_reducible exact LeO.none _)
   | (with_reducible refine LeO.ite ?_ ?_)
   | (with_reducible refine LeO.bind ?_ (fun _ => ?_))
   | exact ih0 _ _
   | exact ih1 _ _ _
   | exact LeO.none _
   | refine LeO.ite ?_ ?_
   | refine LeO.bind ?_ (fun _ => ?_)
  ·
   intro y0 y1 y2
   unfold date_civil.l1
   repeat' first
   | (with_reducible exact ih0 _ _)
   | (with_reducible exact ih1 _ _ _)
   | (with_reducible exact LeO.refl _)
   | (with_reducible exact LeO.none _)
   | (with_reducible refine LeO.ite ?_ ?_)
   | (with_reducible refine LeO.bind ?_ (fun _ => ?_))
   | exact ih0 _ _
   | exact ih1 _ _ _
   | exact LeO.none _
   | refine LeO.ite ?_ ?_
   | refine LeO.bind ?_ (fun _ => ?_)
theorem date_civil.mono : ∀ a0 k, LeO (date_civil.f k a0) (date_civil.f (k + 1) a0) := by
 intro a0 k
 obtain ⟨ih0, ih1⟩ := date_civil.mono_l k
 unfold date_civil.f
 repeat' first
   | (with_reducible exact ih0 _ _)
   | (with_reducible exact ih1 _ _ _)
   | (with_reducible exact LeO.refl _)
   | (with_reducible exact LeO.none _)
   | (with_reducible refine LeO.ite ?_ ?_)
   | (with_reducible refine LeO.bind ?_ (fun _ => ?_))
   | exact ih0 _ _
   | exact ih1 _ _ _
   | exact LeO.none _
   | refine LeO.ite ?_ ?_
   | refine LeO.bind ?_ (fun _ => ?_)
set_option maxHeartbeats 8000000 in
set_option maxRecDepth 100000 in
theorem date_civil.calls (k : Nat) (a0 : Int) (r1 : Int) (r2 : Int) (r3 : Int) (w : World) (h : date_civil.f k a0 = some (r1, r2, r3)) :
  Calls Try.prog 120 #[.int .i64 a0] w fun e w' => e = .returned (.tuple #[.int .i64 r1, .int .i64 r2, .int .i64 r3]) ∧ Drawn0 w w' := by
 have H : (date_civil.l0 k a0 (wrap64 (1900 + (wrap64 (Int.tdiv a0 366))))) = some (r1, r2, r3) := h
 clear h;have H' := Aside0.mk H;clear H
 go_enter Try.func120, Try.ntmps120
 go_wp2
 go_loopg [2] k (fun kq v2 w' => ∃ (x2_1 : Int), v2 = .int .i64 x2_1 ∧ Aside0 (date_civil.l0 kq a0 x2_1 = some (r1, r2, r3)) ∧ Aside0 (kq ≤ k) ∧ Drawn0 w w')
 case atStart => exact ⟨(wrap64 (1900 + (wrap64 (Int.tdiv a0 366)))), (by first | rfl | (simp; done) | (simp [*]; done)), H', ⟨Nat.le_refl _⟩, by repeat (first | exact Drawn0.refl _ | apply Drawn0.step)⟩
 case round =>
  clear H'
  obtain ⟨x2_1, rfl, HA, HK1, ⟨m1, rfl⟩⟩ := hrel
  cases gk with
  | zero => exact absurd HA.out (by simp [date_civil.l0])
  | succ k1 =>
   have H := HA.out;clear HA
   simp only [date_civil.l0] at H
   replace H := Option.bind_eq_some_iff.mp H
   obtain ⟨t140, A20, H⟩ := H
   replace H : (if t140 ≤ a0 then (date_civil.l0 k1 a0 (wrap64 (x2_1 + 1))) else ((date_before.f x2_1).bind fun t141 => (date_civil.l1 k1 x2_1 1 (wrap64 (a0 - t141))))) = some (r1, r2, r3) := H
   have A2 := Aside0.mk A20;clear A20
   by_cases c3 : t140 ≤ a0
   ·
    rw [if_pos c3] at H
    have c3b0 : decide (t140 ≤ a0) = true := decide_eq_true c3
    clear c3;have H' := Aside0.mk H;clear H
    go_wp2_with (first | ((with_reducible refine gate_callee (f := 136) rfl ?_); refine goesL_ (some 10) rfl rfl Try.func136 (by kernel_rfl) rfl #[.int .i64 (wrap64 (x2_1 + 1))] rfl (by (try simp only [List.map_toArray, List.map_cons, List.map_nil]); first | done | rfl | (simp only [List.length_drop, List.length_take]; rfl)) ?_; (with_reducible refine (date_before.calls (wrap64 (x2_1 + 1)) t140 _ A2.out).mono ?_); rintro e w' ⟨rfl, ⟨nd, rfl⟩⟩; refine ⟨_, rfl, ?_⟩))
    go_roundg k1
    case measure => have := HK1.out; omega
    case rel => exact ⟨(wrap64 (x2_1 + 1)), (by first | rfl | (simp; done) | (simp [*]; done)), H', ⟨by have := HK1.out; omega⟩, by repeat (first | exact Drawn0.refl _ | apply Drawn0.step)⟩
   ·
    rw [if_neg c3] at H
    have c3b0 : decide (t140 ≤ a0) = false := decide_eq_false c3
    clear c3;replace H := Option.bind_eq_some_iff.mp H
    obtain ⟨t141, A40, H⟩ := H
    replace H : (date_civil.l1 k1 x2_1 1 (wrap64 (a0 - t141))) = some (r1, r2, r3) := H
    have A4 := Aside0.mk A40;clear A40;have H' := Aside0.mk H;clear H
    go_wp2_with (first | ((with_reducible refine gate_callee (f := 136) rfl ?_); refine goesL_ (some 10) rfl rfl Try.func136 (by kernel_rfl) rfl #[.int .i64 (wrap64 (x2_1 + 1))] rfl (by (try simp only [List.map_toArray, List.map_cons, List.map_nil]); first | done | rfl | (simp only [List.length_drop, List.length_take]; rfl)) ?_; (with_reducible refine (date_before.calls (wrap64 (x2_1 + 1)) t140 _ A2.out).mono ?_); rintro e w' ⟨rfl, ⟨nd, rfl⟩⟩; refine ⟨_, rfl, ?_⟩) | ((with_reducible refine gate_callee (f := 136) rfl ?_); refine goesL_ (some 17) rfl rfl Try.func136 (by kernel_rfl) rfl #[.int .i64 x2_1] rfl (by (try simp only [List.map_toArray, List.map_cons, List.map_nil]); first | done | rfl | (simp only [List.length_drop, List.length_take]; rfl)) ?_; (with_reducible refine (date_before.calls x2_1 t141 _ A4.out).mono ?_); rintro e w' ⟨rfl, ⟨nd, rfl⟩⟩; refine ⟨_, rfl, ?_⟩))
    go_loopg [3, 4] k1 (fun kq v3 v4 w' => ∃ (x3_2 : Int) (x4_2 : Int), v3 = .int .i64 x3_2 ∧ v4 = .int .i64 x4_2 ∧ Aside0 (date_civil.l1 kq x2_1 x3_2 x4_2 = some (r1, r2, r3)) ∧ Aside0 (kq ≤ k1) ∧ Drawn0 w w')
    case atStart => exact ⟨(1), (wrap64 (a0 - t141)), (by first | rfl | (simp; done) | (simp [*]; done)), (by first | rfl | (simp; done) | (simp [*]; done)), H', ⟨Nat.le_refl _⟩, by repeat (first | exact Drawn0.refl _ | apply Drawn0.step)⟩
    case round =>
     clear H'
     obtain ⟨x3_2, x4_2, rfl, rfl, HA, HK2, ⟨m2, rfl⟩⟩ := hrel
     cases gk with
     | zero => exact absurd HA.out (by simp [date_civil.l1])
     | succ k2 =>
      have H := HA.out;clear HA
      simp only [date_civil.l1] at H
      replace H := Option.bind_eq_some_iff.mp H
      obtain ⟨t142, A50, H⟩ := H
      replace H : (if x4_2 ≥ t142 then ((date_length.f x2_1 x3_2).bind fun t143 => (date_civil.l1 k2 x2_1 (wrap64 (x3_2 + 1)) (wrap64 (x4_2 - t143)))) else (some (x2_1, x3_2, wrap64 (x4_2 + 1)))) = some (r1, r2, r3) := H
      have A5 := Aside0.mk A50;clear A50
      by_cases c6 : x4_2 ≥ t142
      ·
       rw [if_pos c6] at H
       have c6b0 : decide (t142 ≤ x4_2) = true := decide_eq_true c6
       clear c6;replace H := Option.bind_eq_some_iff.mp H
       obtain ⟨t143, A70, H⟩ := H
       replace H : (date_civil.l1 k2 x2_1 (wrap64 (x3_2 + 1)) (wrap64 (x4_2 - t143))) = some (r1, r2, r3) := H
       have A7 := Aside0.mk A70;clear A70;have H' := Aside0.mk H;clear H
       go_wp2_with (first | ((with_reducible refine gate_callee (f := 122) rfl ?_); refine goesL_ (some 22) rfl rfl Try.func122 (by kernel_rfl) rfl #[.int .i64 x2_1, .int .i64 x3_2] rfl (by (try simp only [List.map_toArray, List.map_cons, List.map_nil]); first | done | rfl | (simp only [List.length_drop, List.length_take]; rfl)) ?_; (with_reducible refine (date_length.calls x2_1 x3_2 t142 _ A5.out).mono ?_); rintro e w' ⟨rfl, ⟨nd, rfl⟩⟩; refine ⟨_, rfl, ?_⟩) | ((with_reducible refine gate_callee (f := 122) rfl ?_); refine goesL_ (some 29) rfl rfl Try.func122 (by kernel_rfl) rfl #[.int .i64 x2_1, .int .i64 x3_2] rfl (by (try simp only [List.map_toArray, List.map_cons, List.map_nil]); first | done | rfl | (simp only [List.length_drop, List.length_take]; rfl)) ?_; (with_reducible refine (date_length.calls x2_1 x3_2 t143 _ A7.out).mono ?_); rintro e w' ⟨rfl, ⟨nd, rfl⟩⟩; refine ⟨_, rfl, ?_⟩))
       go_roundg k2
       case measure => have := HK1.out; have := HK2.out; omega
       case rel => exact ⟨(wrap64 (x3_2 + 1)), (wrap64 (x4_2 - t143)), (by first | rfl | (simp; done) | (simp [*]; done)), (by first | rfl | (simp; done) | (simp [*]; done)), H', ⟨by have := HK1.out; have := HK2.out; omega⟩, by repeat (first | exact Drawn0.refl _ | apply Drawn0.step)⟩
      ·
       rw [if_neg c6] at H
       have c6b0 : decide (t142 ≤ x4_2) = false := decide_eq_false c6
       clear c6
       simp only [Option.some.injEq, Prod.mk.injEq] at H
       obtain ⟨rfl, rfl, rfl⟩ := H
       go_wp2_with (first | ((with_reducible refine gate_callee (f := 122) rfl ?_); refine goesL_ (some 22) rfl rfl Try.func122 (by kernel_rfl) rfl #[.int .i64 x2_1, .int .i64 x3_2] rfl (by (try simp only [List.map_toArray, List.map_cons, List.map_nil]); first | done | rfl | (simp only [List.length_drop, List.length_take]; rfl)) ?_; (with_reducible refine (date_length.calls x2_1 x3_2 t142 _ A5.out).mono ?_); rintro e w' ⟨rfl, ⟨nd, rfl⟩⟩; refine ⟨_, rfl, ?_⟩))
       go_ret3
       exact ⟨by first | rfl | (simp; done) | (simp [*]; done), by repeat (first | exact Drawn0.refl _ | apply Drawn0.step)⟩
def date_Civil.f (k : Nat) (a0 : Int) : Option (Int × Int × Int × Int) := (date_is.f a0).bind fun t144 => (if t144 = true then ((date_civil.f k a0).bind fun bt145 => (some (bt145.1, bt145.2.1, bt145.2.2, 0))) else (some (0, 0, 0, 51)))
theorem date_Civil.mono : ∀ a0 k, LeO (date_Civil.f k a0) (date_Civil.f (k + 1) a0) := by
 intro a0 k
 unfold date_Civil.f
 repeat' first
   | (with_reducible exact date_civil.mono _ _)
   | (with_reducible exact LeO.refl _)
   | (with_reducible exact LeO.none _)
   | (with_reducible refine LeO.ite ?_ ?_)
   | (with_reducible refine LeO.bind ?_ (fun _ => ?_))
   | exact date_civil.mono _ _
   | exact LeO.none _
   | refine LeO.ite ?_ ?_
   | refine LeO.bind ?_ (fun _ => ?_)
set_option maxHeartbeats 8000000 in
set_option maxRecDepth 100000 in
theorem date_Civil.calls (k : Nat) (a0 : Int) (r1 : Int) (r2 : Int) (r3 : Int) (r4 : Int) (w : World) (h : date_Civil.f k a0 = some (r1, r2, r3, r4)) :
  Calls Try.prog 93 #[.int .i64 a0] w fun e w' => e = .returned (.tuple #[.int .i64 r1, .int .i64 r2, .int .i64 r3, .int .i64 r4]) ∧ Drawn0 w w' := by
 have H : ((date_is.f a0).bind fun t144 => (if t144 = true then ((date_civil.f k a0).bind fun bt145 => (some (bt145.1, bt145.2.1, bt145.2.2, 0))) else (some (0, 0, 0, 51)))) = some (r1, r2, r3, r4) := h
 clear h;replace H := Option.bind_eq_some_iff.mp H
 obtain ⟨t144, A20, H⟩ := H
 replace H : (if t144 = true then ((date_civil.f k a0).bind fun bt145 => (some (bt145.1, bt145.2.1, bt145.2.2, 0))) else (some (0, 0, 0, 51))) = some (r1, r2, r3, r4) := H
 have A2 := Aside0.mk A20;clear A20
 by_cases c3 : t144 = true
 ·
  subst c3
  have H1 : ((date_civil.f k a0).bind fun bt145 => (some (bt145.1, bt145.2.1, bt145.2.2, 0))) = some (r1, r2, r3, r4) := by rw [if_pos rfl] at H; exact H
  clear H;have H := H1;clear H1;replace H := Option.bind_eq_some_iff.mp H
  obtain ⟨⟨t145, t146, t147⟩, A40, H⟩ := H
  replace H : (some (t145, t146, t147, 0)) = some (r1, r2, r3, r4) := H
  have A4 := Aside0.mk A40;clear A40
  simp only [Option.some.injEq, Prod.mk.injEq] at H
  obtain ⟨rfl, rfl, rfl, rfl⟩ := H
  go_enter Try.func93, Try.ntmps93
  go_wp2_with (first | ((with_reducible refine gate_callee (f := 119) rfl ?_); refine goesL_ (some 7) rfl rfl Try.func119 (by kernel_rfl) rfl #[.int .i64 a0] rfl (by (try simp only [List.map_toArray, List.map_cons, List.map_nil]); first | done | rfl | (simp only [List.length_drop, List.length_take]; rfl)) ?_; (with_reducible refine (date_is.calls a0 true _ A2.out).mono ?_); rintro e w' ⟨rfl, ⟨nd, rfl⟩⟩; refine ⟨_, rfl, ?_⟩) | ((with_reducible refine gate_callee (f := 120) rfl ?_); refine goesL_ (some 11) rfl rfl Try.func120 (by kernel_rfl) rfl #[.int .i64 a0] rfl (by (try simp only [List.map_toArray, List.map_cons, List.map_nil]); first | done | rfl | (simp only [List.length_drop, List.length_take]; rfl)) ?_; (with_reducible refine (date_civil.calls k a0 t145 t146 t147 _ A4.out).mono ?_); rintro e w' ⟨rfl, ⟨nd, rfl⟩⟩; refine ⟨_, rfl, ?_⟩))
  refine bodyPost_ret (results_list (rs := [.tmp 2, .tmp 3, .tmp 4, .tmp 5]) rfl (by simp) (.tmp (.tmp (.tmp (.tmp .nil))))) rfl ?_
  exact ⟨by first | rfl | (simp; done) | (simp [*]; done), by repeat (first | exact Drawn0.refl _ | apply Drawn0.step)⟩
 ·
  replace c3 := Bool.eq_false_iff.mpr c3;subst c3
  have H1 : (some (0, 0, 0, 51)) = some (r1, r2, r3, r4) := by rw [if_neg (show ¬ (false = true) by decide)] at H; exact H
  clear H;have H := H1;clear H1
  simp only [Option.some.injEq, Prod.mk.injEq] at H
  obtain ⟨rfl, rfl, rfl, rfl⟩ := H
  go_enter Try.func93, Try.ntmps93
  go_wp2_with (first | ((with_reducible refine gate_callee (f := 119) rfl ?_); refine goesL_ (some 7) rfl rfl Try.func119 (by kernel_rfl) rfl #[.int .i64 a0] rfl (by (try simp only [List.map_toArray, List.map_cons, List.map_nil]); first | done | rfl | (simp only [List.length_drop, List.length_take]; rfl)) ?_; (with_reducible refine (date_is.calls a0 false _ A2.out).mono ?_); rintro e w' ⟨rfl, ⟨nd, rfl⟩⟩; refine ⟨_, rfl, ?_⟩))
  refine bodyPost_ret (results_list (rs := [.tmp 2, .tmp 3, .tmp 4, .tmp 5]) rfl (by simp) (.tmp (.tmp (.tmp (.tmp .nil))))) rfl ?_
  exact ⟨by first | rfl | (simp; done) | (simp [*]; done), by repeat (first | exact Drawn0.refl _ | apply Drawn0.step)⟩
def cal_single_day.f (k : Nat) (a0_0 : Int) (a0_1 : Int) (a0_2 : Int) (a0_3 : Int) (a0_4 : Int) (a0_5 : Int) (a0_6 : Int) (a0_7 : Int) (a0_8 : Int) (a1 : Int) : Option (Int × Bool) := (date_Civil.f k a0_2).bind fun bt149 => (some (a0_2, (bt149.1 == a1)))
theorem cal_single_day.mono : ∀ a0 a1 a2 a3 a4 a5 a6 a7 a8 a9 k, LeO (cal_single_day.f k a0 a1 a2 a3 a4 a5 a6 a7 a8 a9) (cal_single_day.f (k + 1) a0 a1 a2 a3 a4 a5 a6 a7 a8 a9) := by
 intro a0 a1 a2 a3 a4 a5 a6 a7 a8 a9 k
 unfold cal_single_day.f
 repeat' first
   | (with_reducible exact date_Civil.mono _ _)
   | (with_reducible exact LeO.refl _)
   | (with_reducible exact LeO.none _)
   | (with_reducible refine LeO.ite ?_ ?_)
   | (with_reducible refine LeO.bind ?_ (fun _ => ?_))
   | exact date_Civil.mono _ _
   | exact LeO.none _
   | refine LeO.ite ?_ ?_
   | refine LeO.bind ?_ (fun _ => ?_)
set_option maxHeartbeats 8000000 in
set_option maxRecDepth 100000 in
theorem cal_single_day.calls (k : Nat) (a0_0 : Int) (a0_1 : Int) (a0_2 : Int) (a0_3 : Int) (a0_4 : Int) (a0_5 : Int) (a0_6 : Int) (a0_7 : Int) (a0_8 : Int) (a1 : Int) (r1 : Int) (r2 : Bool) (w : World) (h : cal_single_day.f k a0_0 a0_1 a0_2 a0_3 a0_4 a0_5 a0_6 a0_7 a0_8 a1 = some (r1, r2)) :
  Calls Try.prog 163 #[.agg #[.int .i64 a0_0, .int .i64 a0_1, .int .i64 a0_2, .int .i64 a0_3, .int .i64 a0_4, .int .i64 a0_5, .int .i64 a0_6, .int .i64 a0_7, .int .i64 a0_8], .int .i64 a1] w fun e w' => e = .returned (.tuple #[.int .i64 r1, .bool r2]) ∧ Below w.heap.size w w' := by
 have hu135 := Try.underlying135
 have HB := Aside0.mk (Below.refl w.heap.size w)
 have H : ((date_Civil.f k a0_2).bind fun bt149 => (some (a0_2, (bt149.1 == a1)))) = some (r1, r2) := h
 clear h;replace H := Option.bind_eq_some_iff.mp H
 obtain ⟨⟨t149, t150, t151, t152⟩, A30, H⟩ := H
 replace H : (some (a0_2, (t149 == a1))) = some (r1, r2) := H
 have A3 := Aside0.mk A30;clear A30
 simp only [Option.some.injEq, Prod.mk.injEq] at H
 obtain ⟨rfl, rfl⟩ := H
 go_enter Try.func163, Try.ntmps163
 go_wp2_with (first | ((with_reducible refine gate_dst (N := 2) rfl ?_); refine box_event ?hg (N := 2) ?hd (cs := #[.int .i64 a0_0, .int .i64 a0_1, .int .i64 a0_2, .int .i64 a0_3, .int .i64 a0_4, .int .i64 a0_5, .int .i64 a0_6, .int .i64 a0_7, .int .i64 a0_8]) (t := 135) ?hr ?_; (case hd => rfl); (case hg => rfl); (case hr => first | (go_simp; done) | (go_simp; rfl)); intro gb148 hg w4 hbox hb; have n0_ := Aside0.mk (below_step (by repeat (first | (with_reducible first | exact HB.out | apply below_alloc | apply pw_below_drewN | apply below_drew1) | exact HB.out)) hb); have n1_ := Aside0.mk (hbox); have n2_ := Aside0.mk ((by rw [hg]; exact (below_size (by repeat (first | (with_reducible first | exact HB.out | apply below_alloc | apply pw_below_drewN | apply below_drew1) | exact HB.out))) : w.heap.size ≤ gb148)); have n3_ := Aside0.mk ((by rw [hg]; exact (below_size (by repeat (first | (with_reducible first | exact HB.out | apply below_alloc | apply pw_below_drewN | apply below_drew1) | exact HB.out))) : w.heap.size ≤ gb148)); clear HB; have HB := n0_; have BK148 := n1_; have GW148 := n2_; have GE148 := n3_; clear n0_ n1_ n2_ n3_; clear hb hbox hg; have hcz5_0 : w4.cell? ⟨gb148, 0, none⟩ = some (.int .i64 a0_0) := (blk_cell BK148.out 0).trans rfl; have hcz5_1 : w4.cell? ⟨gb148, 1, none⟩ = some (.int .i64 a0_1) := (blk_cell BK148.out 1).trans rfl; have hcz5_2 : w4.cell? ⟨gb148, 2, none⟩ = some (.int .i64 a0_2) := (blk_cell BK148.out 2).trans rfl; have hcz5_3 : w4.cell? ⟨gb148, 3, none⟩ = some (.int .i64 a0_3) := (blk_cell BK148.out 3).trans rfl; have hcz5_4 : w4.cell? ⟨gb148, 4, none⟩ = some (.int .i64 a0_4) := (blk_cell BK148.out 4).trans rfl; have hcz5_5 : w4.cell? ⟨gb148, 5, none⟩ = some (.int .i64 a0_5) := (blk_cell BK148.out 5).trans rfl; have hcz5_6 : w4.cell? ⟨gb148, 6, none⟩ = some (.int .i64 a0_6) := (blk_cell BK148.out 6).trans rfl; have hcz5_7 : w4.cell? ⟨gb148, 7, none⟩ = some (.int .i64 a0_7) := (blk_cell BK148.out 7).trans rfl; have hcz5_8 : w4.cell? ⟨gb148, 8, none⟩ = some (.int .i64 a0_8) := (blk_cell BK148.out 8).trans rfl; have hfz5_0 := blk_frozen BK148.out 0; have hfz5_1 := blk_frozen BK148.out 1; have hfz5_2 := blk_frozen BK148.out 2; have hfz5_3 := blk_frozen BK148.out 3; have hfz5_4 := blk_frozen BK148.out 4; have hfz5_5 := blk_frozen BK148.out 5; have hfz5_6 := blk_frozen BK148.out 6; have hfz5_7 := blk_frozen BK148.out 7; have hfz5_8 := blk_frozen BK148.out 8) | ((with_reducible refine gate_callee (f := 93) rfl ?_); refine goesL_ (some 13) rfl rfl Try.func93 (by kernel_rfl) rfl #[.int .i64 a0_2] rfl (by (try simp only [List.map_toArray, List.map_cons, List.map_nil]); first | done | rfl | (simp only [List.length_drop, List.length_take]; rfl)) ?_; (with_reducible refine (date_Civil.calls k a0_2 t149 t150 t151 t152 _ A3.out).mono ?_); rintro e w' ⟨rfl, ⟨nd, rfl⟩⟩; refine ⟨_, rfl, ?_⟩))
 go_ret2
 exact ⟨by first | rfl | (simp [errW_none, errW_some] <;> rfl) | (simp [*, errW_none, errW_some] <;> rfl), by repeat (first | (with_reducible first | exact HB.out | apply below_alloc | apply pw_below_drewN | apply below_drew1 | refine below_set ?_ GE148.out) | exact HB.out)⟩
end Go.Proofs.Ytoncignjcgjhhaa.Q
namespace Go.Proofs.Ytoncignjcgjhhaa.L
open Go.RowKit Go.Proofs.YtoncignjcgjhhaaW.PrintWords Go.Proofs.YtoncignjcgjhhaaW.PrintLast Go.Proofs.YtoncignjcgjhhaaW.PrintMore
open Go.Proofs.Ytoncignjcgjhhaa.Q
variable {a0 a1 a2 a3 a4 a5 a6 a7 a8 : Int}
theorem may_single (h1 : i64 a1) (h3 : i64 a3) (h4 : i64 a4) (h5 : i64 a5) (h6 : i64 a6) (h7 : i64 a7) (h8 : i64 a8) : cal_single_may.f 4 a1 a2 a3 a4 a5 a6 a7 a8 = some (M.may ⟨4, a1, a2, a3, a4, a5, a6, a7, a8⟩) := by
 have ho : bits .or .i64 (bits .or .i64 (bits .or .i64 (bits .or .i64 (bits .or .i64 (bits .or .i64 a1 a3) a4) a5) a6) a7) a8 = 0 ↔ (((((a1 = 0 ∧ a3 = 0) ∧ a4 = 0) ∧ a5 = 0) ∧ a6 = 0) ∧ a7 = 0) ∧ a8 = 0 := by
  rw [or0 (or_i64 _ _) h8, or0 (or_i64 _ _) h7, or0 (or_i64 _ _) h6, or0 (or_i64 _ _) h5, or0 (or_i64 _ _) h4, or0 h1 h3]
 unfold cal_single_may.f M.may
 simp only [within, Option.bind_some, show ¬ ((4 : Int) = 1) from by decide, show ¬ ((4 : Int) = 2) from by decide, show ¬ ((4 : Int) = 3) from by decide, if_true, if_false]
 by_cases hz : (((((a1 = 0 ∧ a3 = 0) ∧ a4 = 0) ∧ a5 = 0) ∧ a6 = 0) ∧ a7 = 0) ∧ a8 = 0
 ·
  rw [if_pos (ho.2 hz)]; congr 1; rw [decide_eq_decide]; omega
 ·
  rw [if_neg (fun e => hz (ho.1 e))]; congr 1; symm; rw [decide_eq_false_iff_not]; omega
theorem civil_l1 (y d : Int) (h0 : 0 ≤ d) (h1 : d < 365 + M.lp y) : ∀ (f : Nat) (m : Int), 1 ≤ m → m ≤ M.monOf y d → M.monOf y d - m = f →
  Ev (fun k => date_civil.l1 k y m (d - M.cum y m)) (y, M.monOf y d, d - M.cum y (M.monOf y d) + 1)
 | 0, m, a, b, c => by
  obtain ⟨p, q, r, s⟩ := M.monOf_spec y d h0 h1
  have e : m = M.monOf y d := by omega
  have hc := M.cum_succ y (M.monOf y d) p q
  have hg := M.cum_rng y (M.monOf y d)
  have hl := M.lp_01 y
  refine Ev.step (f := fun _ => some (y, M.monOf y d, d - M.cum y (M.monOf y d) + 1)) (fun k => ?_) (Ev.now _)
  rw [e]
  simp only [date_civil.l1, length, Option.bind_some]
  rw [if_neg (by omega), w64 (by omega) (by omega)]
 | f + 1, m, a, b, c => by
  obtain ⟨p, q, r, s⟩ := M.monOf_spec y d h0 h1
  have ih := civil_l1 y d h0 h1 f (m + 1) (by omega) (by omega) (by omega)
  have hc := M.cum_succ y m a (by omega)
  have hg := M.cum_rng y m
  have hle := M.cum_le y (show 1 ≤ m + 1 by omega) (show m + 1 ≤ M.monOf y d by omega) (by omega)
  have hl := M.lp_01 y;have hml := M.mlen_rng y m
  refine Ev.step (fun k => ?_) ih
  simp only [date_civil.l1, length, Option.bind_some]
  rw [if_pos (by omega), w64 (by omega) (by omega), w64 (by omega) (by omega), show d - M.cum y m - M.mlen y m = d - M.cum y (m + 1) from by omega]
theorem civil_l0 (n : Int) (h0 : 0 ≤ n) (h1 : n ≤ 109572) : ∀ (f : Nat) (y : Int), 1900 ≤ y → y ≤ M.yearOf n → M.yearOf n - y = f →
  Ev (fun k => date_civil.l0 k n y) (M.civY n, M.civM n, M.civD n)
 | 0, y, a, b, c => by
  obtain ⟨p, q, r, s⟩ := M.yearOf_spec n h0 h1
  have e : y = M.yearOf n := by omega
  have hs := M.before_succ (M.yearOf n)
  have hb := before_rng (M.yearOf n) (by omega) (by omega)
  obtain ⟨p2, q2, r2, s2⟩ := M.monOf_spec (M.yearOf n) (n - M.before (M.yearOf n)) (by omega) (by omega)
  have h := civil_l1 (M.yearOf n) (n - M.before (M.yearOf n)) (by omega) (by omega) (M.monOf (M.yearOf n) (n - M.before (M.yearOf n)) - 1).toNat 1 (by omega) p2 (by omega)
  rw [M.cum_1, Int.sub_zero] at h
  refine Ev.step (fun k => ?_) h
  rw [e]
  simp only [date_civil.l0]
  rw [w64 (by omega) (by omega), before _ (by omega) (by omega), before _ (by omega) (by omega)]
  simp only [Option.bind_some]
  rw [if_neg (by omega), w64 (by omega) (by omega)]
 | f + 1, y, a, b, c => by
  obtain ⟨p, q, r, s⟩ := M.yearOf_spec n h0 h1
  have ih := civil_l0 n h0 h1 f (y + 1) (by omega) (by omega) (by omega)
  have hle := M.before_le (show y + 1 ≤ M.yearOf n by omega)
  refine Ev.step (fun k => ?_) ih
  simp only [date_civil.l0]
  rw [w64 (by omega) (by omega), before _ (by omega) (by omega)]
  simp only [Option.bind_some]
  rw [if_pos (by omega)]
theorem civil (n : Int) (h0 : 0 ≤ n) (h1 : n ≤ 109572) : Ev (fun k => date_civil.f k n) (M.civY n, M.civM n, M.civD n) := by
 have hy : 1900 + n / 366 ≤ M.yearOf n := by unfold M.yearOf; split <;> omega
 have h := civil_l0 n h0 h1 (M.yearOf n - (1900 + n / 366)).toNat (1900 + n / 366) (by omega) hy (by omega)
 refine Ev.congr (fun k => ?_) h
 unfold date_civil.f
 rw [td h0, w64 (x := n / 366) (by omega) (by omega), w64 (by omega) (by omega)]
theorem dis (n : Int) : date_is.f n = some (decide (0 ≤ n ∧ n ≤ 109572)) := by
 unfold date_is.f
 split
 ·
  congr 1; rw [decide_eq_decide]; omega
 ·
  congr 1; symm; rw [decide_eq_false_iff_not]; omega
theorem Civil (n : Int) : Ev (fun k => date_Civil.f k n) (if 0 ≤ n ∧ n ≤ 109572 then (M.civY n, M.civM n, M.civD n, 0) else (0, 0, 0, 51)) := by
 by_cases h : 0 ≤ n ∧ n ≤ 109572
 ·
  rw [if_pos h]
  have hd2 := Ev.bind (f := fun _ (t : Int × Int × Int) => some (t.1, t.2.1, t.2.2, (0 : Int))) (civil n h.1 h.2) (Ev.now _)
  refine Ev.congr (fun k => ?_) hd2
  unfold date_Civil.f
  rw [dis]
  simp [h]
 ·
  rw [if_neg h]
  refine Ev.congr (fun k => ?_) (Ev.now _)
  unfold date_Civil.f
  rw [dis]
  simp only [Option.bind_some]
  rw [if_neg (by simpa using h)]
theorem day_fixed (y : Int) (h : M.may ⟨1, a1, a2, a3, a4, a5, a6, a7, a8⟩ = true) (h0 : 1900 ≤ y) (h1 : y ≤ 2199) :
  Ev (fun k => cal_fixed_day.f k 1 a1 a2 a3 a4 a5 a6 a7 a8 y) (match M.rday ⟨1, a1, a2, a3, a4, a5, a6, a7, a8⟩ y with | some x => (x, true) | none => (0, false)) := by
 have hm : 1 ≤ a1 ∧ a1 ≤ 12 ∧ 1 ≤ a2 := by simp [M.may] at h; omega
 have ho := Ev.bind (f := fun _ (t : Int × Int) => some (t.1, (t.2 == 0))) (Of y a1 a2) (Ev.now _)
 unfold M.rday
 simp only [if_true]
 by_cases hd : a2 ≤ M.mlen y a1
 ·
  rw [if_pos hd]
  rw [if_pos (show M.isDate y a1 a2 from ⟨h0, h1, hm.1, hm.2.1, hm.2.2, hd⟩)] at ho
  exact ho
 ·
  rw [if_neg hd]
  rw [if_neg (show ¬ M.isDate y a1 a2 from fun e => hd e.2.2.2.2.2)] at ho
  exact ho
theorem day_nth (y : Int) (h : M.may ⟨2, a1, a2, a3, a4, a5, a6, a7, a8⟩ = true) (h0 : 1900 ≤ y) (h1 : y ≤ 2199) :
  Ev (fun k => cal_nth_day.f k 2 a1 a2 a3 a4 a5 a6 a7 a8 y) (match M.rday ⟨2, a1, a2, a3, a4, a5, a6, a7, a8⟩ y with | some x => (x, true) | none => (0, false)) := by
 have hm : 1 ≤ a1 ∧ a1 ≤ 12 ∧ 0 ≤ a4 ∧ a4 ≤ 6 ∧ 1 ≤ a3 ∧ a3 ≤ 5 := by simp [M.may] at h; omega
 have hl := M.mlen_rng y a1
 have hdt : M.isDate y a1 1 := ⟨h0, h1, hm.1, hm.2.1, by omega, by omega⟩
 have hr := M.day_rng hdt;have ho := Of y a1 1
 rw [if_pos hdt] at ho
 have e : M.rday ⟨2, a1, a2, a3, a4, a5, a6, a7, a8⟩ y = some (M.nthDay y a1 a4 a3) := rfl
 rw [e]
 refine Ev.congr (fun k => rfl) (Ev.bind (f := _) ho ?_)
 refine Ev.congr (fun k => ?_) (Ev.now _)
 rw [Length, if_pos ⟨h0, h1, hm.1, hm.2.1⟩]
 simp only [Option.bind_some]
 generalize hF : M.dayOf y a1 1 = F at *
 rw [tm (a := F) (b := 7) (by omega)]
 rw [w64 (x := a4 - F % 7) (by omega) (by omega), w64 (x := a4 - F % 7 + 7) (by omega) (by omega), tm (by omega), w64 (x := a3 - 1) (by omega) (by omega), w64 (x := 7 * (a3 - 1)) (by omega) (by omega), w64 (x := (a4 - F % 7 + 7) % 7 + 7 * (a3 - 1)) (by omega) (by omega),
  w64 (x := (a4 - F % 7 + 7) % 7 + 7 * (a3 - 1) - 7) (by omega) (by omega), w64 (x := F + ((a4 - F % 7 + 7) % 7 + 7 * (a3 - 1) - 7)) (by omega) (by omega), w64 (x := F + ((a4 - F % 7 + 7) % 7 + 7 * (a3 - 1))) (by omega) (by omega)]
 unfold M.nthDay
 simp only [hF]
 split <;> rfl
theorem day_easter (y : Int) (h : M.may ⟨3, a1, a2, a3, a4, a5, a6, a7, a8⟩ = true) (h0 : 1900 ≤ y) (h1 : y ≤ 2199) :
  cal_easter_day.f 3 a1 a2 a3 a4 a5 a6 a7 a8 y = some (match M.rday ⟨3, a1, a2, a3, a4, a5, a6, a7, a8⟩ y with | some x => (x, true) | none => (0, false)) := by
 have hm : -100 ≤ a5 ∧ a5 ≤ 100 := by simp [M.may] at h; omega
 obtain ⟨a, b, c, d⟩ := M.easter_spec y h0 h1
 have hr := M.day_rng a
 have e : M.rday ⟨3, a1, a2, a3, a4, a5, a6, a7, a8⟩ y = some (M.easterDay y + a5) := rfl
 have hr2 : 0 ≤ M.easterDay y ∧ M.easterDay y ≤ 109572 := ⟨hr.1, hr.2.1⟩
 rw [e]
 unfold cal_easter_day.f date_Easter.f H.easterF
 rw [if_pos ⟨h0, h1⟩]
 simp only [Option.bind_some]
 rw [w64 (by omega) (by omega)]
theorem day_single (y : Int) (h : M.may ⟨4, a1, a2, a3, a4, a5, a6, a7, a8⟩ = true) :
  Ev (fun k => cal_single_day.f k 4 a1 a2 a3 a4 a5 a6 a7 a8 y) (a2, decide (M.civY a2 = y)) := by
 have hm : 0 ≤ a2 ∧ a2 ≤ 109572 := by simp [M.may] at h; omega
 have hc := Civil a2
 rw [if_pos hm] at hc
 have := Ev.bind (f := fun _ (t : Int × Int × Int × Int) => some (a2, (t.1 == y))) hc (Ev.now _)
 refine Ev.congr (fun k => rfl) ?_
 have e : (M.civY a2 == y) = decide (M.civY a2 = y) := rfl
 rw [← e]; exact this
end Go.Proofs.Ytoncignjcgjhhaa.L
namespace Go.Proofs.Ytoncignjcgjhhaa.H
open Go.RowKit Go.Maps Go.Proofs.YtoncignjcgjhhaaW.PrintWords Go.Proofs.YtoncignjcgjhhaaW.PrintLast Go.Proofs.YtoncignjcgjhhaaW.PrintMore
open Go.Proofs.Ytoncignjcgjhhaa.Q (S63 k63 z63)
def ru (x : S63) : M.Rul := ⟨x.f0, x.f1, x.f2, x.f3, x.f4, x.f5, x.f6, x.f7, x.f8⟩
theorem kind_1 (a1 a2 a3 a4 a5 a6 a7 a8 : Int) (w : World) :
  Calls Try.prog 84 #[.agg #[.int .i64 1, .int .i64 a1, .int .i64 a2, .int .i64 a3, .int .i64 a4, .int .i64 a5, .int .i64 a6, .int .i64 a7, .int .i64 a8]] w fun e w' =>
   e = .returned (.iface 132 (.agg #[.int .i64 1, .int .i64 a1, .int .i64 a2, .int .i64 a3, .int .i64 a4, .int .i64 a5, .int .i64 a6, .int .i64 a7, .int .i64 a8])) ∧ Below w.heap.size w w' := by
 go_enter Try.func84, Try.ntmps84
 go_wp2
 go_ret
 exact ⟨rfl, below_alloc (Below.refl _ _) _⟩
theorem kind_2 (a1 a2 a3 a4 a5 a6 a7 a8 : Int) (w : World) :
  Calls Try.prog 84 #[.agg #[.int .i64 2, .int .i64 a1, .int .i64 a2, .int .i64 a3, .int .i64 a4, .int .i64 a5, .int .i64 a6, .int .i64 a7, .int .i64 a8]] w fun e w' =>
   e = .returned (.iface 133 (.agg #[.int .i64 2, .int .i64 a1, .int .i64 a2, .int .i64 a3, .int .i64 a4, .int .i64 a5, .int .i64 a6, .int .i64 a7, .int .i64 a8])) ∧ Below w.heap.size w w' := by
 go_enter Try.func84, Try.ntmps84
 go_wp2
 go_ret
 exact ⟨rfl, below_alloc (Below.refl _ _) _⟩
theorem kind_3 (a1 a2 a3 a4 a5 a6 a7 a8 : Int) (w : World) :
  Calls Try.prog 84 #[.agg #[.int .i64 3, .int .i64 a1, .int .i64 a2, .int .i64 a3, .int .i64 a4, .int .i64 a5, .int .i64 a6, .int .i64 a7, .int .i64 a8]] w fun e w' =>
   e = .returned (.iface 134 (.agg #[.int .i64 3, .int .i64 a1, .int .i64 a2, .int .i64 a3, .int .i64 a4, .int .i64 a5, .int .i64 a6, .int .i64 a7, .int .i64 a8])) ∧ Below w.heap.size w w' := by
 go_enter Try.func84, Try.ntmps84
 go_wp2
 go_ret
 exact ⟨rfl, below_alloc (Below.refl _ _) _⟩
theorem kind_4 (a1 a2 a3 a4 a5 a6 a7 a8 : Int) (w : World) :
  Calls Try.prog 84 #[.agg #[.int .i64 4, .int .i64 a1, .int .i64 a2, .int .i64 a3, .int .i64 a4, .int .i64 a5, .int .i64 a6, .int .i64 a7, .int .i64 a8]] w fun e w' =>
   e = .returned (.iface 135 (.agg #[.int .i64 4, .int .i64 a1, .int .i64 a2, .int .i64 a3, .int .i64 a4, .int .i64 a5, .int .i64 a6, .int .i64 a7, .int .i64 a8])) ∧ Below w.heap.size w w' := by
 go_enter Try.func84, Try.ntmps84
 go_wp2
 go_ret
 exact ⟨rfl, below_alloc (Below.refl _ _) _⟩
theorem kind_0 (a0 a1 a2 a3 a4 a5 a6 a7 a8 : Int) (w : World) (h1 : ¬ a0 = 1) (h2 : ¬ a0 = 2) (h3 : ¬ a0 = 3) (h4 : ¬ a0 = 4) :
  Calls Try.prog 84 #[.agg #[.int .i64 a0, .int .i64 a1, .int .i64 a2, .int .i64 a3, .int .i64 a4, .int .i64 a5, .int .i64 a6, .int .i64 a7, .int .i64 a8]] w fun e w' =>
   e = .returned .nilIface ∧ Below w.heap.size w w' := by
 have g1 : (a0 == 1) = false := by simpa using h1
 have g2 : (a0 == 2) = false := by simpa using h2
 have g3 : (a0 == 3) = false := by simpa using h3
 have g4 : (a0 == 4) = false := by simpa using h4
 go_enter Try.func84, Try.ntmps84
 go_wp2
 go_ret
 exact ⟨rfl, below_alloc (Below.refl _ _) _⟩
theorem may_132 (v : Array Value) (w : World) : (method 274 132 (.agg v) "tenor/cal.may").run Try.prog w = .ok (156, .agg v) w := by kernel_rfl
theorem may_133 (v : Array Value) (w : World) : (method 274 133 (.agg v) "tenor/cal.may").run Try.prog w = .ok (159, .agg v) w := by kernel_rfl
theorem may_134 (v : Array Value) (w : World) : (method 274 134 (.agg v) "tenor/cal.may").run Try.prog w = .ok (161, .agg v) w := by kernel_rfl
theorem may_135 (v : Array Value) (w : World) : (method 274 135 (.agg v) "tenor/cal.may").run Try.prog w = .ok (164, .agg v) w := by kernel_rfl
theorem day_132 (v : Array Value) (w : World) : (method 274 132 (.agg v) "tenor/cal.day").run Try.prog w = .ok (155, .agg v) w := by kernel_rfl
theorem day_133 (v : Array Value) (w : World) : (method 274 133 (.agg v) "tenor/cal.day").run Try.prog w = .ok (158, .agg v) w := by kernel_rfl
theorem day_134 (v : Array Value) (w : World) : (method 274 134 (.agg v) "tenor/cal.day").run Try.prog w = .ok (160, .agg v) w := by kernel_rfl
theorem day_135 (v : Array Value) (w : World) : (method 274 135 (.agg v) "tenor/cal.day").run Try.prog w = .ok (163, .agg v) w := by kernel_rfl
theorem within_calls (a b c : Int) (r : Bool) (hr : decide (b ≤ a ∧ a ≤ c) = r) (w : World) :
  Calls Try.prog 83 #[.int .i64 a, .int .i64 b, .int .i64 c] w fun e w' => e = .returned (.bool r) ∧ Drawn0 w w' :=
 Q.cal_within.calls a b c r w (by rw [L.within, hr])
theorem mayC_1 (a1 a2 a3 a4 a5 a6 a7 a8 : Int) (h3 : L.i64 a3) (h4 : L.i64 a4) (h5 : L.i64 a5) (b : Bool) (hb : M.may ⟨1, a1, a2, a3, a4, a5, a6, a7, a8⟩ = b) (w : World) :
  Calls Try.prog 156 #[.agg #[.int .i64 1, .int .i64 a1, .int .i64 a2, .int .i64 a3, .int .i64 a4, .int .i64 a5, .int .i64 a6, .int .i64 a7, .int .i64 a8]] w fun e w' => e = .returned (.bool b) ∧ Below w.heap.size w w' := by
 subst hb
 exact Q.cal_fixed_may.calls 1 1 a1 a2 a3 a4 a5 a6 a7 a8 _ w (L.may_fixed h3 h4 h5 0)
theorem mayC_2 (a1 a2 a3 a4 a5 a6 a7 a8 : Int) (h2 : L.i64 a2) (h5 : L.i64 a5) (b : Bool) (hb : M.may ⟨2, a1, a2, a3, a4, a5, a6, a7, a8⟩ = b) (w : World) :
  Calls Try.prog 159 #[.agg #[.int .i64 2, .int .i64 a1, .int .i64 a2, .int .i64 a3, .int .i64 a4, .int .i64 a5, .int .i64 a6, .int .i64 a7, .int .i64 a8]] w fun e w' => e = .returned (.bool b) ∧ Below w.heap.size w w' := by
 subst hb
 exact Q.cal_nth_may.calls 2 a1 a2 a3 a4 a5 a6 a7 a8 _ w (L.may_nth h2 h5)
theorem mayC_3 (a1 a2 a3 a4 a5 a6 a7 a8 : Int) (h1 : L.i64 a1) (h2 : L.i64 a2) (h3 : L.i64 a3) (h4 : L.i64 a4) (b : Bool) (hb : M.may ⟨3, a1, a2, a3, a4, a5, a6, a7, a8⟩ = b) (w : World) :
  Calls Try.prog 161 #[.agg #[.int .i64 3, .int .i64 a1, .int .i64 a2, .int .i64 a3, .int .i64 a4, .int .i64 a5, .int .i64 a6, .int .i64 a7, .int .i64 a8]] w fun e w' => e = .returned (.bool b) ∧ Below w.heap.size w w' := by
 subst hb
 exact Q.cal_easter_may.calls 3 a1 a2 a3 a4 a5 a6 a7 a8 _ w (L.may_easter h1 h2 h3 h4)
theorem mayC_4 (a1 a2 a3 a4 a5 a6 a7 a8 : Int) (h1 : L.i64 a1) (h3 : L.i64 a3) (h4 : L.i64 a4) (h5 : L.i64 a5) (h6 : L.i64 a6) (h7 : L.i64 a7) (h8 : L.i64 a8) (b : Bool) (hb : M.may ⟨4, a1, a2, a3, a4, a5, a6, a7, a8⟩ = b) (w : World) :
  Calls Try.prog 164 #[.agg #[.int .i64 4, .int .i64 a1, .int .i64 a2, .int .i64 a3, .int .i64 a4, .int .i64 a5, .int .i64 a6, .int .i64 a7, .int .i64 a8]] w fun e w' => e = .returned (.bool b) ∧ Below w.heap.size w w' := by
 subst hb
 exact Q.cal_single_may.calls 4 a1 a2 a3 a4 a5 a6 a7 a8 _ w (L.may_single h1 h3 h4 h5 h6 h7 h8)
def wfS (x : S63) : Prop := L.i64 x.f0 ∧ L.i64 x.f1 ∧ L.i64 x.f2 ∧ L.i64 x.f3 ∧ L.i64 x.f4 ∧ L.i64 x.f5 ∧ L.i64 x.f6 ∧ L.i64 x.f7 ∧ L.i64 x.f8
theorem ret_pair {k k' : IntKind} {a b : Int} {q : Int × Int} (h : (a, b) = q) : Ending.returned (.tuple #[.int k a, .int k' b]) = .returned (.tuple #[.int k q.1, .int k' q.2]) := by rw [← h]
theorem chk_at {we : Int} {l : List M.Rul} (h : l.length ≤ 64) (h0 : 0 ≤ we) (h1 : we ≤ 126) : M.chkAt l 0 = M.chk we l := by
  unfold M.chk; rw [if_neg (by omega), if_pos ⟨h0, h1⟩]
theorem chkAt_step {l : List M.Rul} {i : Nat} (hi : i < l.length) {ans : Int × Int} (h : M.chkAt (l.drop i) i = ans) :
  (M.may l[i] = true → M.chkAt (l.drop (i + 1)) ((i + 1 : Nat) : Int) = ans) ∧ (M.may l[i] = false → (60, (i : Int)) = ans) := by
 rw [List.drop_eq_getElem_cons hi] at h
 unfold M.chkAt at h
 constructor
 ·
  intro hm; rw [if_pos hm] at h; push_cast; exact h
 ·
  intro hm; rw [if_neg (by simp [hm])] at h; exact h
theorem chkAt_end {l : List M.Rul} {i : Nat} (hi : i = l.length) {ans : Int × Int} (h : M.chkAt (l.drop i) i = ans) : (0, 0) = ans := by
  subst hi; rw [List.drop_length] at h; exact h
theorem cellsBelow {w w1 : World} (hb : Below w.heap.size w w1) {a : Addr} {v : Value} (h : w.cell? a = some v) : w1.cell? a = some v := (hb.cell (World.block_lt_of_cell? w _ h)).trans h
theorem rule_at {w : World} {A : Option Addr} {l : List S63} (h : Kd.C k63 w A l.length l) (i : Nat) (hi : i < l.length) (wr : World) (hb : Below w.heap.size w wr) : ∃ ad a0 a1 a2 a3 a4 a5 a6 a7 a8, A = some ad ∧ l[i] = ⟨a0, a1, a2, a3, a4, a5, a6, a7, a8⟩ ∧
  wr.cell? (ad.add (i * 9)) = some (.int .i64 a0) ∧ wr.cell? ⟨(ad.add (i * 9)).block, (ad.add (i * 9)).off + 1, none⟩ = some (.int .i64 a1) ∧ wr.cell? ⟨(ad.add (i * 9)).block, (ad.add (i * 9)).off + 2, none⟩ = some (.int .i64 a2) ∧
  wr.cell? ⟨(ad.add (i * 9)).block, (ad.add (i * 9)).off + 3, none⟩ = some (.int .i64 a3) ∧ wr.cell? ⟨(ad.add (i * 9)).block, (ad.add (i * 9)).off + 4, none⟩ = some (.int .i64 a4) ∧ wr.cell? ⟨(ad.add (i * 9)).block, (ad.add (i * 9)).off + 5, none⟩ = some (.int .i64 a5) ∧
  wr.cell? ⟨(ad.add (i * 9)).block, (ad.add (i * 9)).off + 6, none⟩ = some (.int .i64 a6) ∧ wr.cell? ⟨(ad.add (i * 9)).block, (ad.add (i * 9)).off + 7, none⟩ = some (.int .i64 a7) ∧ wr.cell? ⟨(ad.add (i * 9)).block, (ad.add (i * 9)).off + 8, none⟩ = some (.int .i64 a8) := by
 obtain ⟨ad, hA, x0, x1, x2, x3, x4, x5, x6, x7, x8⟩ := Q.at_T63 h (i : Int) (by omega) (by omega)
 have e : Q.rd_T63 l (i : Int) = l[i] := by simp [Q.rd_T63, hi]
 rw [e, Int.toNat_natCast] at x0 x1 x2 x3 x4 x5 x6 x7 x8
 exact ⟨ad, _, _, _, _, _, _, _, _, _, hA, rfl, cellsBelow hb x0, cellsBelow hb x1, cellsBelow hb x2, cellsBelow hb x3, cellsBelow hb x4, cellsBelow hb x5, cellsBelow hb x6, cellsBelow hb x7, cellsBelow hb x8⟩
set_option maxHeartbeats 2000000 in
set_option maxRecDepth 100000 in
theorem check_loop (we : Int) (A : Option Addr) (c : Nat) (l : List S63) (w : World) (hr : Kd.C k63 w A l.length l) (hw : ∀ x ∈ l, wfS x) (h64 : l.length ≤ 64) (h0 : 0 ≤ we) (h1 : we ≤ 126) :
  Calls Try.prog 44 #[.agg #[.int .i64 we, .slice A l.length c]] w fun e w' => e = .returned (.tuple #[.int .i64 (M.chk we (l.map ru)).1, .int .i64 (M.chk we (l.map ru)).2]) ∧ Below w.heap.size w w' := by
 have HR := Aside0.mk hr; clear hr
 have HW := Aside0.mk hw; clear hw
 have hlen : decide (64 < l.length) = false := by simpa using h64
 have hst := Aside0.mk (chk_at (l := l.map ru) (by simpa using h64) h0 h1)
 go_enter Try.func44, Try.ntmps44
 have hwt : decide (0 ≤ we ∧ we ≤ 126) = true := by simp; omega
 go_wp2_with (go_at_call 83; refine (within_calls _ _ _ _ hwt _).mono ?_; rintro e w' ⟨rfl, ⟨n0, rfl⟩⟩)
 go_loopg [18] (l.length) (fun kq v4 w' => ∃ i : Nat, i ≤ l.length ∧ kq + i = l.length ∧ v4 = .int .i64 i ∧ Aside0 (M.chkAt ((l.map ru).drop i) i = M.chk we (l.map ru)) ∧ Aside0 (Below w.heap.size w w'))
 case atStart => exact ⟨0, by omega, by omega, rfl, ⟨by simpa using hst.out⟩, ⟨by repeat (first | exact Below.refl _ _ | apply pw_below_drewN | apply below_alloc)⟩⟩
 case round =>
  obtain ⟨i, hi, hk, rfl, HA, HB⟩ := hrel
  by_cases hlt : i < l.length
  ·
   obtain ⟨ad, a0, a1, a2, a3, a4, a5, a6, a7, a8, rfl, hx, x0, x1, x2, x3, x4, x5, x6, x7, x8⟩ := rule_at HR.out i hlt wr HB.out
   have hwx := HW.out l[i] (List.getElem_mem hlt)
   have hs := chkAt_step (l := l.map ru) (i := i) (by simpa using hlt) HA.out
   rw [List.getElem_map, hx] at hs
   rw [hx] at hwx
   obtain ⟨w0, w1, w2, w3, w4, w5, w6, w7, w8⟩ := hwx
   simp only [ru] at hs w0 w1 w2 w3 w4 w5 w6 w7 w8
   clear hx
   have HW0 := Aside0.mk w0; have HW1 := Aside0.mk w1; have HW2 := Aside0.mk w2; have HW3 := Aside0.mk w3; have HW4 := Aside0.mk w4; have HW5 := Aside0.mk w5; have HW6 := Aside0.mk w6; have HW7 := Aside0.mk w7; have HW8 := Aside0.mk w8
   clear w0 w1 w2 w3 w4 w5 w6 w7 w8
   have HS := Aside0.mk hs; clear hs
   by_cases k1 : a0 = 1
   ·
    subst k1;have hmeth := may_132
    cases hm : M.may ⟨1, a1, a2, a3, a4, a5, a6, a7, a8⟩ with
    | true =>
     have HT := Aside0.mk (HS.out.1 hm)
     have HM := Aside0.mk hm; clear hm
     go_wp2_with fail
     refine (kind_1 _ _ _ _ _ _ _ _ _).mono ?_; rintro e w1 ⟨rfl, hb1⟩
     have HB1 := Aside0.mk (below_then (by repeat (first | exact HB.out | apply pw_below_drewN | apply below_alloc)) (by have := HB.out.size; simp; omega) hb1 : Below w.heap.size w w1); clear hb1
     go_wp2_with fail
     refine (mayC_1 _ _ _ _ _ _ _ _ HW3.out HW4.out HW5.out _ HM.out _).mono ?_; rintro e w2 ⟨rfl, hb2⟩
     have HB2 := Aside0.mk (below_then HB1.out HB1.out.size hb2 : Below w.heap.size w w2); clear hb2
     go_wp2_with fail
     go_roundg (gk - 1)
     case measure => omega
     case rel => exact ⟨i + 1, by omega, by omega, by go_num, HT, ⟨by repeat (first | exact HB2.out | apply pw_below_drewN | apply below_alloc)⟩⟩
    | false =>
     have HT := Aside0.mk (HS.out.2 hm)
     have HM := Aside0.mk hm; clear hm
     go_wp2_with fail
     refine (kind_1 _ _ _ _ _ _ _ _ _).mono ?_; rintro e w1 ⟨rfl, hb1⟩
     have HB1 := Aside0.mk (below_then (by repeat (first | exact HB.out | apply pw_below_drewN | apply below_alloc)) (by have := HB.out.size; simp; omega) hb1 : Below w.heap.size w w1); clear hb1
     go_wp2_with fail
     refine (mayC_1 _ _ _ _ _ _ _ _ HW3.out HW4.out HW5.out _ HM.out _).mono ?_; rintro e w2 ⟨rfl, hb2⟩
     have HB2 := Aside0.mk (below_then HB1.out HB1.out.size hb2 : Below w.heap.size w w2); clear hb2
     go_wp2_with fail
     go_ret2
     exact ⟨ret_pair HT.out, by repeat (first | exact HB2.out | apply pw_below_drewN | apply below_alloc)⟩
   ·
    by_cases k2 : a0 = 2
    ·
     subst k2;have hmeth := may_133
     cases hm : M.may ⟨2, a1, a2, a3, a4, a5, a6, a7, a8⟩ with
     | true =>
      have HT := Aside0.mk (HS.out.1 hm)
      have HM := Aside0.mk hm; clear hm
      go_wp2_with fail
      refine (kind_2 _ _ _ _ _ _ _ _ _).mono ?_; rintro e w1 ⟨rfl, hb1⟩
      have HB1 := Aside0.mk (below_then (by repeat (first | exact HB.out | apply pw_below_drewN | apply below_alloc)) (by have := HB.out.size; simp; omega) hb1 : Below w.heap.size w w1); clear hb1
      go_wp2_with fail
      refine (mayC_2 _ _ _ _ _ _ _ _ HW2.out HW5.out _ HM.out _).mono ?_; rintro e w2 ⟨rfl, hb2⟩
      have HB2 := Aside0.mk (below_then HB1.out HB1.out.size hb2 : Below w.heap.size w w2); clear hb2
      go_wp2_with fail
      go_roundg (gk - 1)
      case measure => omega
      case rel => exact ⟨i + 1, by omega, by omega, by go_num, HT, ⟨by repeat (first | exact HB2.out | apply pw_below_drewN | apply below_alloc)⟩⟩
     | false =>
      have HT := Aside0.mk (HS.out.2 hm)
      have HM := Aside0.mk hm; clear hm
      go_wp2_with fail
      refine (kind_2 _ _ _ _ _ _ _ _ _).mono ?_; rintro e w1 ⟨rfl, hb1⟩
      have HB1 := Aside0.mk (below_then (by repeat (first | exact HB.out | apply pw_below_drewN | apply below_alloc)) (by have := HB.out.size; simp; omega) hb1 : Below w.heap.size w w1); clear hb1
      go_wp2_with fail
      refine (mayC_2 _ _ _ _ _ _ _ _ HW2.out HW5.out _ HM.out _).mono ?_; rintro e w2 ⟨rfl, hb2⟩
      have HB2 := Aside0.mk (below_then HB1.out HB1.out.size hb2 : Below w.heap.size w w2); clear hb2
      go_wp2_with fail
      go_ret2
      exact ⟨ret_pair HT.out, by repeat (first | exact HB2.out | apply pw_below_drewN | apply below_alloc)⟩
    ·
     by_cases k3 : a0 = 3
     ·
      subst k3;have hmeth := may_134
      cases hm : M.may ⟨3, a1, a2, a3, a4, a5, a6, a7, a8⟩ with
      | true =>
       have HT := Aside0.mk (HS.out.1 hm)
       have HM := Aside0.mk hm; clear hm
       go_wp2_with fail
       refine (kind_3 _ _ _ _ _ _ _ _ _).mono ?_; rintro e w1 ⟨rfl, hb1⟩
       have HB1 := Aside0.mk (below_then (by repeat (first | exact HB.out | apply pw_below_drewN | apply below_alloc)) (by have := HB.out.size; simp; omega) hb1 : Below w.heap.size w w1); clear hb1
       go_wp2_with fail
       refine (mayC_3 _ _ _ _ _ _ _ _ HW1.out HW2.out HW3.out HW4.out _ HM.out _).mono ?_; rintro e w2 ⟨rfl, hb2⟩
       have HB2 := Aside0.mk (below_then HB1.out HB1.out.size hb2 : Below w.heap.size w w2); clear hb2
       go_wp2_with fail
       go_roundg (gk - 1)
       case measure => omega
       case rel => exact ⟨i + 1, by omega, by omega, by go_num, HT, ⟨by repeat (first | exact HB2.out | apply pw_below_drewN | apply below_alloc)⟩⟩
      | false =>
       have HT := Aside0.mk (HS.out.2 hm)
       have HM := Aside0.mk hm; clear hm
       go_wp2_with fail
       refine (kind_3 _ _ _ _ _ _ _ _ _).mono ?_; rintro e w1 ⟨rfl, hb1⟩
       have HB1 := Aside0.mk (below_then (by repeat (first | exact HB.out | apply pw_below_drewN | apply below_alloc)) (by have := HB.out.size; simp; omega) hb1 : Below w.heap.size w w1); clear hb1
       go_wp2_with fail
       refine (mayC_3 _ _ _ _ _ _ _ _ HW1.out HW2.out HW3.out HW4.out _ HM.out _).mono ?_; rintro e w2 ⟨rfl, hb2⟩
       have HB2 := Aside0.mk (below_then HB1.out HB1.out.size hb2 : Below w.heap.size w w2); clear hb2
       go_wp2_with fail
       go_ret2
       exact ⟨ret_pair HT.out, by repeat (first | exact HB2.out | apply pw_below_drewN | apply below_alloc)⟩
     ·
      by_cases k4 : a0 = 4
      ·
       subst k4;have hmeth := may_135
       cases hm : M.may ⟨4, a1, a2, a3, a4, a5, a6, a7, a8⟩ with
       | true =>
        have HT := Aside0.mk (HS.out.1 hm)
        have HM := Aside0.mk hm; clear hm
        go_wp2_with fail
        refine (kind_4 _ _ _ _ _ _ _ _ _).mono ?_; rintro e w1 ⟨rfl, hb1⟩
        have HB1 := Aside0.mk (below_then (by repeat (first | exact HB.out | apply pw_below_drewN | apply below_alloc)) (by have := HB.out.size; simp; omega) hb1 : Below w.heap.size w w1); clear hb1
        go_wp2_with fail
        refine (mayC_4 _ _ _ _ _ _ _ _ HW1.out HW3.out HW4.out HW5.out HW6.out HW7.out HW8.out _ HM.out _).mono ?_; rintro e w2 ⟨rfl, hb2⟩
        have HB2 := Aside0.mk (below_then HB1.out HB1.out.size hb2 : Below w.heap.size w w2); clear hb2
        go_wp2_with fail
        go_roundg (gk - 1)
        case measure => omega
        case rel => exact ⟨i + 1, by omega, by omega, by go_num, HT, ⟨by repeat (first | exact HB2.out | apply pw_below_drewN | apply below_alloc)⟩⟩
       | false =>
        have HT := Aside0.mk (HS.out.2 hm)
        have HM := Aside0.mk hm; clear hm
        go_wp2_with fail
        refine (kind_4 _ _ _ _ _ _ _ _ _).mono ?_; rintro e w1 ⟨rfl, hb1⟩
        have HB1 := Aside0.mk (below_then (by repeat (first | exact HB.out | apply pw_below_drewN | apply below_alloc)) (by have := HB.out.size; simp; omega) hb1 : Below w.heap.size w w1); clear hb1
        go_wp2_with fail
        refine (mayC_4 _ _ _ _ _ _ _ _ HW1.out HW3.out HW4.out HW5.out HW6.out HW7.out HW8.out _ HM.out _).mono ?_; rintro e w2 ⟨rfl, hb2⟩
        have HB2 := Aside0.mk (below_then HB1.out HB1.out.size hb2 : Below w.heap.size w w2); clear hb2
        go_wp2_with fail
        go_ret2
        exact ⟨ret_pair HT.out, by repeat (first | exact HB2.out | apply pw_below_drewN | apply below_alloc)⟩
      ·
       have hm : M.may ⟨a0, a1, a2, a3, a4, a5, a6, a7, a8⟩ = false := by unfold M.may; simp only; rw [if_neg k1, if_neg k2, if_neg k3, if_neg k4]
       have HT := Aside0.mk (HS.out.2 hm); clear hm
       go_wp2_with fail
       refine (kind_0 _ _ _ _ _ _ _ _ _ _ k1 k2 k3 k4).mono ?_; rintro e w1 ⟨rfl, hb1⟩
       have HB1 := Aside0.mk (below_then (by repeat (first | exact HB.out | apply pw_below_drewN | apply below_alloc)) (by have := HB.out.size; simp; omega) hb1 : Below w.heap.size w w1); clear hb1
       go_wp2_with fail
       go_ret2
       exact ⟨ret_pair HT.out, by repeat (first | exact HB1.out | apply pw_below_drewN | apply below_alloc)⟩
  ·
   have e : i = l.length := by omega
   have HE := Aside0.mk (chkAt_end (by simpa using e) HA.out)
   have hge : decide ((i : Int) < (l.length : Int)) = false := by simp; omega
   have hge2 : decide (i < l.length) = false := by simp; omega
   clear e
   go_wp2_with fail
   go_ret2
   exact ⟨ret_pair HE.out, by repeat (first | exact HB.out | apply pw_below_drewN | apply below_alloc)⟩
theorem chk_long {we : Int} {l : List M.Rul} (h : 64 < l.length) : (2, 0) = M.chk we l := by unfold M.chk; rw [if_pos h]
theorem chk_end {we : Int} {l : List M.Rul} (h : l.length ≤ 64) (hw : ¬ (0 ≤ we ∧ we ≤ 126)) : (60, -1) = M.chk we l := by unfold M.chk; rw [if_neg (by omega), if_neg hw]
set_option maxHeartbeats 1000000 in
set_option maxRecDepth 100000 in
theorem check_calls (we : Int) (A : Option Addr) (c : Nat) (l : List S63) (w : World) (hr : Kd.C k63 w A l.length l) (hw : ∀ x ∈ l, wfS x) :
  Calls Try.prog 44 #[.agg #[.int .i64 we, .slice A l.length c]] w fun e w' => e = .returned (.tuple #[.int .i64 (M.chk we (l.map ru)).1, .int .i64 (M.chk we (l.map ru)).2]) ∧ Below w.heap.size w w' := by
 by_cases h64 : 64 < l.length
 ·
  have hlen : decide (64 < l.length) = true := by simpa using h64
  have hlen2 : decide (64 < (l.length : Int)) = true := by simp; omega
  have HT := Aside0.mk (chk_long (we := we) (l := l.map ru) (by simpa using h64))
  clear hr hw h64
  go_enter Try.func44, Try.ntmps44
  go_wp2
  go_ret2
  exact ⟨ret_pair HT.out, by repeat (first | exact Below.refl _ _ | apply pw_below_drewN | apply below_alloc)⟩
 ·
  by_cases hwe : 0 ≤ we ∧ we ≤ 126
  ·
   exact check_loop we A c l w hr hw (by omega) hwe.1 hwe.2
  ·
   have hlen : decide (64 < l.length) = false := by simpa using h64
   have hlen2 : decide (64 < (l.length : Int)) = false := by simp; omega
   have HT := Aside0.mk (chk_end (we := we) (l := l.map ru) (by simpa using h64) hwe)
   have hwt : decide (0 ≤ we ∧ we ≤ 126) = false := by simpa using hwe
   clear hr hw h64 hwe
   go_enter Try.func44, Try.ntmps44
   go_wp2_with (go_at_call 83; refine (within_calls _ _ _ _ hwt _).mono ?_; rintro e w' ⟨rfl, ⟨n0, rfl⟩⟩)
   go_ret2
   exact ⟨ret_pair HT.out, by repeat (first | exact Below.refl _ _ | apply pw_below_drewN | apply below_alloc)⟩
end Go.Proofs.Ytoncignjcgjhhaa.H
namespace Go.Proofs.Ytoncignjcgjhhaa.Q
instance i64Dec (x : Int) : Decidable (L.i64 x) := inferInstanceAs (Decidable (-9223372036854775808 ≤ x ∧ x ≤ 9223372036854775807))
instance wfSDec (x : S63) : Decidable (H.wfS x) := inferInstanceAs (Decidable (L.i64 x.f0 ∧ L.i64 x.f1 ∧ L.i64 x.f2 ∧ L.i64 x.f3 ∧ L.i64 x.f4 ∧ L.i64 x.f5 ∧ L.i64 x.f6 ∧ L.i64 x.f7 ∧ L.i64 x.f8))
def wfL (l : List S63) : Prop := l.all (fun x => decide (H.wfS x)) = true
instance wfLDec (l : List S63) : Decidable (wfL l) := inferInstanceAs (Decidable (l.all (fun x => decide (H.wfS x)) = true))
theorem wfL_mem {l : List S63} (h : wfL l) : ∀ x ∈ l, H.wfS x := fun x hx => of_decide_eq_true (List.all_eq_true.1 h x hx)
theorem wfL_of {l : List S63} (h : ∀ x ∈ l, H.wfS x) : wfL l := List.all_eq_true.2 fun x hx => decide_eq_true (h x hx)
end Go.Proofs.Ytoncignjcgjhhaa.Q
namespace Go.Proofs.Ytoncignjcgjhhaa.Q
open Go.RowKit Go.Proofs.YtoncignjcgjhhaaW.PrintWords Go.Proofs.YtoncignjcgjhhaaW.PrintLast Go.Proofs.YtoncignjcgjhhaaW.PrintMore
attribute [local go_sem] max2_int min2_int max_two min_two max_three min_three max_four min_four   -- for this text's walks alone
def cal_Check.f (a0_0 : Int) (l0_1 : List S63)  : Option (Int × Int) := if wfL l0_1 then some (Go.Proofs.Ytoncignjcgjhhaa.M.chk a0_0 (l0_1.map Go.Proofs.Ytoncignjcgjhhaa.H.ru) ) else none
theorem cal_Check.calls (a0_0 : Int) (A0_1 : Option Addr) (c0_1 : Nat) (l0_1 : List (S63)) (r1 : Int) (r2 : Int) (w : World) (hr0_1 : Kd.C k63 w A0_1 l0_1.length l0_1) (hc0_1 : l0_1.length ≤ c0_1) (h : cal_Check.f a0_0 l0_1  = some (r1, r2)) :
  Calls Try.prog 44 #[.agg #[.int .i64 a0_0, .slice A0_1 l0_1.length c0_1]] w fun e w' => e = .returned (.tuple #[.int .i64 r1, .int .i64 r2]) ∧ Below w.heap.size w w' := by
 unfold cal_Check.f at h
 split at h
 ·
  rename_i hc
  have e := Option.some.inj h
  have c := Go.Proofs.Ytoncignjcgjhhaa.H.check_calls a0_0 A0_1 c0_1 l0_1  w hr0_1 (wfL_mem hc)
  rw [e] at c
  exact c
 ·
  cases h
end Go.Proofs.Ytoncignjcgjhhaa.Q
namespace Go.Proofs.Ytoncignjcgjhhaa.Q
open Go.RowKit Go.Proofs.YtoncignjcgjhhaaW.PrintWords Go.Proofs.YtoncignjcgjhhaaW.PrintLast Go.Proofs.YtoncignjcgjhhaaW.PrintMore
attribute [local go_sem] max2_int min2_int max_two min_two max_three min_three max_four min_four   -- for this text's walks alone
def sched_is.f (a0 : Int) : Option (Bool) := if a0 ≥ 0 then (some (decide (a0 ≤ 109572))) else (some false)
set_option maxHeartbeats 8000000 in
set_option maxRecDepth 100000 in
theorem sched_is.calls (a0 : Int) (r : Bool) (w : World) (h : sched_is.f a0 = some r) :
  Calls Try.prog 90 #[.int .i64 a0] w fun e w' => e = .returned (.bool r) ∧ Drawn0 w w' := by
 have H : (if a0 ≥ 0 then (some (decide (a0 ≤ 109572))) else (some false)) = some r := h
 clear h
 by_cases c2 : a0 ≥ 0
 ·
  rw [if_pos c2] at H
  have c2b0 : decide (0 ≤ a0) = true := decide_eq_true c2
  clear c2
  obtain rfl := Option.some.inj H
  go_enter Try.func90, Try.ntmps90
  go_wp2
  go_ret
  exact ⟨by first | rfl | (simp; done) | (simp [*]; done), by repeat (first | exact Drawn0.refl _ | apply Drawn0.step)⟩
 ·
  rw [if_neg c2] at H
  have c2b0 : decide (0 ≤ a0) = false := decide_eq_false c2
  clear c2
  obtain rfl := Option.some.inj H
  go_enter Try.func90, Try.ntmps90
  go_wp2
  go_ret
  exact ⟨by first | rfl | (simp; done) | (simp [*]; done), by repeat (first | exact Drawn0.refl _ | apply Drawn0.step)⟩
end Go.Proofs.Ytoncignjcgjhhaa.Q
