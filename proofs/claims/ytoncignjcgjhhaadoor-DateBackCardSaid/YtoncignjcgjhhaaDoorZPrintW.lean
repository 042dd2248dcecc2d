/- The contract of the program's Print: a day's date as a text of ten bytes. Condition: strconv's table of powers of ten reads as laid. -/
import Derived.Test.YtoncignjcgjhhaaDoorZGB
import Derived.Test.YtoncignjcgjhhaaDoorZGA
import Derived.Lib.OthersKept
import Derived.Lib.AppendIntMem
import Derived.BigCall
import Derived.Test.YtoncignjcgjhhaaDoorZU
set_option linter.unusedVariables false
set_option linter.unusedSimpArgs false
namespace Go.Proofs.YtoncignjcgjhhaaDoor.T
def dg (x : Int) : UInt8 := UInt8.ofNat (48 + x.toNat)
def two (x : Int) : ByteArray := ⟨#[dg (x / 10), dg (x % 10)]⟩
def year (x : Int) : ByteArray := ⟨#[dg (x / 1000), dg (x / 100 % 10), dg (x / 10 % 10), dg (x % 10)]⟩
def dash : ByteArray := ⟨#[45]⟩
def textOf (n : Int) : ByteArray := (((year (M.civY n) ++ dash) ++ two (M.civM n)) ++ dash) ++ two (M.civD n)
theorem dec1 {u : Nat} (h : u < 10) : Lib.decDigits u = [UInt8.ofNat (48 + u)] := by rw [Lib.decDigits, dif_pos h]
theorem decS {u : Nat} (h : ¬ u < 10) : Lib.decDigits u = Lib.decDigits (u / 10) ++ [UInt8.ofNat (48 + u % 10)] := by rw [Lib.decDigits, dif_neg h]
theorem itoa_year {y : Int} (h0 : 1900 ≤ y) (h1 : y ≤ 2199) : (⟨(Lib.itoa y).toArray⟩ : ByteArray) = year y := by
 obtain ⟨u, rfl⟩ : ∃ u : Nat, y = u := ⟨y.toNat, by omega⟩
 have e : Lib.itoa (u : Int) = [dg ((u : Int) / 1000), dg ((u : Int) / 100 % 10), dg ((u : Int) / 10 % 10), dg ((u : Int) % 10)] := by
  unfold Lib.itoa
  rw [if_neg (by omega), Int.toNat_natCast, decS (by omega), decS (u := u / 10) (by omega), decS (u := u / 10 / 10) (by omega), dec1 (u := u / 10 / 10 / 10) (by omega)]
  have e1 : ((u : Int) / 1000).toNat = u / 10 / 10 / 10 := by omega
  have e2 : ((u : Int) / 100 % 10).toNat = u / 10 / 10 % 10 := by omega
  have e3 : ((u : Int) / 10 % 10).toNat = u / 10 % 10 := by omega
  have e4 : ((u : Int) % 10).toNat = u % 10 := by omega
  unfold dg
  rw [e1, e2, e3, e4]
  rfl
 rw [e]
 rfl
end Go.Proofs.YtoncignjcgjhhaaDoor.T
namespace Go.Proofs.YtoncignjcgjhhaaDoor.H
open Go.RowKit Go.Proofs.YtoncignjcgjhhaaDoorW.PrintWords Go.Proofs.YtoncignjcgjhhaaDoorW.PrintLast Go.Proofs.YtoncignjcgjhhaaDoorW.PrintMore
open Go.Proofs.YtoncignjcgjhhaaDoor.L (w64 td tm)
open Go.Proofs.YtoncignjcgjhhaaDoor.Q
theorem itoa_digit (x : Int) (h0 : 0 ≤ x) (h1 : x ≤ 9) (w : World) : Calls Tryd.prog 38 #[.int .i64 x] w fun e w' => e = .returned (.string ⟨#[T.dg x]⟩) ∧ w' = w := by
 obtain ⟨u, rfl⟩ : ∃ u : Nat, x = u := ⟨x.toNat, by omega⟩
 have h := Tryd.strconv_Itoa_small u (by omega) w
 rw [T.dec1 (by omega)] at h
 exact h
theorem itoa_yr (y : Int) (h0 : 1900 ≤ y) (h1 : y ≤ 2199) (w : World) (htab : Lib.TabIs Tryd.prog w "internal/strconv.uint64pow10" .u64 Lib.pow10Tab) :
  Calls Tryd.prog 38 #[.int .i64 y] w fun e w' => e = .returned (.string (T.year y)) ∧ Below w.heap.size w w' := by
 have h := Tryd.strconv_Itoa y (by omega) (by omega) w htab
 rw [T.itoa_year h0 h1] at h
 refine h.mono ?_
 rintro e w' ⟨rfl, k, os, rfl⟩
 exact ⟨rfl, Lib.below_grow _ _ (Nat.le_refl _) _ _⟩
set_option maxHeartbeats 1000000 in
set_option maxRecDepth 100000 in
theorem two_calls (x : Int) (h0 : 0 ≤ x) (h1 : x ≤ 99) (w : World) : Calls Tryd.prog 39 #[.int .i64 x] w fun e w' => e = .returned (.string (T.two x)) ∧ Drawn0 w w' := by
 have e1 : wrap64 (Int.tdiv x 10) = x / 10 := by rw [td h0, w64 (by omega) (by omega)]
 have e2 : Int.tmod x 10 = x % 10 := tm h0
 have a0 : 0 ≤ x / 10 ∧ x / 10 ≤ 9 := by omega
 have a1 : 0 ≤ x % 10 ∧ x % 10 ≤ 9 := by omega
 have H0 := Aside0.mk h0; have H1 := Aside0.mk h1; have A0 := Aside0.mk a0; have A1 := Aside0.mk a1
 clear h0 h1 a0 a1
 go_enter Tryd.func39, Tryd.ntmps39
 go_wp2_with (first | (go_at_call 38; refine (itoa_digit _ (by first | exact A0.out.1 | exact A1.out.1) (by first | exact A0.out.2 | exact A1.out.2) _).mono ?_; rintro e w' ⟨rfl, rfl⟩))
 go_ret
 exact ⟨rfl, by repeat (first | exact Drawn0.refl _ | apply Drawn0.step)⟩
theorem small3 {a : Nat} (h : a ≤ 9223372036854775807) : (a ≤ 9223372036854775807) = True ∧ decide (a ≤ 9223372036854775807) = true ∧ (9223372036854775807 < a) = False :=
  ⟨eq_true h, decide_eq_true h, eq_false (Nat.not_lt.2 h)⟩
theorem sz_year (y : Int) : (T.year y).size = 4 := rfl
theorem sz_two (y : Int) : (T.two y).size = 2 := rfl
set_option maxHeartbeats 2000000 in
set_option maxRecDepth 100000 in
theorem print_ok (n : Int) (hn : 0 ≤ n ∧ n ≤ 109572) (w : World) (ht : Lib.TabBelow Tryd.prog w.heap.size w "internal/strconv.uint64pow10" .u64 Lib.pow10Tab) :
  Calls Tryd.prog 17 #[.int .i64 n] w fun e w' => e = .returned (.tuple #[.string (T.textOf n), .int .i64 0]) ∧ Below w.heap.size w w' := by
 obtain ⟨k, hk⟩ := (L.civil n hn.1 hn.2).rounds
 have hd := (M.civ_spec n hn.1 hn.2).1
 have his : date_is.f n = some true := by rw [L.dis, decide_eq_true hn]
 have hl := M.mlen_rng (M.civY n) (M.civM n)
 unfold M.isDate at hd
 unfold T.textOf
 obtain ⟨Y, hY⟩ : ∃ Y, Y = M.civY n := ⟨_, rfl⟩
 obtain ⟨Mo, hMo⟩ : ∃ Y, Y = M.civM n := ⟨_, rfl⟩
 obtain ⟨D, hD⟩ : ∃ Y, Y = M.civD n := ⟨_, rfl⟩
 rw [← hY, ← hMo] at hl
 rw [← hY, ← hMo, ← hD] at hd hk ⊢
 have B := Aside0.mk (show (1900 ≤ Y ∧ Y ≤ 2199) ∧ (0 ≤ Mo ∧ Mo ≤ 99) ∧ (0 ≤ D ∧ D ≤ 99) by omega)
 have K := Aside0.mk hk;have I := Aside0.mk his;have HT := Aside0.mk ht
 have HB := Aside0.mk (Below.refl w.heap.size w)
 clear hd hk his ht hl hn hY hMo hD
 have y4 : (T.year Y).size = 4 := rfl
 have m2 : (T.two Mo).size = 2 := rfl
 have d2 : (T.two D).size = 2 := rfl
 obtain ⟨ys, hys⟩ : ∃ ys, ys = T.year Y := ⟨_, rfl⟩
 obtain ⟨ms, hms⟩ : ∃ ys, ys = T.two Mo := ⟨_, rfl⟩
 obtain ⟨dd, hdd⟩ : ∃ ys, ys = T.two D := ⟨_, rfl⟩
 rw [← hys] at y4 ⊢
 rw [← hms] at m2 ⊢
 rw [← hdd] at d2 ⊢
 unfold T.dash
 obtain ⟨a0, a1, a2⟩ := small3 (a := ys.size + 1) (by omega)
 obtain ⟨b0, b1, b2⟩ := small3 (a := ys.size + 1 + ms.size) (by omega)
 obtain ⟨c0, c1, c2⟩ := small3 (a := ys.size + 1 + ms.size + 1) (by omega)
 obtain ⟨e0, e1, e2⟩ := small3 (a := ys.size + 1 + ms.size + 1 + dd.size) (by omega)
 have S1 := Aside0.mk hys;have S2 := Aside0.mk hms;have S3 := Aside0.mk hdd;clear y4 m2 d2 hys hms hdd
 go_enter Tryd.func17, Tryd.ntmps17
 go_wp2_with (first | (go_at_call 36; (with_reducible refine (date_is.calls n true _ I.out).mono ?_); rintro e w' ⟨rfl, ⟨n_, rfl⟩⟩) | (go_at_call 37; (with_reducible refine (date_civil.calls k n Y Mo D _ K.out).mono ?_); rintro e w' ⟨rfl, ⟨n_, rfl⟩⟩) | (go_at_call 38; (with_reducible refine (itoa_yr Y B.out.1.1 B.out.1.2 _ ?tab).mono ?_); (case tab => exact HT.out _ (by repeat (first | (with_reducible first | exact HB.out | apply pw_below_drewN) | exact HB.out))); rw [← S1.out]; rintro e w1 ⟨rfl, hb⟩; have n0_ := Aside0.mk (below_step (by repeat (first | (with_reducible first | exact HB.out | apply pw_below_drewN) | exact HB.out)) hb); clear HB hb; have HB := n0_; clear n0_) | (go_at_call 39; (with_reducible refine (two_calls Mo B.out.2.1.1 B.out.2.1.2 _).mono ?_); rw [← S2.out]; rintro e w2 ⟨rfl, ⟨n_, rfl⟩⟩) | (go_at_call 39; (with_reducible refine (two_calls D B.out.2.2.1 B.out.2.2.2 _).mono ?_); rw [← S3.out]; rintro e w2 ⟨rfl, ⟨n_, rfl⟩⟩))
 go_ret2
 exact ⟨rfl, by repeat (first | exact HB.out | apply pw_below_drewN)⟩
theorem print_no (n : Int) (hn : ¬ (0 ≤ n ∧ n ≤ 109572)) (w : World) :
  Calls Tryd.prog 17 #[.int .i64 n] w fun e w' => e = .returned (.tuple #[.string ⟨#[]⟩, .int .i64 51]) ∧ Below w.heap.size w w' := by
 have I := Aside0.mk (show date_is.f n = some false by rw [L.dis, decide_eq_false hn])
 clear hn
 go_enter Tryd.func17, Tryd.ntmps17
 go_wp2_with (first | (go_at_call 36; (with_reducible refine (date_is.calls n false _ I.out).mono ?_); rintro e w' ⟨rfl, ⟨n_, rfl⟩⟩))
 go_ret2
 exact ⟨rfl, by repeat (first | exact Below.refl _ _ | apply pw_below_drewN)⟩
def printF (n : Int) : ByteArray × Int := if 0 ≤ n ∧ n ≤ 109572 then (T.textOf n, 0) else (⟨#[]⟩, 51)
theorem print_calls (n : Int) (w : World) (ht : Lib.TabBelow Tryd.prog w.heap.size w "internal/strconv.uint64pow10" .u64 Lib.pow10Tab) :
  Calls Tryd.prog 17 #[.int .i64 n] w fun e w' => e = .returned (.tuple #[.string (printF n).1, .int .i64 (printF n).2]) ∧ Below w.heap.size w w' := by
 unfold printF
 by_cases h : 0 ≤ n ∧ n ≤ 109572
 ·
  rw [if_pos h]; exact print_ok n h w ht
 ·
  rw [if_neg h]; exact print_no n h w
end Go.Proofs.YtoncignjcgjhhaaDoor.H
