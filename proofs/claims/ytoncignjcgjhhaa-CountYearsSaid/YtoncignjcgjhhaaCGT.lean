/- Contracts and facts of functions of the program (calendar, dates and their documents), joined in one text by a program of this session. No condition but what each theorem states. -/
import Derived.Test.YtoncignjcgjhhaaCGA
import Derived.Test.YtoncignjcgjhhaaCGM
import Derived.Test.YtoncignjcgjhhaaCGS
import Derived.Test.YtoncignjcgjhhaaCGL
set_option linter.unusedVariables false
set_option linter.unusedSimpArgs false
namespace Go.Proofs.Ytoncignjcgjhhaa.Q
open Go.RowKit Go.Proofs.YtoncignjcgjhhaaW.PrintWords Go.Proofs.YtoncignjcgjhhaaW.PrintLast Go.Proofs.YtoncignjcgjhhaaW.PrintMore
attribute [local go_sem] xcC xcB xcR xcQ xbX xbW xcF xcE   -- for this text's walks alone
def xcN.f (k : Nat) (a0 : Int) : Option (List Int) := (xbQ.f k (([Int.tmod a0 4294967296, IntKind.u64.wrap (Int.tdiv a0 4294967296)] : List Int))).bind fun t443 => (some t443)
set_option maxHeartbeats 8000000 in
set_option maxRecDepth 100000 in
theorem xcN.calls (k : Nat) (a0 : Int) (r : List Int) (w : World) (h : xcN.f k a0 = some r) :
  Calls Try.prog 104 #[.int .u64 a0] w fun e w' => ∃ v0_ : Value, e = .returned (v0_) ∧ Kd.R (Kd.int .u64) 38 w' w.heap.size (fun _ => True) v0_ r ∧ Below w.heap.size w w' := by
 have HB := Aside0.mk (Below.refl w.heap.size w)
 have H : ((xbQ.f k (([Int.tmod a0 4294967296, IntKind.u64.wrap (Int.tdiv a0 4294967296)] : List Int))).bind fun t443 => (some t443)) = some r := h
 clear h
 obtain ⟨y440, hy440⟩ : ∃ y_ : List Int, y_ = (([Int.tmod a0 4294967296, IntKind.u64.wrap (Int.tdiv a0 4294967296)] : List Int)) := ⟨_, rfl⟩
 replace H : ((xbQ.f k y440).bind fun t443 => (some t443)) = some r := by first | (rw [hy440]; with_reducible exact H) | (have H2_ := (Option.bind_some _ _).symm.trans H; rw [hy440]; with_reducible exact H2_) | (have H2_ := (Option.bind_some _ _).symm.trans H; with_reducible exact H2_) | with_reducible exact H | (rw [hy440]; exact H) | exact H
 have Ny440 := Aside0.mk hy440;clear hy440;replace H := Option.bind_eq_some_iff.mp H
 obtain ⟨t443, A20, H⟩ := H
 replace H : (some t443) = some r := H
 have A2 := Aside0.mk A20;clear A20
 obtain rfl := Option.some.inj H
 go_enter Try.func104, Try.ntmps104
 go_wp2_with (first | ((with_reducible refine xbM (N := 7) rfl ?_); refine Kd.R_lit (Kd.int .u64) _ 38 ?hg (N := 7) ?hd (xs := ([Int.tmod a0 4294967296, IntKind.u64.wrap (Int.tdiv a0 4294967296)] : List Int)) (inner := [.int .u64 (Int.tmod a0 4294967296), .int .u64 (IntKind.u64.wrap (Int.tdiv a0 4294967296))]) (ok := fun _ => True) (okp := fun _ => True) ?hr ?hp (fun _ hk => hk) trivial (Below.refl _ _) (Nat.le_refl _) (by simp) ?_; (case hd => rfl); (case hg => rfl); (case hr => first | (go_simp; done) | (go_simp; rfl)); (case hp => exact (Reps.one (show Kd.M (Kd.int .u64) _ _ _ (Int.tmod a0 4294967296) [.int .u64 (Int.tmod a0 4294967296)] from rfl) (Reps.one (show Kd.M (Kd.int .u64) _ _ _ (IntKind.u64.wrap (Int.tdiv a0 4294967296)) [.int .u64 (IntKind.u64.wrap (Int.tdiv a0 4294967296))] from rfl) (Reps.none _ _)))); intro v441 w3 ho4 hb hg_ hnew_; clear hg_ hnew_; (first | rw [← Ny440.out] at ho4 | (simp only [Int.reduceToNat] at ho4; rw [← Ny440.out] at ho4)); have n0_ := Aside0.mk (Kd.xdR ho4 (xaR (by repeat (first | (with_reducible first | exact HB.out | apply xaB | apply xaA | apply xaC) | exact HB.out)))); have n1_ := Aside0.mk (xaP (by repeat (first | (with_reducible first | exact HB.out | apply xaB | apply xaA | apply xaC) | exact HB.out)) hb); clear HB; have HO442 := n0_; have HB := n1_; clear n0_ n1_; clear hb ho4; obtain ⟨Ao5, co5, eo5⟩ := Kd.xcY HO442.out; subst eo5) | ((with_reducible refine xaQ (f := 128) rfl ?_); refine goesL_ (some 8) rfl rfl Try.func128 (by kernel_rfl) rfl #[.slice Ao5 y440.length co5] rfl (by (try simp only [List.map_toArray, List.map_cons, List.map_nil]); first | done | rfl | (simp only [List.length_drop, List.length_take]; rfl)) ?_; (with_reducible refine (xbQ.calls k (fun k_ => some k_ = (.slice Ao5 y440.length co5 : Value).ownBlock) (.slice Ao5 y440.length co5) y440 t443 w _ ?side1 ?side2 A2.out).mono ?_); (case side1 => repeat (first | (with_reducible first | exact HB.out | apply xaB | apply xaA | apply xaC) | exact HB.out)); (case side2 => exact Kd.xgN rfl HO442.out); rintro e w6 ⟨v444, rfl, ho0, hb, hkp⟩; refine ⟨_, rfl, ?_⟩; have n0_ := Aside0.mk (Kd.R_mono (ok' := fun k_ => True) ho0 (fun k_ hk_ => trivial)); have n1_ := Aside0.mk (hb); clear HB; clear HO442; have HO445 := n0_; have HB := n1_; clear n0_ n1_; (try clear hb); (try clear hkp); (try clear ho0)))
 go_ret
 exact ⟨_, by first | rfl | (simp [xaL, xaK] <;> rfl) | (simp [*, xaL, xaK] <;> rfl), by (with_reducible repeat (first | apply Kd.xbZ | apply Kd.xbY | apply Kd.R_drew)); exact HO445.out, by repeat (first | (with_reducible first | exact HB.out | apply xaB | apply xaA | apply xaC) | exact HB.out)⟩
def xcD.f (k : Nat) (a0 : Int) : Option (Bool × List Int × Int) := if a0 < 0 then ((xcN.f k (IntKind.u64.wrap ((IntKind.u64.wrap (wrap64 (-(wrap64 (a0 + 1))))) + 1))).bind fun t447 => (some (true, t447, 0))) else ((xcN.f k (IntKind.u64.wrap (a0))).bind fun t450 => (some (false, t450, 0)))
set_option maxHeartbeats 8000000 in
set_option maxRecDepth 100000 in
theorem xcD.calls (k : Nat) (a0 : Int) (r1 : Bool) (r2 : List Int) (r3 : Int) (w : World) (h : xcD.f k a0 = some (r1, r2, r3)) :
  Calls Try.prog 67 #[.int .i64 a0] w fun e w' => ∃ v1_ : Value, e = .returned (.agg #[.bool r1, v1_, .int .i64 r3]) ∧ Kd.R (Kd.int .u64) 38 w' w.heap.size (fun _ => True) v1_ r2 ∧ Below w.heap.size w w' := by
 have hu96 := Try.underlying96
 have HB := Aside0.mk (Below.refl w.heap.size w)
 have H : (if a0 < 0 then ((xcN.f k (IntKind.u64.wrap ((IntKind.u64.wrap (wrap64 (-(wrap64 (a0 + 1))))) + 1))).bind fun t447 => (some (true, t447, 0))) else ((xcN.f k (IntKind.u64.wrap (a0))).bind fun t450 => (some (false, t450, 0)))) = some (r1, r2, r3) := h
 clear h
 by_cases c2 : a0 < 0
 ·
  rw [if_pos c2] at H
  have c2b0 : decide (a0 < 0) = true := decide_eq_true c2
  clear c2;replace H := Option.bind_eq_some_iff.mp H
  obtain ⟨t447, A30, H⟩ := H
  replace H : (some (true, t447, 0)) = some (r1, r2, r3) := H
  have A3 := Aside0.mk A30;clear A30
  simp only [Option.some.injEq, Prod.mk.injEq] at H
  obtain ⟨rfl, rfl, rfl⟩ := H
  go_enter Try.func67, Try.ntmps67
  go_wp2_with (first | ((with_reducible refine xbM (N := 2) rfl ?_); refine xbJ ?hg (N := 2) ?hd (cs := #[.bool false, .slice none 0 0, .int .i64 0]) (t := 96) ?hr ?_; (case hd => rfl); (case hg => rfl); (case hr => first | (go_simp; done) | (go_simp; rfl)); intro gb446 hg w4 hbox hb; have n0_ := Aside0.mk (xaP (by repeat (first | (with_reducible first | exact HB.out | apply xaB | apply xaA | apply xaC) | exact HB.out)) hb); have n1_ := Aside0.mk (hbox); have n2_ := Aside0.mk ((by rw [hg]; exact (xaR (by repeat (first | (with_reducible first | exact HB.out | apply xaB | apply xaA | apply xaC) | exact HB.out))) : w.heap.size ≤ gb446)); have n3_ := Aside0.mk ((by rw [hg]; exact (xaR (by repeat (first | (with_reducible first | exact HB.out | apply xaB | apply xaA | apply xaC) | exact HB.out))) : w.heap.size ≤ gb446)); clear HB; have HB := n0_; have BK446 := n1_; have GW446 := n2_; have GE446 := n3_; clear n0_ n1_ n2_ n3_; clear hb hbox hg) | ((with_reducible refine xaQ (f := 104) rfl ?_); refine goesL_ (some 10) rfl rfl Try.func104 (by kernel_rfl) rfl #[.int .u64 (IntKind.u64.wrap ((IntKind.u64.wrap (wrap64 (-(wrap64 (a0 + 1))))) + 1))] rfl (by (try simp only [List.map_toArray, List.map_cons, List.map_nil]); first | done | rfl | (simp only [List.length_drop, List.length_take]; rfl)) ?_; (with_reducible refine (xcN.calls k (IntKind.u64.wrap ((IntKind.u64.wrap (wrap64 (-(wrap64 (a0 + 1))))) + 1)) t447 _ A3.out).mono ?_); rintro e w5 ⟨v448, rfl, ho0, hb⟩; refine ⟨_, rfl, ?_⟩; have n0_ := Aside0.mk (Kd.xdR ho0 (xaR (by repeat (first | (with_reducible first | exact HB.out | apply xaB | apply xaA | apply xaC | refine xaF ?_ GE446.out) | exact HB.out)))); have n1_ := Aside0.mk (xaY (g := gb446) (o := .cells #[.bool false, .slice none 0 0, .int .i64 0] 96 (0, 0)) (by (with_reducible repeat (first | refine xaG ?_ _ | refine xaJ ?_ | refine xaH ?_ _)); exact BK446.out) hb); have n2_ := Aside0.mk (xaP (by repeat (first | (with_reducible first | exact HB.out | apply xaB | apply xaA | apply xaC | refine xaF ?_ GE446.out) | exact HB.out)) hb); clear BK446; clear HB; have HO449 := n0_; have BK446 := n1_; have HB := n2_; clear n0_ n1_ n2_; (try clear hb); (try clear hb2); (try clear hk); (try clear hi); (try clear ho0); obtain ⟨Ao6, co6, eo6⟩ := Kd.xcY HO449.out; subst eo6; have hcz7_0 : w5.cell? ⟨gb446, 0, none⟩ = some (.bool false) := (xaE BK446.out 0).trans rfl; have hcz7_1 : w5.cell? ⟨gb446, 1, none⟩ = some (.slice none 0 0) := (xaE BK446.out 1).trans rfl; have hcz7_2 : w5.cell? ⟨gb446, 2, none⟩ = some (.int .i64 0) := (xaE BK446.out 2).trans rfl; have hfz7_0 := xaD BK446.out 0; have hfz7_1 := xaD BK446.out 1; have hfz7_2 := xaD BK446.out 2))
  refine bodyPost_ret (results_cell_row rfl _ _ gb446 96 #[.bool true, .slice Ao6 t447.length co6, .int .i64 0] (0, 0) _ rfl (by (with_reducible repeat (first | refine xaG ?_ _ | refine xaJ ?_ | refine xaH ?_ _)); refine xcH (cs := #[.bool true, .slice Ao6 t447.length co6, .int .i64 0]) ?_ 2 _ rfl; (with_reducible repeat (first | refine xaG ?_ _ | refine xaJ ?_ | refine xaH ?_ _)); refine xcH (cs := #[.bool true, .slice none 0 0, .int .i64 0]) ?_ 1 _ rfl; (with_reducible repeat (first | refine xaG ?_ _ | refine xaJ ?_ | refine xaH ?_ _)); refine xcH (cs := #[.bool false, .slice none 0 0, .int .i64 0]) ?_ 0 _ rfl; (with_reducible repeat (first | refine xaG ?_ _ | refine xaJ ?_ | refine xaH ?_ _)); exact BK446.out) Try.underlying96 rfl (by kernel_rfl)) rfl ?_
  exact ⟨_, by first | rfl | (simp [xaL, xaK] <;> rfl) | (simp [*, xaL, xaK] <;> rfl), by (with_reducible repeat (first | apply Kd.xbZ | apply Kd.xbY | apply Kd.R_drew)); exact Kd.R_mono (Kd.R_far (p := ⟨gb446, 2, none⟩) (Kd.R_far (p := ⟨gb446, 1, none⟩) (Kd.R_far (p := ⟨gb446, 0, none⟩) (Kd.R_types HO449.out BK446.out (by decide)) (fun _ hk => hk.2) (.bool true)) (fun _ hk => hk.2) (.slice Ao6 t447.length co6)) (fun _ hk => hk.2) (.int .i64 0)) (fun _ hk => trivial), by repeat (first | (with_reducible first | exact HB.out | apply xaB | apply xaA | apply xaC | refine xaF ?_ GE446.out) | exact HB.out)⟩
 ·
  rw [if_neg c2] at H
  have c2b0 : decide (a0 < 0) = false := decide_eq_false c2
  clear c2;replace H := Option.bind_eq_some_iff.mp H
  obtain ⟨t450, A80, H⟩ := H
  replace H : (some (false, t450, 0)) = some (r1, r2, r3) := H
  have A8 := Aside0.mk A80;clear A80
  simp only [Option.some.injEq, Prod.mk.injEq] at H
  obtain ⟨rfl, rfl, rfl⟩ := H
  go_enter Try.func67, Try.ntmps67
  go_wp2_with (first | ((with_reducible refine xbM (N := 2) rfl ?_); refine xbJ ?hg (N := 2) ?hd (cs := #[.bool false, .slice none 0 0, .int .i64 0]) (t := 96) ?hr ?_; (case hd => rfl); (case hg => rfl); (case hr => first | (go_simp; done) | (go_simp; rfl)); intro gb446 hg w9 hbox hb; have n0_ := Aside0.mk (xaP (by repeat (first | (with_reducible first | exact HB.out | apply xaB | apply xaA | apply xaC) | exact HB.out)) hb); have n1_ := Aside0.mk (hbox); have n2_ := Aside0.mk ((by rw [hg]; exact (xaR (by repeat (first | (with_reducible first | exact HB.out | apply xaB | apply xaA | apply xaC) | exact HB.out))) : w.heap.size ≤ gb446)); have n3_ := Aside0.mk ((by rw [hg]; exact (xaR (by repeat (first | (with_reducible first | exact HB.out | apply xaB | apply xaA | apply xaC) | exact HB.out))) : w.heap.size ≤ gb446)); clear HB; have HB := n0_; have BK446 := n1_; have GW446 := n2_; have GE446 := n3_; clear n0_ n1_ n2_ n3_; clear hb hbox hg) | ((with_reducible refine xaQ (f := 104) rfl ?_); refine goesL_ (some 14) rfl rfl Try.func104 (by kernel_rfl) rfl #[.int .u64 (IntKind.u64.wrap (a0))] rfl (by (try simp only [List.map_toArray, List.map_cons, List.map_nil]); first | done | rfl | (simp only [List.length_drop, List.length_take]; rfl)) ?_; (with_reducible refine (xcN.calls k (IntKind.u64.wrap (a0)) t450 _ A8.out).mono ?_); rintro e w10 ⟨v451, rfl, ho0, hb⟩; refine ⟨_, rfl, ?_⟩; have n0_ := Aside0.mk (Kd.xdR ho0 (xaR (by repeat (first | (with_reducible first | exact HB.out | apply xaB | apply xaA | apply xaC | refine xaF ?_ GE446.out) | exact HB.out)))); have n1_ := Aside0.mk (xaY (g := gb446) (o := .cells #[.bool false, .slice none 0 0, .int .i64 0] 96 (0, 0)) (by (with_reducible repeat (first | refine xaG ?_ _ | refine xaJ ?_ | refine xaH ?_ _)); exact BK446.out) hb); have n2_ := Aside0.mk (xaP (by repeat (first | (with_reducible first | exact HB.out | apply xaB | apply xaA | apply xaC | refine xaF ?_ GE446.out) | exact HB.out)) hb); clear BK446; clear HB; have HO452 := n0_; have BK446 := n1_; have HB := n2_; clear n0_ n1_ n2_; (try clear hb); (try clear hb2); (try clear hk); (try clear hi); (try clear ho0); obtain ⟨Ao11, co11, eo11⟩ := Kd.xcY HO452.out; subst eo11; have hcz12_0 : w10.cell? ⟨gb446, 0, none⟩ = some (.bool false) := (xaE BK446.out 0).trans rfl; have hcz12_1 : w10.cell? ⟨gb446, 1, none⟩ = some (.slice none 0 0) := (xaE BK446.out 1).trans rfl; have hcz12_2 : w10.cell? ⟨gb446, 2, none⟩ = some (.int .i64 0) := (xaE BK446.out 2).trans rfl; have hfz12_0 := xaD BK446.out 0; have hfz12_1 := xaD BK446.out 1; have hfz12_2 := xaD BK446.out 2))
  refine bodyPost_ret (results_cell_row rfl _ _ gb446 96 #[.bool false, .slice Ao11 t450.length co11, .int .i64 0] (0, 0) _ rfl (by (with_reducible repeat (first | refine xaG ?_ _ | refine xaJ ?_ | refine xaH ?_ _)); refine xcH (cs := #[.bool false, .slice Ao11 t450.length co11, .int .i64 0]) ?_ 2 _ rfl; (with_reducible repeat (first | refine xaG ?_ _ | refine xaJ ?_ | refine xaH ?_ _)); refine xcH (cs := #[.bool false, .slice none 0 0, .int .i64 0]) ?_ 1 _ rfl; (with_reducible repeat (first | refine xaG ?_ _ | refine xaJ ?_ | refine xaH ?_ _)); refine xcH (cs := #[.bool false, .slice none 0 0, .int .i64 0]) ?_ 0 _ rfl; (with_reducible repeat (first | refine xaG ?_ _ | refine xaJ ?_ | refine xaH ?_ _)); exact BK446.out) Try.underlying96 rfl (by kernel_rfl)) rfl ?_
  exact ⟨_, by first | rfl | (simp [xaL, xaK] <;> rfl) | (simp [*, xaL, xaK] <;> rfl), by (with_reducible repeat (first | apply Kd.xbZ | apply Kd.xbY | apply Kd.R_drew)); exact Kd.R_mono (Kd.R_far (p := ⟨gb446, 2, none⟩) (Kd.R_far (p := ⟨gb446, 1, none⟩) (Kd.R_far (p := ⟨gb446, 0, none⟩) (Kd.R_types HO452.out BK446.out (by decide)) (fun _ hk => hk.2) (.bool false)) (fun _ hk => hk.2) (.slice Ao11 t450.length co11)) (fun _ hk => hk.2) (.int .i64 0)) (fun _ hk => trivial), by repeat (first | (with_reducible first | exact HB.out | apply xaB | apply xaA | apply xaC | refine xaF ?_ GE446.out) | exact HB.out)⟩
end Go.Proofs.Ytoncignjcgjhhaa.Q
namespace Go.Proofs.Ytoncignjcgjhhaa.DG
open Go.RowKit Go.Proofs.YtoncignjcgjhhaaW.PrintWords Go.Proofs.YtoncignjcgjhhaaW.PrintLast Go.Proofs.YtoncignjcgjhhaaW.PrintMore
open Go.Proofs.Ytoncignjcgjhhaa.Q
theorem Down_val {x y s : Nat} (hs : s ≤ 31) (hx : x < 4294967296) (hy : y < 4294967296) :
  Int.tmod (shr .u64 (IntKind.u64.wrap ((x : Int) + IntKind.u64.wrap ((y : Int) * 4294967296))) (s : Int)) 4294967296 = (((x + y * 4294967296) / 2 ^ s % 4294967296 : Nat) : Int) := by
 have e : IntKind.u64.wrap ((x : Int) + IntKind.u64.wrap ((y : Int) * 4294967296)) = ((x + y * 4294967296 : Nat) : Int) := by
  rw [u64 (x := (y : Int) * 4294967296) (by omega) (by omega), u64 (by omega) (by omega)]
  omega
 rw [e, shr_nat _ _ (by omega), tm (Int.natCast_nonneg _)]
 rfl
theorem Down_l1 {t s : Nat} (hs : s ≤ 31) (ht : t < 79228162514264337593543950336) (b : Bool) : Ev (fun k => xaN.l1 k (d3 t) s b [0, 0, 0] 0) (tr (d3 (t / 2 ^ s)), b) := by
 have f0 : wrap64 (Int.tdiv (s : Int) 32) = 0 := by rw [td (by omega), w64 (by omega) (by omega)]; omega
 have fm : Int.tmod (s : Int) 32 = (s : Int) := by rw [tm (by omega)]; omega
 have gs : (0 : Int) ≤ (s : Int) := Int.natCast_nonneg _
 have hT := trim (d3 (t / 2 ^ s)) (by show 3 ≤ 100; decide)
 have v0 : (t % 4294967296 + t / 4294967296 % 4294967296 * 4294967296) / 2 ^ s % 4294967296 = t / 2 ^ s % 4294967296 := by
  rw [show t % 4294967296 + t / 4294967296 % 4294967296 * 4294967296 = t % 18446744073709551616 by omega]; exact mod_pow64 t s (by omega)
 have v1 : (t / 4294967296 % 4294967296 + t / 18446744073709551616 % 4294967296 * 4294967296) / 2 ^ s % 4294967296 = t / 2 ^ s / 4294967296 % 4294967296 := by
  rw [show t / 4294967296 % 4294967296 + t / 18446744073709551616 % 4294967296 * 4294967296 = t / 4294967296 % 18446744073709551616 by omega, mod_pow64 _ s (by omega), Nat.div_div_eq_div_mul, Nat.div_div_eq_div_mul, Nat.mul_comm]
 have v2 : (t / 18446744073709551616 % 4294967296 + 0 * 4294967296) / 2 ^ s % 4294967296 = t / 2 ^ s / 18446744073709551616 % 4294967296 := by
  rw [show t / 18446744073709551616 % 4294967296 + 0 * 4294967296 = t / 18446744073709551616 by omega, Nat.div_div_eq_div_mul, Nat.div_div_eq_div_mul, Nat.mul_comm]
 have d1 : xaM.f (d3 t) 1 = some ((t / 4294967296 % 4294967296 : Nat) : Int) := by rw [show (1 : Int) = ((1 : Nat) : Int) from rfl, digit]; rfl
 have d2 : xaM.f (d3 t) 2 = some ((t / 18446744073709551616 % 4294967296 : Nat) : Int) := by rw [show (2 : Int) = ((2 : Nat) : Int) from rfl, digit]; rfl
 have d3' : xaM.f (d3 t) 3 = some (((0 : Nat) : Int)) := by rw [show (3 : Int) = ((3 : Nat) : Int) from rfl, digit]; rfl
 have w0 := Down_val (x := t % 4294967296) (y := t / 4294967296 % 4294967296) hs (by omega) (by omega)
 have w1 := Down_val (x := t / 4294967296 % 4294967296) (y := t / 18446744073709551616 % 4294967296) hs (by omega) (by omega)
 have w2 := Down_val (x := t / 18446744073709551616 % 4294967296) (y := 0) hs (by omega) (by omega)
 rw [v0] at w0
 rw [v1] at w1
 rw [v2] at w2
 obtain ⟨a, ha⟩ : ∃ a, a = t / 2 ^ s := ⟨_, rfl⟩
 rw [← ha] at w0 w1 w2 hT ⊢
 have l3 : Ev (fun k => xaN.l1 k (d3 t) s b (d3 a) 3) (tr (d3 a), b) := by
  refine Ev.step (fun k => ?_) (Ev.bind (f := fun _ x => some (x, b)) hT (Ev.now _))
  rw [xaN.l1, if_neg (by show ¬ (3 : Int) < 3; decide)]
 have l2 : Ev (fun k => xaN.l1 k (d3 t) s b [((a % 4294967296 : Nat) : Int), ((a / 4294967296 % 4294967296 : Nat) : Int), 0] 2) (tr (d3 a), b) := by
  refine Ev.step (fun k => ?_) l3
  rw [xaN.l1, if_pos (by show (2 : Int) < 3; decide), f0, show wrap64 ((2 : Int) + 0) = 2 by decide +kernel, if_pos (by decide), d3_len, if_pos (by decide), show wrap64 ((2 : Int) + 1) = 3 by decide +kernel, d3', Option.bind_some, fm, if_pos gs, if_pos (by decide),
   show rd (d3 t) 2 = ((t / 18446744073709551616 % 4294967296 : Nat) : Int) from rfl, w2]
  rfl
 have l1 : Ev (fun k => xaN.l1 k (d3 t) s b [((a % 4294967296 : Nat) : Int), 0, 0] 1) (tr (d3 a), b) := by
  refine Ev.step (fun k => ?_) l2
  rw [xaN.l1, if_pos (by show (1 : Int) < 3; decide), f0, show wrap64 ((1 : Int) + 0) = 1 by decide +kernel, if_pos (by decide), d3_len, if_pos (by decide), show wrap64 ((1 : Int) + 1) = 2 by decide +kernel, d2, Option.bind_some, fm, if_pos gs, if_pos (by decide),
   show rd (d3 t) 1 = ((t / 4294967296 % 4294967296 : Nat) : Int) from rfl, w1]
  rfl
 refine Ev.step (fun k => ?_) l1
 rw [xaN.l1, if_pos (by show (0 : Int) < 3; decide), f0, show wrap64 ((0 : Int) + 0) = 0 by decide +kernel, if_pos (by decide), d3_len, if_pos (by decide), show wrap64 ((0 : Int) + 1) = 1 by decide +kernel, d1, Option.bind_some, fm, if_pos gs, if_pos (by decide),
  show rd (d3 t) 0 = ((t % 4294967296 : Nat) : Int) from rfl, w0]
 rfl
theorem ShiftDown {t s : Nat} (hs : s ≤ 31) (ht : t < 79228162514264337593543950336) : Ev (fun k => xaN.f k (d3 t) s) (tr (d3 (t / 2 ^ s)), decide (t % 2 ^ s ≠ 0)) := by
 have f0 : wrap64 (Int.tdiv (s : Int) 32) = 0 := by rw [td (by omega), w64 (by omega) (by omega)]; omega
 have fm : Int.tmod (s : Int) 32 = (s : Int) := by rw [tm (by omega)]; omega
 have gs : (0 : Int) ≤ (s : Int) := Int.natCast_nonneg _
 obtain ⟨hsl, _⟩ := shl_nat (x := 1) (s := s) (by decide) hs
 rw [show (((1 : Nat) : Int)) = 1 from rfl, Nat.one_mul] at hsl
 have hp := (pow_s hs).1
 have hl := Down_l1 hs ht (decide (t % 2 ^ s ≠ 0))
 have hne : ¬ ((2 ^ s : Nat) : Int) = 0 := by omega
 have hlt : (s : Int) < 96 := by omega
 have hb : ((Int.tmod ((t % 4294967296 : Nat) : Int) ((2 ^ s : Nat) : Int)) != 0) = decide (t % 2 ^ s ≠ 0) := by
  have h1 : t % 4294967296 % 2 ^ s = t % 2 ^ s := Nat.mod_mod_of_dvd _ (by rw [show (4294967296 : Nat) = 2 ^ 32 by decide]; exact Nat.pow_dvd_pow 2 (by omega))
  rw [tm (Int.natCast_nonneg _), ← Int.natCast_emod, h1]
  by_cases h0 : t % 2 ^ s = 0
  ·
   rw [h0]; rfl
  ·
   rw [decide_eq_true h0, bne_iff_ne]; omega
 have j1 : Ev (fun k => xaN.j1 k (d3 t) s (decide (t % 2 ^ s ≠ 0))) (tr (d3 (t / 2 ^ s)), decide (t % 2 ^ s ≠ 0)) := by
  refine Ev.step (fun k => ?_) hl
  rw [xaN.j1, d3_len, f0, show wrap64 ((3 : Int) - 0) = 3 by decide +kernel, if_pos (by decide), if_pos (by decide)]
  rfl
 have l0 : Ev (fun k => xaN.l0 k (d3 t) s false 0) (tr (d3 (t / 2 ^ s)), decide (t % 2 ^ s ≠ 0)) := by
  refine Ev.step (fun k => ?_) j1
  rw [xaN.l0, f0, if_neg (by decide), if_neg (by decide), if_pos (by decide), d3_len, if_pos (by decide), fm, if_pos gs, hsl, if_neg hne, show rd (d3 t) 0 = ((t % 4294967296 : Nat) : Int) from rfl, hb]
 refine Ev.congr (fun k => ?_) l0
 unfold xaN.f
 rw [d3_len, show wrap64 ((32 : Int) * 3) = 96 by decide +kernel, if_neg (by omega)]
theorem tr_digit (V : Nat) : xaM.f (tr (d3 V)) 0 = some ((V % 4294967296 : Nat) : Int) ∧ xaM.f (tr (d3 V)) 1 = some ((V / 4294967296 % 4294967296 : Nat) : Int) := by
 constructor
 ·
  rw [show (0 : Int) = ((0 : Nat) : Int) from rfl, digit, tr_getD]; rfl
 ·
  rw [show (1 : Int) = ((1 : Nat) : Int) from rfl, digit, tr_getD]; rfl
end Go.Proofs.Ytoncignjcgjhhaa.DG
namespace Go.Proofs.Ytoncignjcgjhhaa.DG
open Go.RowKit Go.Proofs.YtoncignjcgjhhaaW.PrintWords Go.Proofs.YtoncignjcgjhhaaW.PrintLast Go.Proofs.YtoncignjcgjhhaaW.PrintMore
open Go.Proofs.Ytoncignjcgjhhaa.Q
open Go.Proofs.Ytoncignjcgjhhaa.FQ (cutUp rung up Fit xhV log_eq)
theorem bits_eq {c k : Nat} (h0 : 2 ^ k ≤ c) (h1 : c < 2 ^ (k + 1)) : bits c = k + 1 := by
 have : c ≠ 0 := by have := Nat.two_pow_pos k; omega
 unfold bits
 rw [if_neg this, log_eq h0 h1]
structure Wide (t s : Nat) : Prop where
  h : (s = 17 ∧ 590295810358705651712 ≤ t ∧ t < 1180591620717411303424) ∨ (s = 18 ∧ 1180591620717411303424 ≤ t ∧ t < 2361183241434822606848)
theorem Len_t {t s : Nat} (h : Wide t s) : Ev (fun k => xbC.f k (d3 t)) ((s : Int) + 53) := by
 have hl := Len_3 ((t % 4294967296 : Nat) : Int) ((t / 4294967296 % 4294967296 : Nat) : Int) (c := t / 18446744073709551616 % 4294967296) (by omega)
 rcases h.h with ⟨rfl, h1, h2⟩ | ⟨rfl, h1, h2⟩
 ·
  have e := bits_eq (c := t / 18446744073709551616 % 4294967296) (k := 5) (by omega) (by omega)
  rw [e] at hl
  exact hl
 ·
  have e := bits_eq (c := t / 18446744073709551616 % 4294967296) (k := 6) (by omega) (by omega)
  rw [e] at hl
  exact hl
theorem wide_lt {t s : Nat} (h : Wide t s) : t < 79228162514264337593543950336 ∧ 17 ≤ s ∧ s ≤ 18 ∧ t / 2 ^ s < 9007199254740992 ∧ 18446744073709551616 ≤ t := by
 rcases h.h with ⟨rfl, h1, h2⟩ | ⟨rfl, h1, h2⟩
 ·
  refine ⟨by omega, by omega, by omega, ?_, by omega⟩
  rw [show (2 : Nat) ^ 17 = 131072 by decide]; omega
 ·
  refine ⟨by omega, by omega, by omega, ?_, by omega⟩
  rw [show (2 : Nat) ^ 18 = 262144 by decide]; omega
theorem low_two {V : Nat} (h : V < 18446744073709551616) : IntKind.u64.wrap (((V % 4294967296 : Nat) : Int) + IntKind.u64.wrap (((V / 4294967296 % 4294967296 : Nat) : Int) * 4294967296)) = (V : Int) := by
  rw [u64 (x := ((V / 4294967296 % 4294967296 : Nat) : Int) * 4294967296) (by omega) (by omega), u64 (by omega) (by omega)]; omega
theorem head_at {m v : Nat} (hm : m ≤ 2000) (hv : v ≤ 9007199254740992) : IntKind.u64.wrap (shl .u64 (IntKind.u64.wrap (m : Int)) 52 + (v : Int)) = ((m * 4503599627370496 + v : Nat) : Int) := by
 have e : shl .u64 (IntKind.u64.wrap (m : Int)) 52 = ((m * 4503599627370496 : Nat) : Int) := by
  rw [u64 (by omega) (by omega)]
  unfold shl
  rw [show min (52 : Int).toNat (IntKind.bits .u64) = 52 from rfl, show (2 : Int) ^ 52 = 4503599627370496 by decide, u64 (by omega) (by omega)]
  omega
 rw [e, u64 (by omega) (by omega)]
 omega
theorem plus_one {v : Nat} (hv : v ≤ 9007199254740992) : IntKind.u64.wrap ((v : Int) + 1) = ((v + 1 : Nat) : Int) := by rw [u64 (by omega) (by omega)]; omega
theorem Rounded {t s n : Nat} (more : Bool) (h : Wide t s) (hn : n ≤ 1000) : Ev (fun k => xcZ.f k (d3 t) (-(n : Int)) more 53 (-1074)) (((s + 1074 - n) * 4503599627370496 + cutUp t more s : Nat) : Int) := by
 obtain ⟨ht, hs1, hs2, hq, _⟩ := wide_lt h
 have e1 : wrap64 (wrap64 ((s : Int) + 53 - 53) + -(n : Int)) = (s : Int) - n := by rw [w64 (x := (s : Int) + 53 - 53) (by omega) (by omega), w64 (by omega) (by omega)]; omega
 have e2 : mx ((s : Int) - n) (-1074) = (s : Int) - n := by unfold mx; rw [if_neg (by omega)]
 have e3 : wrap64 ((s : Int) - n - -(n : Int)) = (s : Int) := by rw [w64 (by omega) (by omega)]; omega
 have e4 : wrap64 ((s : Int) - 1) = ((s - 1 : Nat) : Int) := by rw [w64 (by omega) (by omega)]; omega
 have e5 : wrap64 ((s : Int) - n - -1074) = ((s + 1074 - n : Nat) : Int) := by rw [w64 (by omega) (by omega)]; omega
 have g1 : ¬ ((s : Int) - n ≤ -(n : Int)) := by omega
 have hm : s + 1074 - n ≤ 2000 := by omega
 have hS := ShiftDown (t := t) (s := s) (by omega) ht
 have hH := ShiftDown (t := t) (s := s - 1) (by omega) ht
 have lt := low_two (V := t / 2 ^ s) (by omega)
 have p1 := head_at (m := s + 1074 - n) (v := t / 2 ^ s) hm (by omega)
 have p2 := head_at (m := s + 1074 - n) (v := t / 2 ^ s + 1) hm (by omega)
 have e6 : IntKind.u64.wrap (((t / 2 ^ s : Nat) : Int) + 1) = ((t / 2 ^ s + 1 : Nat) : Int) := plus_one (by omega)
 have b1 : Int.tmod ((t / 2 ^ (s - 1) % 4294967296 : Nat) : Int) 2 = ((t / 2 ^ (s - 1) % 2 : Nat) : Int) := by rw [tm (Int.natCast_nonneg _)]; omega
 have b2 : Int.tmod ((t / 2 ^ s : Nat) : Int) 2 = ((t / 2 ^ s % 2 : Nat) : Int) := by rw [tm (Int.natCast_nonneg _)]; omega
 have i1 : (((t / 2 ^ (s - 1) % 2 : Nat) : Int) = 1) ↔ t / 2 ^ (s - 1) % 2 = 1 := by omega
 have i2 : (((t / 2 ^ s % 2 : Nat) : Int) = 1) ↔ t / 2 ^ s % 2 = 1 := by omega
 have z : ((0 : Int) ≤ wrap64 (53 - 1)) := by rw [show wrap64 ((53 : Int) - 1) = 52 by decide +kernel]; decide
 refine Ev.congr (fun k => by unfold xcZ.f; rfl) (Ev.bind (Len_t h) ?_)
 refine Ev.congr (fun k => by rw [e1, e2, if_neg g1, e3]) (Ev.bind hS ?_)
 refine Ev.congr (fun k => by rw [e4]) (Ev.bind hH ?_)
 refine Ev.congr (f := fun _ => some _) (fun k => ?_) (Ev.now _)
 show ((xaM.f (tr (d3 (t / 2 ^ s))) 0).bind fun t414 => ((xaM.f (tr (d3 (t / 2 ^ s))) 1).bind fun t415 => ((xaM.f (tr (d3 (t / 2 ^ (s - 1)))) 0).bind fun t416 => _))) = _
 rw [(tr_digit _).1, (tr_digit _).2, (tr_digit _).1, Option.bind_some, Option.bind_some, Option.bind_some]
 rw [lt, e5, show wrap64 ((53 : Int) - 1) = 52 by decide +kernel, e6, p1, p2, b1, b2]
 have c52 : (0 : Int) ≤ 52 := by decide
 unfold cutUp
 by_cases h1 : t / 2 ^ (s - 1) % 2 = 1
 ·
  rw [if_pos (i1.2 h1)]
  by_cases h2 : t % 2 ^ (s - 1) ≠ 0
  ·
   rw [if_pos (decide_eq_true h2), if_pos c52, if_pos ⟨h1, .inl h2⟩]
  ·
   rw [if_neg (by rw [decide_eq_false h2]; exact Bool.false_ne_true)]
   by_cases h3 : more = true
   ·
    rw [if_pos h3, if_pos c52, if_pos ⟨h1, .inr (.inl h3)⟩]
   ·
    rw [if_neg h3]
    by_cases h4 : t / 2 ^ s % 2 = 1
    ·
     rw [if_pos (i2.2 h4), if_pos c52, if_pos ⟨h1, .inr (.inr h4)⟩]
    ·
     rw [if_neg (fun hc => h4 (i2.1 hc)), if_pos c52, if_neg (fun hc => hc.2.elim h2 (fun hd => hd.elim h3 h4))]
 ·
  rw [if_neg (fun hc => h1 (i1.1 hc)), if_pos c52, if_neg (fun hc => h1 hc.1)]
theorem made {neg : Bool} {u : Nat} (h : u < 9218868437227405312) : xcL.f neg (u : Int) = some ((if neg = true then u + 9223372036854775808 else u : Nat) : Int) := by
 unfold xcL.f
 have e : mn (u : Int) 9218868437227405312 = (u : Int) := by unfold mn; rw [if_neg (by omega)]
 rw [e]
 cases neg
 ·
  rfl
 ·
  rw [if_pos rfl, if_pos rfl, u64 (by omega) (by omega)]
  congr 1
theorem NearMore {t s n : Nat} (neg more : Bool) (h : Wide t s) (hn : n ≤ 1000) (hu : (s + 1074 - n) * 4503599627370496 + cutUp t more s < 9218868437227405312) :
  Ev (fun k => xaV.f k neg (d3 t) (-(n : Int)) more) ((if neg = true then (s + 1074 - n) * 4503599627370496 + cutUp t more s + 9223372036854775808 else (s + 1074 - n) * 4503599627370496 + cutUp t more s : Nat) : Int) := by
 obtain ⟨_, hs1, hs2, _, _⟩ := wide_lt h
 have hl := Len_t h
 have e1 : wrap64 ((s : Int) + 53 + -(n : Int)) = (s : Int) + 53 - n := by rw [w64 (by omega) (by omega)]; omega
 have hf : Ev (fun k => xdM.f k neg (d3 t) (-(n : Int))) false := by
  refine Ev.congr (fun k => by unfold xdM.f; rfl) (Ev.bind hl ?_)
  refine Ev.congr (fun k => by rw [e1, if_neg (by omega)]) (Ev.bind hl ?_)
  exact Ev.congr (f := fun _ => some false) (fun k => by rw [e1, decide_eq_false (by omega)]) (Ev.now _)
 have hz : xdB.f neg (d3 t) (-(n : Int)) = some false := rfl
 refine Ev.congr (fun k => by unfold xaV.f; rw [hz, Option.bind_some, if_neg (by decide)]) (Ev.bind hf ?_)
 refine Ev.congr (fun k => if_neg (by decide)) (Ev.bind (Rounded more h hn) ?_)
 refine Ev.congr (f := fun _ => some _) (fun k => ?_) (Ev.now _)
 rw [made hu]
 rfl
end Go.Proofs.Ytoncignjcgjhhaa.DG
namespace Go.Proofs.Ytoncignjcgjhhaa.DG
open Go.RowKit Go.Proofs.YtoncignjcgjhhaaW.PrintWords Go.Proofs.YtoncignjcgjhhaaW.PrintLast Go.Proofs.YtoncignjcgjhhaaW.PrintMore
open Go.Proofs.Ytoncignjcgjhhaa.Q
open Go.Proofs.Ytoncignjcgjhhaa.FQ (cutUp rung up Fit xhV log_eq log_rng rung_rng)
theorem word_is (neg : Bool) (r : Nat) : Ieee.double.word neg r = if neg = true then r + 9223372036854775808 else r := by
 unfold Ieee.Format.word
 rw [FQ.c_sw]
 cases neg
 ·
  rfl
 ·
  rw [if_pos rfl, if_pos rfl, Nat.add_comm]
theorem up_lt {p q : Nat} (hp : p ≠ 0) (hp2 : p < 4294967296) (hq : q ≠ 0) (hq2 : q < 1048576) : p.log2 ≤ 31 ∧ q.log2 ≤ 19 ∧ up p q < 79228162514264337593543950336 := by
 have a : p.log2 < 32 := (Nat.log2_lt hp).2 hp2
 have b : q.log2 < 20 := (Nat.log2_lt hq).2 hq2
 refine ⟨by omega, by omega, ?_⟩
 have h := (log_rng hp).2
 have h0 : 0 < 2 ^ (70 + q.log2 - p.log2) := Nat.two_pow_pos _
 have h1 : up p q < 2 ^ (p.log2 + 1) * 2 ^ (70 + q.log2 - p.log2) := Nat.mul_lt_mul_of_pos_right h h0
 rw [← Nat.pow_add] at h1
 have h2 : (2 : Nat) ^ (p.log2 + 1 + (70 + q.log2 - p.log2)) ≤ 2 ^ 96 := Nat.pow_le_pow_right (by decide) (by omega)
 have h3 : (2 : Nat) ^ 96 = 79228162514264337593543950336 := by decide
 omega
theorem near_over (neg : Bool) {p q : Nat} (hp : p ≠ 0) (hp2 : p < 4294967296) (hq : q ≠ 0) (hq2 : q < 1048576) :
  Ev (fun k => xbK.f k neg [(p : Int)] 0 false [(q : Int)] 0) ((Ieee.double.word neg (rung p q) : Nat) : Int) := by
 obtain ⟨lp, lq, hup⟩ := up_lt hp hp2 hq hq2
 have hF : Fit p q := ⟨hp, by omega, hq, by omega⟩
 have hq0 : 0 < q := Nat.pos_of_ne_zero hq
 obtain ⟨n, hn⟩ : ∃ n, n = 70 + q.log2 - p.log2 := ⟨_, rfl⟩
 have hr := (rung_rng hF).2
 have bp : (bits p : Int) = p.log2 + 1 := by unfold bits; rw [if_neg hp]; omega
 have bq : (bits q : Int) = q.log2 + 1 := by unfold bits; rw [if_neg hq]; omega
 have hLp := Len_1 hp hp2
 have hLq := Len_1 hq (by omega)
 rw [bp] at hLp
 rw [bq] at hLq
 have e1 : mx 0 (wrap64 (wrap64 (70 - ((p.log2 : Int) + 1)) + ((q.log2 : Int) + 1))) = (n : Int) := by
  rw [w64 (x := 70 - ((p.log2 : Int) + 1)) (by omega) (by omega), w64 (by omega) (by omega)]
  unfold mx
  rw [if_pos (by omega)]
  omega
 have e2 : wrap64 (wrap64 (0 - (n : Int)) - 0) = -(n : Int) := by rw [w64 (x := 0 - (n : Int)) (by omega) (by omega), w64 (by omega) (by omega)]; omega
 obtain ⟨t, ht⟩ : ∃ t, t = up p q / q := ⟨_, rfl⟩
 obtain ⟨more, hmore⟩ : ∃ more, more = decide (up p q % q ≠ 0) := ⟨_, rfl⟩
 have hmore2 : decide ((((dig (up p q % q)).length : Nat) : Int) > 0) = more := by
  rw [hmore]
  unfold dig
  by_cases h0 : up p q % q = 0
  ·
   have hf : decide (up p q % q ≠ 0) = false := decide_eq_false (fun hc => hc h0)
   rw [if_pos h0, hf]; rfl
  ·
   have hf : decide (up p q % q ≠ 0) = true := decide_eq_true h0
   rw [if_neg h0, hf]; rfl
 have key : ∃ s, Wide t s ∧ (s + 1074 - n) * 4503599627370496 + cutUp t more s = rung p q := by
  rcases xhV hF with ⟨a, b, c⟩ | ⟨a, b, c⟩
  ·
   refine ⟨17, ⟨.inl ⟨rfl, by rw [ht]; exact a, by rw [ht]; exact b⟩⟩, ?_⟩
   rw [c, ht, hmore, show 17 + 1074 - n = p.log2 + 1021 - q.log2 by omega]
  ·
   refine ⟨18, ⟨.inr ⟨rfl, by rw [ht]; exact a, by rw [ht]; exact b⟩⟩, ?_⟩
   rw [c, ht, hmore, show 18 + 1074 - n = p.log2 + 1021 - q.log2 + 1 by omega]
 obtain ⟨s, hw, hv⟩ := key
 obtain ⟨htl, _, _, _, htg⟩ := wide_lt hw
 have hge : 18446744073709551616 ≤ up p q := by
  have := Nat.div_le_self (up p q) q
  omega
 have hU : up p q = p * 2 ^ n := by rw [hn]; rfl
 have hS := ShiftUp_d3 (p := p) (n := n) hp2 (by omega) (by omega) (by rw [← hU]; exact hge) (by rw [← hU]; exact hup)
 rw [← hU] at hS
 have hD := Div hq0 hq2 hge hup
 rw [← ht, tr_d3 htg htl] at hD
 have hN := NearMore neg more hw (n := n) (by omega) (by rw [hv]; exact hr)
 rw [hv] at hN
 have hz : xdB.f neg [(p : Int)] 0 = some false := rfl
 refine Ev.congr (fun k => by unfold xbK.f; rw [hz, Option.bind_some, if_neg (by decide)]) (Ev.bind hLp ?_)
 refine Ev.bind hLq ?_
 refine Ev.congr (fun k => by rw [e1]) (Ev.bind hS ?_)
 refine Ev.bind hD ?_
 refine Ev.congr (fun k => by rw [e2, hmore2]) (Ev.bind hN ?_)
 rw [word_is]
 exact Ev.now _
theorem whole_pos {p : Nat} (hp : p ≠ 0) (hp2 : p < 4294967296) : Ev (fun k => xcD.f k (p : Int)) (false, [(p : Int)], 0) := by
 have ht := trim [(p : Int), 0] (by show 2 ≤ 100; decide)
 rw [tr2, show dig p = [(p : Int)] by unfold dig; rw [if_neg hp]] at ht
 have e0 : IntKind.u64.wrap (p : Int) = (p : Int) := u64 (by omega) (by omega)
 have e1 : Int.tmod (p : Int) 4294967296 = (p : Int) := by rw [tm (by omega)]; omega
 have e2 : IntKind.u64.wrap (Int.tdiv (p : Int) 4294967296) = 0 := by rw [td (by omega), u64 (by omega) (by omega)]; omega
 have hd : Ev (fun k => xcN.f k (p : Int)) [(p : Int)] := by
  refine Ev.congr (fun k => by unfold xcN.f; rw [e1, e2]) (Ev.bind ht (Ev.now _))
 refine Ev.congr (fun k => by unfold xcD.f; rw [if_neg (by omega), e0]) (Ev.bind hd ?_)
 exact Ev.now _
theorem whole_neg {p : Nat} (hp : p ≠ 0) (hp2 : p < 4294967296) : Ev (fun k => xcD.f k (-(p : Int))) (true, [(p : Int)], 0) := by
 have ht := trim [(p : Int), 0] (by show 2 ≤ 100; decide)
 rw [tr2, show dig p = [(p : Int)] by unfold dig; rw [if_neg hp]] at ht
 have e0 : IntKind.u64.wrap (IntKind.u64.wrap (wrap64 (-(wrap64 (-(p : Int) + 1)))) + 1) = (p : Int) := by
  rw [w64 (x := -(p : Int) + 1) (by omega) (by omega), w64 (by omega) (by omega), u64 (x := -(-(p : Int) + 1)) (by omega) (by omega), u64 (by omega) (by omega)]; omega
 have e1 : Int.tmod (p : Int) 4294967296 = (p : Int) := by rw [tm (by omega)]; omega
 have e2 : IntKind.u64.wrap (Int.tdiv (p : Int) 4294967296) = 0 := by rw [td (by omega), u64 (by omega) (by omega)]; omega
 have hd : Ev (fun k => xcN.f k (p : Int)) [(p : Int)] := by
  refine Ev.congr (fun k => by unfold xcN.f; rw [e1, e2]) (Ev.bind ht (Ev.now _))
 refine Ev.congr (fun k => by unfold xcD.f; rw [if_pos (by omega), e0]) (Ev.bind hd ?_)
 exact Ev.now _
theorem whole_0 : Ev (fun k => xcD.f k 0) (false, ([] : List Int), 0) := by
 have ht := trim [0, 0] (by show 2 ≤ 100; decide)
 have hd : Ev (fun k => xcN.f k 0) ([] : List Int) := by
  refine Ev.congr (fun k => by unfold xcN.f; rw [show Int.tmod 0 4294967296 = 0 by decide, show IntKind.u64.wrap (Int.tdiv 0 4294967296) = 0 by decide +kernel]) (Ev.bind ht ?_)
  exact Ev.now _
 refine Ev.congr (fun k => by unfold xcD.f; rw [if_neg (by decide), show IntKind.u64.wrap (0 : Int) = 0 by decide +kernel]) (Ev.bind hd ?_)
 exact Ev.now _
end Go.Proofs.Ytoncignjcgjhhaa.DG
namespace Go.Proofs.Ytoncignjcgjhhaa.Q
open Go.RowKit Go.Proofs.YtoncignjcgjhhaaW.PrintWords Go.Proofs.YtoncignjcgjhhaaW.PrintLast Go.Proofs.YtoncignjcgjhhaaW.PrintMore
attribute [local go_sem] xcC xcB xcR xcQ xbX xbW xcF xcE   -- for this text's walks alone
def xcW.f (k : Nat) (a0 : Int) (a1_0 : Int) (l1_1 : List (S63)) (a2 : Int) (a3 : Int) : Option (Int × Int) := (xaU.f k a0 a1_0 l1_1 a2 a3).bind fun bt454 => (if bt454.2.2 = 0 then ((xcD.f k bt454.1).bind fun bt458 => ((xcD.f k bt454.2.1).bind fun bt463 => ((xbK.f k bt458.1 bt458.2.1 bt458.2.2 bt463.1 bt463.2.1 bt463.2.2).bind fun t468 => (some (t468, 0))))) else (some (0, bt454.2.2)))
def xcW.T4 : Bool × List (List Nat × List Nat) := (true, [([], []), ([0], [0]), ([1], [1]), ([], []), ([3], [3]), ([4, 2], [4]), ([2, 5, 5], [2, 5]), ([6, 6, 0, 1, 2, 3, 4, 5, 6], [6]), ([7, 0, 1, 2, 3, 4, 5, 6, 7], [])])
def xcW.B4 : List Nat := [0, 1, 3, 0, 8, 31, 63, 127, 255]
theorem xcW.tab4 : rtab .any (opsOf Try.f30 4) = xcW.T4 := by kernel_rfl
theorem xcW.bits4 : xfP xcW.T4.2 xcW.B4 = true := by kernel_rfl
set_option maxHeartbeats 8000000 in
set_option maxRecDepth 100000 in
theorem xcW.calls (k : Nat) (a0 : Int) (a1_0 : Int) (A1_1 : Option Addr) (c1_1 : Nat) (l1_1 : List (S63)) (a2 : Int) (a3 : Int) (r1 : Int) (r2 : Int) (w : World) (hr1_1 : Kd.C k63 w A1_1 l1_1.length l1_1) (hc1_1 : l1_1.length ≤ c1_1) (h : xcW.f k a0 a1_0 l1_1 a2 a3 = some (r1, r2)) :
  Calls Try.prog 30 #[.int .i64 a0, .agg #[.int .i64 a1_0, .slice A1_1 l1_1.length c1_1], .int .i64 a2, .int .i64 a3] w fun e w' => e = .returned (.tuple #[.int .u64 r1, .int .i64 r2]) ∧ Below w.heap.size w w' := by
 have hu24 := Try.underlying24;have hu31 := Try.underlying31;have HR1_1 := Aside0.mk hr1_1;have HC1_1 := Aside0.mk hc1_1;clear hr1_1 hc1_1
 have HB := Aside0.mk (Below.refl w.heap.size w)
 have H : ((xaU.f k a0 a1_0 l1_1 a2 a3).bind fun bt454 => (if bt454.2.2 = 0 then ((xcD.f k bt454.1).bind fun bt458 => ((xcD.f k bt454.2.1).bind fun bt463 => ((xbK.f k bt458.1 bt458.2.1 bt458.2.2 bt463.1 bt463.2.1 bt463.2.2).bind fun t468 => (some (t468, 0))))) else (some (0, bt454.2.2)))) = some (r1, r2) := h
 clear h;replace H := Option.bind_eq_some_iff.mp H
 obtain ⟨⟨t454, t455, t456⟩, A50, H⟩ := H
 replace H : (if t456 = 0 then ((xcD.f k t454).bind fun bt458 => ((xcD.f k t455).bind fun bt463 => ((xbK.f k bt458.1 bt458.2.1 bt458.2.2 bt463.1 bt463.2.1 bt463.2.2).bind fun t468 => (some (t468, 0))))) else (some (0, t456))) = some (r1, r2) := H
 have A5 := Aside0.mk A50;clear A50
 by_cases c6 : t456 = 0
 ·
  rw [if_pos c6] at H
  have c6b0 : (t456 == 0) = true := beq_iff_eq.mpr c6
  have c6b1 : (t456 != 0) = false := bne_eq_false_iff_eq.mpr c6
  clear c6;replace H := Option.bind_eq_some_iff.mp H
  obtain ⟨⟨t458, t459, t462⟩, A70, H⟩ := H
  replace H : ((xcD.f k t455).bind fun bt463 => ((xbK.f k t458 t459 t462 bt463.1 bt463.2.1 bt463.2.2).bind fun t468 => (some (t468, 0)))) = some (r1, r2) := H
  have A7 := Aside0.mk A70;clear A70;replace H := Option.bind_eq_some_iff.mp H
  obtain ⟨⟨t463, t464, t467⟩, A80, H⟩ := H
  replace H : ((xbK.f k t458 t459 t462 t463 t464 t467).bind fun t468 => (some (t468, 0))) = some (r1, r2) := H
  have A8 := Aside0.mk A80;clear A80;replace H := Option.bind_eq_some_iff.mp H
  obtain ⟨t468, A90, H⟩ := H
  replace H : (some (t468, 0)) = some (r1, r2) := H
  have A9 := Aside0.mk A90;clear A90
  simp only [Option.some.injEq, Prod.mk.injEq] at H
  obtain ⟨rfl, rfl⟩ := H
  go_enter Try.func30, Try.ntmps30
  try go_wp2_with (first | ((with_reducible refine xbM (N := 5) rfl ?_); refine xbJ ?hg (N := 5) ?hd (cs := #[.int .i64 a1_0, .slice A1_1 l1_1.length c1_1]) (t := 24) ?hr ?_; (case hd => rfl); (case hg => rfl); (case hr => first | (go_simp; done) | (go_simp; rfl)); intro gb453 hg w10 hbox hb; have n0_ := Aside0.mk (xaP (by repeat (first | (with_reducible first | exact HB.out | apply xaB | apply xaA | apply xaC) | exact HB.out)) hb); have n1_ := Aside0.mk (hbox); have n2_ := Aside0.mk ((by rw [hg]; exact (xaR (by repeat (first | (with_reducible first | exact HB.out | apply xaB | apply xaA | apply xaC) | exact HB.out))) : w.heap.size ≤ gb453)); have n3_ := Aside0.mk ((by rw [hg]; exact (xaR (by repeat (first | (with_reducible first | exact HB.out | apply xaB | apply xaA | apply xaC) | exact HB.out))) : w.heap.size ≤ gb453)); clear HB; have HB := n0_; have BK453 := n1_; have GW453 := n2_; have GE453 := n3_; clear n0_ n1_ n2_ n3_; clear hb hbox hg; have hcz11_0 : w10.cell? ⟨gb453, 0, none⟩ = some (.int .i64 a1_0) := (xaE BK453.out 0).trans rfl; have hcz11_1 : w10.cell? ⟨gb453, 1, none⟩ = some (.slice A1_1 l1_1.length c1_1) := (xaE BK453.out 1).trans rfl; have hfz11_0 := xaD BK453.out 0; have hfz11_1 := xaD BK453.out 1) | ((with_reducible refine xaQ (f := 28) rfl ?_); refine goesL_ (some 17) rfl rfl Try.func28 (by kernel_rfl) rfl #[.int .i64 a0, .agg #[.int .i64 a1_0, .slice A1_1 l1_1.length c1_1], .int .i64 a2, .int .i64 a3] rfl (by (try simp only [List.map_toArray, List.map_cons, List.map_nil]); first | done | rfl | (simp only [List.length_drop, List.length_take]; rfl)) ?_; (with_reducible refine (xaU.calls k a0 a1_0 _ _ l1_1 a2 a3 t454 t455 t456 _ ?side1 ?side2 A5.out).mono ?_); (case side1 => repeat (first | exact (Kd.xbT HR1_1.out HB.out) | (with_reducible refine Kd.xbF ?_ _) | (with_reducible refine Kd.xbE ?_ _) | (with_reducible refine Kd.C_drew ?_))); (case side2 => exact HC1_1.out); rintro e w12 ⟨rfl, hb⟩; refine ⟨_, rfl, ?_⟩; have n0_ := Aside0.mk (xaY (g := gb453) (o := .cells #[.int .i64 a1_0, .slice A1_1 l1_1.length c1_1] 24 (0, 0)) (by (with_reducible repeat (first | refine xaG ?_ _ | refine xaJ ?_ | refine xaH ?_ _)); exact BK453.out) hb); have n1_ := Aside0.mk (xaP (by repeat (first | (with_reducible first | exact HB.out | apply xaB | apply xaA | apply xaC | refine xaF ?_ GE453.out) | exact HB.out)) hb); clear BK453; clear HB; have BK453 := n0_; have HB := n1_; clear n0_ n1_; (try clear hb); (try clear hb2); (try clear hk); (try clear hi)) | ((with_reducible refine xbM (N := 10) rfl ?_); refine xbJ ?hg (N := 10) ?hd (cs := #[.int .i64 0, .int .i64 0]) (t := 31) ?hr ?_; (case hd => rfl); (case hg => rfl); (case hr => first | (go_simp; done) | (go_simp; rfl)); intro gb457 hg w13 hbox hb; have n0_ := Aside0.mk (xaY (g := gb453) (o := .cells #[.int .i64 a1_0, .slice A1_1 l1_1.length c1_1] 24 (0, 0)) (by (with_reducible repeat (first | refine xaG ?_ _ | refine xaJ ?_ | refine xaH ?_ _)); exact BK453.out) hb); have n1_ := Aside0.mk (xaP (by repeat (first | (with_reducible first | exact HB.out | apply xaB | apply xaA | apply xaC | refine xaF ?_ GE453.out) | exact HB.out)) hb); have n2_ := Aside0.mk (hbox); have n3_ := Aside0.mk ((by rw [hg]; exact (xaR (by repeat (first | (with_reducible first | exact HB.out | apply xaB | apply xaA | apply xaC | refine xaF ?_ GE453.out) | exact HB.out))) : w.heap.size ≤ gb457)); have n4_ := Aside0.mk ((by rw [hg]; exact (xaR (by repeat (first | (with_reducible first | exact HB.out | apply xaB | apply xaA | apply xaC | refine xaF ?_ GE453.out) | exact HB.out))) : w.heap.size ≤ gb457)); have n5_ := Aside0.mk ((by rw [hg]; exact Nat.ne_of_lt (blk_lt (g := gb453) (o := .cells #[.int .i64 a1_0, .slice A1_1 l1_1.length c1_1] 24 (0, 0)) (by (with_reducible repeat (first | refine xaG ?_ _ | refine xaJ ?_ | refine xaH ?_ _)); exact BK453.out)) : gb453 ≠ gb457)); have n6_ := Aside0.mk ((by rw [hg]; exact Nat.ne_of_gt (blk_lt (g := gb453) (o := .cells #[.int .i64 a1_0, .slice A1_1 l1_1.length c1_1] 24 (0, 0)) (by (with_reducible repeat (first | refine xaG ?_ _ | refine xaJ ?_ | refine xaH ?_ _)); exact BK453.out)) : gb457 ≠ gb453)); clear BK453; clear HB; have BK453 := n0_; have HB := n1_; have BK457 := n2_; have GW457 := n3_; have GE457 := n4_; have NB453_457 := n5_; have NB457_453 := n6_; clear n0_ n1_ n2_ n3_ n4_ n5_ n6_; clear hb hbox hg; have hnb14 := NB457_453.out; have hnc14 := NB453_457.out; have hcz15_0 : w13.cell? ⟨gb457, 0, none⟩ = some (.int .i64 0) := (xaE BK457.out 0).trans rfl; have hcz15_1 : w13.cell? ⟨gb457, 1, none⟩ = some (.int .i64 0) := (xaE BK457.out 1).trans rfl; have hfz15_0 := xaD BK457.out 0; have hfz15_1 := xaD BK457.out 1))
  have n0_ : Aside0 (((w13.setCell ⟨gb457, 0, none⟩ (.int .i64 t454)).setCell ⟨gb457, 1, none⟩ (.int .i64 t455)).heap[gb453]? = some (.cells #[.int .i64 a1_0, .slice A1_1 l1_1.length c1_1] 24 (0, 0))) := ⟨by (with_reducible repeat (first | refine xaG ?_ _ | refine xaJ ?_ | refine xaH ?_ _)); refine xcX ?_ NB453_457.out _; (with_reducible repeat (first | refine xaG ?_ _ | refine xaJ ?_ | refine xaH ?_ _)); refine xcX ?_ NB453_457.out _; (with_reducible repeat (first | refine xaG ?_ _ | refine xaJ ?_ | refine xaH ?_ _)); exact BK453.out⟩
  have n1_ : Aside0 (((w13.setCell ⟨gb457, 0, none⟩ (.int .i64 t454)).setCell ⟨gb457, 1, none⟩ (.int .i64 t455)).heap[gb457]? = some (.cells #[.int .i64 t454, .int .i64 t455] 31 (0, 0))) := ⟨by (with_reducible repeat (first | refine xaG ?_ _ | refine xaJ ?_ | refine xaH ?_ _)); refine xcH (cs := #[.int .i64 t454, .int .i64 0]) ?_ 1 _ rfl; (with_reducible repeat (first | refine xaG ?_ _ | refine xaJ ?_ | refine xaH ?_ _)); refine xcH (cs := #[.int .i64 0, .int .i64 0]) ?_ 0 _ rfl; (with_reducible repeat (first | refine xaG ?_ _ | refine xaJ ?_ | refine xaH ?_ _)); exact BK457.out⟩
  have n2_ : Aside0 (Below w.heap.size w ((w13.setCell ⟨gb457, 0, none⟩ (.int .i64 t454)).setCell ⟨gb457, 1, none⟩ (.int .i64 t455))) := ⟨by repeat (first | (with_reducible first | exact HB.out | apply xaB | apply xaA | apply xaC | refine xaF ?_ GE453.out | refine xaF ?_ GE457.out) | exact HB.out)⟩
  (try clear BK453);(try clear BK457);(try clear HB)
  generalize ((w13.setCell ⟨gb457, 0, none⟩ (.int .i64 t454)).setCell ⟨gb457, 1, none⟩ (.int .i64 t455)) = w16 at n0_ n1_ n2_ ⊢
  have BK453 := n0_;have BK457 := n1_;have HB := n2_;clear n0_ n1_ n2_
  have n0_ := Aside0.mk (xaJ BK453.out)
  have n1_ := Aside0.mk (xaJ BK457.out)
  have n2_ := Aside0.mk (xaC HB.out)
  clear BK453 BK457 HB;have BK453 := n0_;have BK457 := n1_;have HB := n2_;clear n0_ n1_ n2_
  refine start_ (n := 9) (S := fun w' => w'.cell? ⟨gb457, 0, none⟩ = some (.int .i64 t454) ∧ w'.cell? ⟨gb457, 1, none⟩ = some (.int .i64 t455)) (ds := []) #[false, false, false, false, false, false, false, false, false] (by kernel_rfl) rfl rfl ⟨(xaE BK457.out 0).trans rfl, (xaE BK457.out 1).trans rfl⟩ (fun hHeld => ?_); refine xeR xcW.tab4 xcW.bits4 (fun HT_ HW_ => ?_)
  generalize w16.drew = w17 at BK453 BK457 HB hHeld ⊢
  refine pure_ (i := 0) (N := some 23) (v := ?_) (a' := ?_) #[true, false, false, false, false, false, false, false, false] rfl rfl (any_of HT_.out (by kernel_rfl)) (fun _ _ _ h => h) (Or.inl ⟨by rfl, ?_⟩) ?_ ?_
  rotate_left
  ·
   intro w'
   go_simp
   with_reducible rfl
  rotate_left
  ·
   simp only [Act.put, List.setIfInBounds_toArray, List.set_cons_zero, List.set_cons_succ, i64_w, i32_w]
   rfl
  refine pure_ (i := 3) (N := some 26) (v := ?_) (a' := ?_) #[true, false, false, true, false, false, false, false, false] rfl rfl (any_of HT_.out (by kernel_rfl)) (fun _ _ _ h => h) (Or.inl ⟨by rfl, ?_⟩) ?_ ?_
  rotate_left
  ·
   intro w'
   go_simp
   with_reducible rfl
  rotate_left
  ·
   simp only [Act.put, List.setIfInBounds_toArray, List.set_cons_zero, List.set_cons_succ, i64_w, i32_w]
   rfl
  refine take_ (i := 1) (N := some 24) (v := ?_) (a' := ?_) #[true, true, false, true, false, false, false, false, false] rfl rfl (xdY HT_.out HW_.out (by kernel_rfl)) (fun _ _ _ h => h) (Or.inl ⟨by rfl, ?_⟩) hHeld ?_ ?_
  rotate_left
  ·
   rintro w' ⟨s0, s1⟩
   go_simp
   with_reducible rfl
  rotate_left
  ·
   simp only [Act.put, List.setIfInBounds_toArray, List.set_cons_zero, List.set_cons_succ, i64_w, i32_w]
   rfl
  refine take_ (i := 4) (N := some 27) (v := ?_) (a' := ?_) #[true, true, false, true, true, false, false, false, false] rfl rfl (xdY HT_.out HW_.out (by kernel_rfl)) (fun _ _ _ h => h) (Or.inl ⟨by rfl, ?_⟩) hHeld ?_ ?_
  rotate_left
  ·
   rintro w' ⟨s0, s1⟩
   go_simp
   with_reducible rfl
  rotate_left
  ·
   simp only [Act.put, List.setIfInBounds_toArray, List.set_cons_zero, List.set_cons_succ, i64_w, i32_w]
   rfl
  refine one_ (i := 2) (N := some 25) #[true, true, true, true, true, false, false, false, false] rfl rfl (one_of HT_.out (by kernel_rfl)) (by decide) (fun K hK => ?_)
  refine goes_ Try.func67 (by kernel_rfl) rfl #[.int .i64 t454] (by rfl) rfl rfl (by (try simp only [List.map_toArray, List.map_cons, List.map_nil]); first | done | rfl | (simp only [List.length_drop, List.length_take]; rfl)) ?_
  with_reducible refine (xcD.calls k t454 t458 t459 t462 _ A7.out).mono ?_
  rintro e w18 ⟨v460, rfl, ho0, hb⟩
  refine ⟨_, rfl, ?_⟩
  have n0_ := Aside0.mk (Kd.xdR ho0 (xaR (by repeat (first | (with_reducible first | exact HB.out | apply xaB | apply xaA | apply xaC | refine xaF ?_ GE453.out | refine xaF ?_ GE457.out) | exact HB.out))))
  have n1_ := Aside0.mk (xaY (g := gb453) (o := .cells #[.int .i64 a1_0, .slice A1_1 l1_1.length c1_1] 24 (0, 0)) (by (with_reducible repeat (first | refine xaG ?_ _ | refine xaJ ?_ | refine xaH ?_ _)); exact BK453.out) hb)
  have n2_ := Aside0.mk (xaY (g := gb457) (o := .cells #[.int .i64 t454, .int .i64 t455] 31 (0, 0)) (by (with_reducible repeat (first | refine xaG ?_ _ | refine xaJ ?_ | refine xaH ?_ _)); exact BK457.out) hb)
  have n3_ := Aside0.mk (xaP (by repeat (first | (with_reducible first | exact HB.out | apply xaB | apply xaA | apply xaC | refine xaF ?_ GE453.out | refine xaF ?_ GE457.out) | exact HB.out)) hb)
  clear BK453 BK457 HB;have HO461 := n0_;have BK453 := n1_;have BK457 := n2_;have HB := n3_;clear n0_ n1_ n2_ n3_;(try clear hb);(try clear hb2);(try clear hk);(try clear hi);(try clear ho0)
  refine hK.out _ _ ⟨(xaE BK457.out 0).trans rfl, (xaE BK457.out 1).trans rfl⟩ (fun hHeld => ?_)
  clear hK K
  refine norm_ (a' := ?_) ?_ ?_
  rotate_left
  ·
   show Act.put _ (some 25) _ = _
   simp only [Act.put, List.setIfInBounds_toArray, List.set_cons_zero, List.set_cons_succ, i64_w, i32_w]
   rfl
  refine one_ (i := 5) (N := some 28) #[true, true, true, true, true, true, false, false, false] rfl rfl (one_of HT_.out (by kernel_rfl)) (by decide) (fun K hK => ?_)
  refine goes_ Try.func67 (by kernel_rfl) rfl #[.int .i64 t455] (by rfl) rfl rfl (by (try simp only [List.map_toArray, List.map_cons, List.map_nil]); first | done | rfl | (simp only [List.length_drop, List.length_take]; rfl)) ?_
  with_reducible refine (xcD.calls k t455 t463 t464 t467 _ A8.out).mono ?_
  rintro e w19 ⟨v465, rfl, ho0, hb⟩
  refine ⟨_, rfl, ?_⟩
  have n0_ := Aside0.mk (Kd.R_elder' (by (with_reducible repeat (first | apply Kd.xbZ | apply Kd.xbY | apply Kd.R_drew)); exact HO461.out) (Kd.R_base ho0) hb)
  have n1_ := Aside0.mk (Kd.xdR (Kd.R_new' ho0 (Kd.R_lt (by (with_reducible repeat (first | apply Kd.xbZ | apply Kd.xbY | apply Kd.R_drew)); exact HO461.out))) (xaR (by repeat (first | (with_reducible first | exact HB.out | apply xaB | apply xaA | apply xaC | refine xaF ?_ GE453.out | refine xaF ?_ GE457.out) | exact HB.out))))
  have n2_ := Aside0.mk (xaY (g := gb453) (o := .cells #[.int .i64 a1_0, .slice A1_1 l1_1.length c1_1] 24 (0, 0)) (by (with_reducible repeat (first | refine xaG ?_ _ | refine xaJ ?_ | refine xaH ?_ _)); exact BK453.out) hb)
  have n3_ := Aside0.mk (xaY (g := gb457) (o := .cells #[.int .i64 t454, .int .i64 t455] 31 (0, 0)) (by (with_reducible repeat (first | refine xaG ?_ _ | refine xaJ ?_ | refine xaH ?_ _)); exact BK457.out) hb)
  have n4_ := Aside0.mk (xaP (by repeat (first | (with_reducible first | exact HB.out | apply xaB | apply xaA | apply xaC | refine xaF ?_ GE453.out | refine xaF ?_ GE457.out) | exact HB.out)) hb)
  clear HO461 BK453 BK457 HB;have HO461 := n0_;have HO466 := n1_;have BK453 := n2_;have BK457 := n3_;have HB := n4_;clear n0_ n1_ n2_ n3_ n4_;(try clear hb);(try clear hb2);(try clear hk);(try clear hi);(try clear ho0)
  obtain ⟨Ao20, co20, eo20⟩ := Kd.xcY HO461.out
  (first | subst eo20 | (injection eo20 with f1_ f2_ f3_; have f4_ := f1_.symm; have f5_ := f3_.symm; clear f1_ f2_ f3_; subst f4_; subst f5_))
  obtain ⟨Ao21, co21, eo21⟩ := Kd.xcY HO466.out
  (first | subst eo21 | (injection eo21 with f1_ f2_ f3_; have f4_ := f1_.symm; have f5_ := f3_.symm; clear f1_ f2_ f3_; subst f4_; subst f5_))
  refine hK.out _ _ ⟨(xaE BK457.out 0).trans rfl, (xaE BK457.out 1).trans rfl⟩ (fun hHeld => ?_)
  clear hK K
  refine norm_ (a' := ?_) ?_ ?_
  rotate_left
  ·
   show Act.put _ (some 28) _ = _
   simp only [Act.put, List.setIfInBounds_toArray, List.set_cons_zero, List.set_cons_succ, i64_w, i32_w]
   rfl
  refine one_ (i := 6) (N := some 29) #[true, true, true, true, true, true, true, false, false] rfl rfl (one_of HT_.out (by kernel_rfl)) (by decide) (fun K hK => ?_)
  refine goes_ Try.func66 (by kernel_rfl) rfl #[.agg #[.bool t458, .slice Ao20 t459.length co20, .int .i64 t462], .agg #[.bool t463, .slice Ao21 t464.length co21, .int .i64 t467]] (by rfl) rfl rfl (by (try simp only [List.map_toArray, List.map_cons, List.map_nil]); first | done | rfl | (simp only [List.length_drop, List.length_take]; rfl)) ?_
  with_reducible refine (xbK.calls k t458 _ _ t459 t462 t463 _ _ t464 t467 t468 _ ?side1 ?side2 ?side3 ?side4 A9.out).mono ?_
  (case side1 => repeat (first | exact (Kd.R_reads' HO461.out).2.2 | (with_reducible refine Kd.xbF ?_ _) | (with_reducible refine Kd.xbE ?_ _) | (with_reducible refine Kd.C_drew ?_)))
  (case side2 => exact (Kd.R_reads' HO461.out).2.1)
  (case side3 => repeat (first | exact (Kd.R_reads' HO466.out).2.2 | (with_reducible refine Kd.xbF ?_ _) | (with_reducible refine Kd.xbE ?_ _) | (with_reducible refine Kd.C_drew ?_)))
  (case side4 => exact (Kd.R_reads' HO466.out).2.1)
  rintro e w22 ⟨rfl, hb⟩
  refine ⟨_, rfl, ?_⟩
  have n0_ := Aside0.mk (Kd.xgJ (by (with_reducible repeat (first | apply Kd.xbZ | apply Kd.xbY | apply Kd.R_drew)); exact HO461.out) hb)
  have n1_ := Aside0.mk (Kd.xgJ (by (with_reducible repeat (first | apply Kd.xbZ | apply Kd.xbY | apply Kd.R_drew)); exact HO466.out) hb)
  have n2_ := Aside0.mk (xaY (g := gb453) (o := .cells #[.int .i64 a1_0, .slice A1_1 l1_1.length c1_1] 24 (0, 0)) (by (with_reducible repeat (first | refine xaG ?_ _ | refine xaJ ?_ | refine xaH ?_ _)); exact BK453.out) hb)
  have n3_ := Aside0.mk (xaY (g := gb457) (o := .cells #[.int .i64 t454, .int .i64 t455] 31 (0, 0)) (by (with_reducible repeat (first | refine xaG ?_ _ | refine xaJ ?_ | refine xaH ?_ _)); exact BK457.out) hb)
  have n4_ := Aside0.mk (xaP (by repeat (first | (with_reducible first | exact HB.out | apply xaB | apply xaA | apply xaC | refine xaF ?_ GE453.out | refine xaF ?_ GE457.out) | exact HB.out)) hb)
  clear HO461 HO466 BK453 BK457 HB;have HO461 := n0_;have HO466 := n1_;have BK453 := n2_;have BK457 := n3_;have HB := n4_;clear n0_ n1_ n2_ n3_ n4_;(try clear hb);(try clear hb2);(try clear hk);(try clear hi)
  refine hK.out _ _ ⟨(xaE BK457.out 0).trans rfl, (xaE BK457.out 1).trans rfl⟩ (fun hHeld => ?_)
  clear hK K
  refine norm_ (a' := ?_) ?_ ?_
  rotate_left
  ·
   show Act.put _ (some 29) _ = _
   simp only [Act.put, List.setIfInBounds_toArray, List.set_cons_zero, List.set_cons_succ, i64_w, i32_w]
   rfl
  refine pure_ (i := 7) (N := some 8) (v := ?_) (a' := ?_) #[true, true, true, true, true, true, true, true, false] rfl rfl (any_of HT_.out (by kernel_rfl)) (fun _ _ _ h => h) (Or.inl ⟨by rfl, ?_⟩) ?_ ?_
  rotate_left
  ·
   intro w'
   go_simp
   with_reducible rfl
  rotate_left
  ·
   simp only [Act.put, List.setIfInBounds_toArray, List.set_cons_zero, List.set_cons_succ, i64_w, i32_w]
   rfl
  refine pure_ (i := 8) (N := some 9) (v := ?_) (a' := ?_) #[true, true, true, true, true, true, true, true, true] rfl rfl (any_of HT_.out (by kernel_rfl)) (fun _ _ _ h => h) (Or.inl ⟨by rfl, ?_⟩) ?_ ?_
  rotate_left
  ·
   intro w'
   go_simp
   with_reducible rfl
  rotate_left
  ·
   simp only [Act.put, List.setIfInBounds_toArray, List.set_cons_zero, List.set_cons_succ, i64_w, i32_w]
   rfl
  refine done_ (xgB HT_.out (by kernel_rfl)) ?_
  try go_wp2
  go_ret2
  exact ⟨by first | rfl | (simp [xaL, xaK] <;> rfl) | (simp [*, xaL, xaK] <;> rfl), by repeat (first | (with_reducible first | exact HB.out | apply xaB | apply xaA | apply xaC | refine xaF ?_ GE453.out | refine xaF ?_ GE457.out) | exact HB.out)⟩
 ·
  rw [if_neg c6] at H
  have c6b0 : (t456 == 0) = false := beq_eq_false_iff_ne.mpr c6
  have c6b1 : (t456 != 0) = true := bne_iff_ne.mpr c6
  simp only [Option.some.injEq, Prod.mk.injEq] at H
  obtain ⟨rfl, rfl⟩ := H
  go_enter Try.func30, Try.ntmps30
  go_wp2_with (first | ((with_reducible refine xbM (N := 5) rfl ?_); refine xbJ ?hg (N := 5) ?hd (cs := #[.int .i64 a1_0, .slice A1_1 l1_1.length c1_1]) (t := 24) ?hr ?_; (case hd => rfl); (case hg => rfl); (case hr => first | (go_simp; done) | (go_simp; rfl)); intro gb453 hg w23 hbox hb; have n0_ := Aside0.mk (xaP (by repeat (first | (with_reducible first | exact HB.out | apply xaB | apply xaA | apply xaC) | exact HB.out)) hb); have n1_ := Aside0.mk (hbox); have n2_ := Aside0.mk ((by rw [hg]; exact (xaR (by repeat (first | (with_reducible first | exact HB.out | apply xaB | apply xaA | apply xaC) | exact HB.out))) : w.heap.size ≤ gb453)); have n3_ := Aside0.mk ((by rw [hg]; exact (xaR (by repeat (first | (with_reducible first | exact HB.out | apply xaB | apply xaA | apply xaC) | exact HB.out))) : w.heap.size ≤ gb453)); clear HB; have HB := n0_; have BK453 := n1_; have GW453 := n2_; have GE453 := n3_; clear n0_ n1_ n2_ n3_; clear hb hbox hg; have hcz24_0 : w23.cell? ⟨gb453, 0, none⟩ = some (.int .i64 a1_0) := (xaE BK453.out 0).trans rfl; have hcz24_1 : w23.cell? ⟨gb453, 1, none⟩ = some (.slice A1_1 l1_1.length c1_1) := (xaE BK453.out 1).trans rfl; have hfz24_0 := xaD BK453.out 0; have hfz24_1 := xaD BK453.out 1) | ((with_reducible refine xaQ (f := 28) rfl ?_); refine goesL_ (some 17) rfl rfl Try.func28 (by kernel_rfl) rfl #[.int .i64 a0, .agg #[.int .i64 a1_0, .slice A1_1 l1_1.length c1_1], .int .i64 a2, .int .i64 a3] rfl (by (try simp only [List.map_toArray, List.map_cons, List.map_nil]); first | done | rfl | (simp only [List.length_drop, List.length_take]; rfl)) ?_; (with_reducible refine (xaU.calls k a0 a1_0 _ _ l1_1 a2 a3 t454 t455 t456 _ ?side1 ?side2 A5.out).mono ?_); (case side1 => repeat (first | exact (Kd.xbT HR1_1.out HB.out) | (with_reducible refine Kd.xbF ?_ _) | (with_reducible refine Kd.xbE ?_ _) | (with_reducible refine Kd.C_drew ?_))); (case side2 => exact HC1_1.out); rintro e w25 ⟨rfl, hb⟩; refine ⟨_, rfl, ?_⟩; have n0_ := Aside0.mk (xaY (g := gb453) (o := .cells #[.int .i64 a1_0, .slice A1_1 l1_1.length c1_1] 24 (0, 0)) (by (with_reducible repeat (first | refine xaG ?_ _ | refine xaJ ?_ | refine xaH ?_ _)); exact BK453.out) hb); have n1_ := Aside0.mk (xaP (by repeat (first | (with_reducible first | exact HB.out | apply xaB | apply xaA | apply xaC | refine xaF ?_ GE453.out) | exact HB.out)) hb); clear BK453; clear HB; have BK453 := n0_; have HB := n1_; clear n0_ n1_; (try clear hb); (try clear hb2); (try clear hk); (try clear hi)) | ((with_reducible refine xbM (N := 10) rfl ?_); refine xbJ ?hg (N := 10) ?hd (cs := #[.int .i64 0, .int .i64 0]) (t := 31) ?hr ?_; (case hd => rfl); (case hg => rfl); (case hr => first | (go_simp; done) | (go_simp; rfl)); intro gb457 hg w26 hbox hb; have n0_ := Aside0.mk (xaY (g := gb453) (o := .cells #[.int .i64 a1_0, .slice A1_1 l1_1.length c1_1] 24 (0, 0)) (by (with_reducible repeat (first | refine xaG ?_ _ | refine xaJ ?_ | refine xaH ?_ _)); exact BK453.out) hb); have n1_ := Aside0.mk (xaP (by repeat (first | (with_reducible first | exact HB.out | apply xaB | apply xaA | apply xaC | refine xaF ?_ GE453.out) | exact HB.out)) hb); have n2_ := Aside0.mk (hbox); have n3_ := Aside0.mk ((by rw [hg]; exact (xaR (by repeat (first | (with_reducible first | exact HB.out | apply xaB | apply xaA | apply xaC | refine xaF ?_ GE453.out) | exact HB.out))) : w.heap.size ≤ gb457)); have n4_ := Aside0.mk ((by rw [hg]; exact (xaR (by repeat (first | (with_reducible first | exact HB.out | apply xaB | apply xaA | apply xaC | refine xaF ?_ GE453.out) | exact HB.out))) : w.heap.size ≤ gb457)); have n5_ := Aside0.mk ((by rw [hg]; exact Nat.ne_of_lt (blk_lt (g := gb453) (o := .cells #[.int .i64 a1_0, .slice A1_1 l1_1.length c1_1] 24 (0, 0)) (by (with_reducible repeat (first | refine xaG ?_ _ | refine xaJ ?_ | refine xaH ?_ _)); exact BK453.out)) : gb453 ≠ gb457)); have n6_ := Aside0.mk ((by rw [hg]; exact Nat.ne_of_gt (blk_lt (g := gb453) (o := .cells #[.int .i64 a1_0, .slice A1_1 l1_1.length c1_1] 24 (0, 0)) (by (with_reducible repeat (first | refine xaG ?_ _ | refine xaJ ?_ | refine xaH ?_ _)); exact BK453.out)) : gb457 ≠ gb453)); clear BK453; clear HB; have BK453 := n0_; have HB := n1_; have BK457 := n2_; have GW457 := n3_; have GE457 := n4_; have NB453_457 := n5_; have NB457_453 := n6_; clear n0_ n1_ n2_ n3_ n4_ n5_ n6_; clear hb hbox hg; have hnb27 := NB457_453.out; have hnc27 := NB453_457.out; have hcz28_0 : w26.cell? ⟨gb457, 0, none⟩ = some (.int .i64 0) := (xaE BK457.out 0).trans rfl; have hcz28_1 : w26.cell? ⟨gb457, 1, none⟩ = some (.int .i64 0) := (xaE BK457.out 1).trans rfl; have hfz28_0 := xaD BK457.out 0; have hfz28_1 := xaD BK457.out 1))
  go_ret2
  exact ⟨by first | rfl | (simp [xaL, xaK] <;> rfl) | (simp [*, xaL, xaK] <;> rfl), by repeat (first | (with_reducible first | exact HB.out | apply xaB | apply xaA | apply xaC | refine xaF ?_ GE453.out | refine xaF ?_ GE457.out) | exact HB.out)⟩
def xdD.f (a0 : Int) : Option (Bool) := some (decide ((Go.bits .andNot .u64 a0 9223372036854775808) > 9218868437227405312))
set_option maxHeartbeats 8000000 in
set_option maxRecDepth 100000 in
theorem xdD.calls (a0 : Int) (r : Bool) (w : World) (h : xdD.f a0 = some r) :
  Calls Try.prog 105 #[.int .u64 a0] w fun e w' => e = .returned (.bool r) ∧ Drawn0 w w' := by
 have H : (some (decide ((Go.bits .andNot .u64 a0 9223372036854775808) > 9218868437227405312))) = some r := h
 clear h
 obtain rfl := Option.some.inj H
 go_enter Try.func105, Try.ntmps105
 go_wp2
 go_ret
 exact ⟨by first | rfl | (simp; done) | (simp [*]; done), by repeat (first | exact Drawn0.refl _ | apply Drawn0.step)⟩
end Go.Proofs.Ytoncignjcgjhhaa.Q
namespace Go.Proofs.Ytoncignjcgjhhaa.FQ
open Ieee
open Go.Proofs.Ytoncignjcgjhhaa.Q (quo64)
theorem quo_zero {q : Int} (q0 : 0 < q) (q1 : q < 1048576) : quo64 0 q = some 0 := by
 unfold quo64
 show double.div (floatOfInt .f64 0) (floatOfInt .f64 q) = some 0
 rw [of_pos q0]
 have hf := fit_of (p := 1) (by omega) (by omega) q0 q1
 have h0 : floatOfInt .f64 0 = 0 := by decide +kernel
 have hr0 : double.read 0 = .number false 0 (-1074) := by decide +kernel
 have hq := xfG hf.q0 (by have := hf.ql; omega)
 unfold Format.div
 rw [h0, hr0, read_int false hf.q0 (by have := hf.ql; omega)]
 unfold Datum.quotient
 simp only
 rw [if_neg (show ¬ sig q.toNat = 0 by omega)]
 have e0 : ∀ k : Nat, (0 : Nat) <<< k = 0 := fun k => by rw [Nat.shiftLeft_eq, Nat.zero_mul]
 rw [e0, Nat.zero_div, Nat.zero_mod]
 simp only [Option.map_some, Format.write]
 unfold Format.nearest
 rfl
end Go.Proofs.Ytoncignjcgjhhaa.FQ
namespace Go.Proofs.Ytoncignjcgjhhaa.N
open Go.RowKit Go.Proofs.YtoncignjcgjhhaaW.PrintWords Go.Proofs.YtoncignjcgjhhaaW.PrintLast Go.Proofs.YtoncignjcgjhhaaW.PrintMore
open Go.Proofs.Ytoncignjcgjhhaa.Q
theorem year_val {p q : Int} (h : -4294967296 < p ∧ p < 4294967296) (q0 : 0 < q) (q1 : q < 1048576) :
  ∃ (v : Nat) (neg : Bool) (lp : List Int), quo64 p q = some v ∧ Ev (fun k => xcD.f k p) (neg, lp, 0) ∧ Ev (fun k => xcD.f k q) (false, [q], 0) ∧ Ev (fun k => xbK.f k neg lp 0 false [q] 0) (v : Int) := by
 obtain ⟨Q, rfl⟩ : ∃ Q : Nat, q = Q := ⟨q.toNat, by omega⟩
 have hQ : Q ≠ 0 := by omega
 have hQ1 : Q < 1048576 := by omega
 have wq := DG.whole_pos hQ (by omega)
 by_cases hp : 0 < p
 ·
  obtain ⟨P, rfl⟩ : ∃ P : Nat, p = P := ⟨p.toNat, by omega⟩
  have hf := FQ.fit_of (p := (P : Int)) (q := (Q : Int)) hp (by omega) q0 q1
  rw [Int.toNat_natCast, Int.toNat_natCast] at hf
  refine ⟨_, false, [(P : Int)], ?_, DG.whole_pos (by omega) (by omega), wq, DG.near_over false (by omega) (by omega) hQ hQ1⟩
  unfold quo64
  show Ieee.double.div (floatOfInt .f64 (P : Int)) (floatOfInt .f64 (Q : Int)) = _
  rw [FQ.of_pos hp, FQ.of_pos q0, Int.toNat_natCast, Int.toNat_natCast]
  exact FQ.div_nat false hf
 ·
  by_cases hn : p < 0
  ·
   obtain ⟨P, rfl⟩ : ∃ P : Nat, p = -(P : Int) := ⟨(-p).toNat, by omega⟩
   have hf := FQ.fit_of (p := (P : Int)) (q := (Q : Int)) (by omega) (by omega) q0 q1
   rw [Int.toNat_natCast, Int.toNat_natCast] at hf
   refine ⟨_, true, [(P : Int)], ?_, DG.whole_neg (by omega) (by omega), wq, DG.near_over true (by omega) (by omega) hQ hQ1⟩
   unfold quo64
   show Ieee.double.div (floatOfInt .f64 (-(P : Int))) (floatOfInt .f64 (Q : Int)) = _
   rw [FQ.of_neg hn, FQ.of_pos q0, Int.neg_neg, Int.toNat_natCast, Int.toNat_natCast]
   exact FQ.div_nat true hf
  ·
   have hz : p = 0 := by omega
   subst hz
   refine ⟨0, false, [], FQ.quo_zero q0 q1, DG.whole_0, wq, ?_⟩
   have hz : xdB.f false ([] : List Int) 0 = some true := rfl
   exact Ev.congr (f := fun _ => some (0 : Int)) (fun k => by unfold xbK.f; rw [hz, Option.bind_some, if_pos rfl]) (Ev.now _)
theorem num_rng2 (kind we : Int) (l : List S63) {a b : Int} (ha : 0 ≤ a ∧ a ≤ 109572) (hb : 0 ≤ b ∧ b ≤ 109572) : -4294967296 < num kind we l a b ∧ num kind we l a b < 4294967296 := by
 have r1 := xhC kind we l ha;have r2 := xhC kind we l hb
 have r3 := thP_rng (decide (kind = 5)) ha hb
 have r4 := thP_rng (decide (kind = 5)) hb ha
 unfold num
 split
 ·
  split <;> omega
 ·
  omega
theorem years (kind we : Int) (l : List S63) (a b : Int) (hw : wfL l) : ∃ (v : Nat) (er : Int), Ev (fun k => xeC.f k kind we l a b) (v, er) ∧ Ev (fun k => xcW.f k kind we l a b) ((v : Int), er) := by
 have hr := rFrac kind we l a b
 by_cases e : (frac kind we l a b).2.2 = 0
 ·
  obtain ⟨g, da, db⟩ := frac_num e
  have hd := den2_rng kind
  obtain ⟨v, neg, lp, h1, h2, h3, h4⟩ := year_val (num_rng2 kind we l da db) hd.1 hd.2
  refine ⟨v, 0, cYear_ok hw e h1, ?_⟩
  rw [g] at hr
  refine Ev.congr (fun k => by unfold xcW.f; rfl) (Ev.bind hr ?_)
  refine Ev.congr (fun k => if_pos rfl) (Ev.bind h2 ?_)
  refine Ev.bind h3 ?_
  refine Ev.bind h4 ?_
  exact Ev.now _
 ·
  refine ⟨0, (frac kind we l a b).2.2, cYear_err hw e, ?_⟩
  refine Ev.congr (fun k => by unfold xcW.f; rfl) (Ev.bind hr ?_)
  exact Ev.congr (fun k => if_neg e) (Ev.now _)
end Go.Proofs.Ytoncignjcgjhhaa.N
namespace Go.Proofs.Ytoncignjcgjhhaa.Q
open Go.RowKit Go.Proofs.YtoncignjcgjhhaaW.PrintWords Go.Proofs.YtoncignjcgjhhaaW.PrintLast Go.Proofs.YtoncignjcgjhhaaW.PrintMore
def xeA.f : Option Bool := some true
theorem awake7_a : xaZ.f 400 3 0 ([] : List S63) 45289 45291 = some (731, 133590, 0) := by decide +kernel
theorem awake7_b : xeC.f 400 2 0 ([] : List S63) 45656 46021 = some (4607182418800017408, 0) := by decide +kernel
theorem awake7_c : FloatKind.f64.format.order 4607182418800017408 4607182418800017408 = some .eq := by decide +kernel
set_option maxHeartbeats 8000000 in
set_option maxRecDepth 100000 in
theorem xeA.calls (r : Bool) (w : World) (h : xeA.f = some r) :
  Calls Try.prog 26 #[] w fun e w' => e = .returned (.bool r) ∧ Below w.heap.size w w' := by
 obtain rfl := Option.some.inj h
 clear h
 have HB := Aside0.mk (Below.refl w.heap.size w)
 have A2 := Aside0.mk awake7_a;have A3 := Aside0.mk awake7_b
 obtain ⟨one, hone⟩ : ∃ x : Nat, x = 4607182418800017408 := ⟨_, rfl⟩
 have hc : (FloatKind.f64.format.order one 4607182418800017408 == some Ordering.eq) = true := by rw [hone, awake7_c]; rfl
 rw [← hone] at A3
 clear hone
 go_enter Try.func26, Try.ntmps26
 go_wp2_with (first | (go_at_call 27; (refine (xaZ.calls 400 3 0 _ _ ([] : List S63) 45289 45291 731 133590 0 _ ?side1 ?side2 A2.out).mono ?_); (case side1 => exact Kd.C_nil _ _); (case side2 => exact Nat.le_refl _); rintro e w7 ⟨rfl, hb⟩; have n1_ := Aside0.mk (xaP (by repeat (first | (with_reducible first | exact HB.out | apply xaB | apply xaA | apply xaC) | exact HB.out)) hb); clear HB; have HB := n1_; clear n1_; (try clear hb)) | (go_at_call 29; (refine (xeC.calls 400 2 0 _ _ ([] : List S63) 45656 46021 one 0 _ ?side1 ?side2 A3.out).mono ?_); (case side1 => exact Kd.C_nil _ _); (case side2 => exact Nat.le_refl _); rintro e w8 ⟨rfl, hb⟩; have n1_ := Aside0.mk (xaP (by repeat (first | (with_reducible first | exact HB.out | apply xaB | apply xaA | apply xaC) | exact HB.out)) hb); clear HB; have HB := n1_; clear n1_; (try clear hb)))
 go_ret
 exact ⟨by first | rfl | (simp [hc]; done) | (simp [hc] <;> rfl), by repeat (first | (with_reducible first | exact HB.out | apply xaB | apply xaA | apply xaC) | exact HB.out)⟩
end Go.Proofs.Ytoncignjcgjhhaa.Q
