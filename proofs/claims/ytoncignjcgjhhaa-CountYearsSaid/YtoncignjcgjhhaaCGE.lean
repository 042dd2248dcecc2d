/- Contracts and facts of functions of the program (calendar, dates and their documents), joined in one text by a program of this session. No condition but what each theorem states. -/
import Derived.Test.YtoncignjcgjhhaaCGA
import Derived.Test.YtoncignjcgjhhaaCGD
import Derived.Test.YtoncignjcgjhhaaCGC
set_option linter.unusedVariables false
set_option linter.unusedSimpArgs false
namespace Go.Proofs.Ytoncignjcgjhhaa.Q
open Go.RowKit Go.Proofs.YtoncignjcgjhhaaW.PrintWords Go.Proofs.YtoncignjcgjhhaaW.PrintLast Go.Proofs.YtoncignjcgjhhaaW.PrintMore
attribute [local go_sem] xcC xcB xcR xcQ xbX xbW xcF xcE   -- for this text's walks alone
mutual
def xaT.j0 : Nat → Int → Bool → Option (Int × Int × Int × Int)
  | 0, _, _ => none
  | k + 1, x0, x12 => if x12 = true then (some (0, 0, 0, 51)) else (xaT.l0 k x0 1900)
def xaT.j2 : Nat → Int → Int → Option (Int × Int × Int × Int)
  | 0, _, _ => none
  | k + 1, x0, x4 => xaT.l1 k x0 x4 1
def xaT.l1 : Nat → Int → Int → Int → Option (Int × Int × Int × Int)
  | 0, _, _, _ => none
  | k + 1, x0, x4, x6 => (xbN.f k x4 x6).bind fun t192 => (if x0 ≥ t192 then ((xbN.f k x4 x6).bind fun t193 => (xaT.l1 k (wrap64 (x0 - t193)) x4 (wrap64 (x6 + 1)))) else (some (x4, x6, wrap64 (x0 + 1), 0)))
def xaT.l0 : Nat → Int → Int → Option (Int × Int × Int × Int)
  | 0, _, _ => none
  | k + 1, x0, x4 => (xbV.f x4).bind fun t191 => (if t191 = true then (if x0 < 366 then (xaT.j2 k x0 x4) else (xaT.l0 k (wrap64 (x0 - 366)) (wrap64 (x4 + 1)))) else (if x0 < 365 then (xaT.j2 k x0 x4) else (xaT.l0 k (wrap64 (x0 - 365)) (wrap64 (x4 + 1)))))
end
def xaT.f (k : Nat) (a0 : Int) : Option (Int × Int × Int × Int) := if a0 < 0 then (xaT.j0 k a0 true) else (xaT.j0 k a0 (decide (a0 > 109572)))
set_option maxHeartbeats 8000000 in
set_option maxRecDepth 100000 in
theorem xaT.calls (k : Nat) (a0 : Int) (r1 : Int) (r2 : Int) (r3 : Int) (r4 : Int) (w : World) (h : xaT.f k a0 = some (r1, r2, r3, r4)) :
  Calls Try.prog 96 #[.int .i64 a0] w fun e w' => e = .returned (.tuple #[.agg #[.int .i64 r1, .int .i64 r2, .int .i64 r3], .int .i64 r4]) ∧ Below w.heap.size w w' := by
 have hu115 := Try.underlying115
 have HB := Aside0.mk (Below.refl w.heap.size w)
 have H : (if a0 < 0 then (xaT.j0 k a0 true) else (xaT.j0 k a0 (decide (a0 > 109572)))) = some (r1, r2, r3, r4) := h
 clear h;have HC2 := Aside0.mk H;clear H
 go_enter Try.func96, Try.ntmps96
 go_upto_region 1 with (first | ((with_reducible refine xbM (N := 2) rfl ?_); refine xbJ ?hg (N := 2) ?hd (cs := #[.int .i64 0, .int .i64 0, .int .i64 0]) (t := 115) ?hr ?_; (case hd => rfl); (case hg => rfl); (case hr => first | (go_simp; done) | (go_simp; rfl)); intro gb190 hg w3 hbox hb; have n0_ := Aside0.mk (xaP (by repeat (first | (with_reducible first | exact HB.out | apply xaB | apply xaA | apply xaC) | exact HB.out)) hb); have n1_ := Aside0.mk (hbox); have n2_ := Aside0.mk ((by rw [hg]; exact (xaR (by repeat (first | (with_reducible first | exact HB.out | apply xaB | apply xaA | apply xaC) | exact HB.out))) : w.heap.size ≤ gb190)); have n3_ := Aside0.mk ((by rw [hg]; exact (xaR (by repeat (first | (with_reducible first | exact HB.out | apply xaB | apply xaA | apply xaC) | exact HB.out))) : w.heap.size ≤ gb190)); clear HB; have HB := n0_; have BK190 := n1_; have GW190 := n2_; have GE190 := n3_; clear n0_ n1_ n2_ n3_; clear hb hbox hg))
 (try simp only [Act.put, List.setIfInBounds_toArray, List.set_cons_zero, List.set_cons_succ])
 go_cut [12] (fun v12 wc => ∃ (kq : Nat) (x12_1 : Bool), v12 = .bool x12_1 ∧ Aside0 (xaT.j0 kq a0 x12_1 = some (r1, r2, r3, r4)) ∧ Aside0 (kq ≤ k) ∧ Aside0 (wc.heap[gb190]? = some (.cells #[.int .i64 0, .int .i64 0, .int .i64 0] 115 (0, 0))) ∧ Aside0 (Below w.heap.size w wc))
 case first =>
  have H := HC2.out;clear HC2
  by_cases c4 : a0 < 0
  ·
   rw [if_pos c4] at H
   have c4b0 : decide (a0 < 0) = true := decide_eq_true c4
   clear c4
   (first | rw [c4b0] | (simp only [i64_w, i32_w]; rw [c4b0]) | skip)
   have H' := Aside0.mk H;clear H
   go_wp2
   go_meet
   case rel => exact ⟨_, (true), (by first | rfl | (simp; done) | (simp [*]; done)), H', ⟨by first | omega | exact Nat.le_refl _⟩, ⟨by (with_reducible repeat (first | refine xaG ?_ _ | refine xaJ ?_ | refine xaH ?_ _)); exact BK190.out⟩, ⟨by repeat (first | (with_reducible first | exact HB.out | apply xaB | apply xaA | apply xaC | refine xaF ?_ GE190.out) | exact HB.out)⟩⟩
  ·
   rw [if_neg c4] at H
   have c4b0 : decide (a0 < 0) = false := decide_eq_false c4
   clear c4
   (first | rw [c4b0] | (simp only [i64_w, i32_w]; rw [c4b0]) | skip)
   have H' := Aside0.mk H;clear H
   go_wp2
   go_meet
   case rel => exact ⟨_, (decide (a0 > 109572)), (by first | rfl | (simp; done) | (simp [*]; done)), H', ⟨by first | omega | exact Nat.le_refl _⟩, ⟨by (with_reducible repeat (first | refine xaG ?_ _ | refine xaJ ?_ | refine xaH ?_ _)); exact BK190.out⟩, ⟨by repeat (first | (with_reducible first | exact HB.out | apply xaB | apply xaA | apply xaC | refine xaF ?_ GE190.out) | exact HB.out)⟩⟩
 case rest =>
  clear HC2
  obtain ⟨kq, x12_1, rfl, HA, HJ1, BK190, HB⟩ := hcut
  cases kq with
  | zero => exact absurd HA.out (by simp [xaT.j0])
  | succ kj1 =>
   have H := HA.out;clear HA
   simp only [xaT.j0] at H
   by_cases c5 : x12_1 = true
   ·
    subst c5
    have H1 : (some (0, 0, 0, 51)) = some (r1, r2, r3, r4) := by rw [if_pos rfl] at H; exact H
    clear H;have H := H1;clear H1
    simp only [Option.some.injEq, Prod.mk.injEq] at H
    obtain ⟨rfl, rfl, rfl, rfl⟩ := H
    have hcz6_0 : wc.cell? ⟨gb190, 0, none⟩ = some (.int .i64 0) := (xaE BK190.out 0).trans rfl
    have hcz6_1 : wc.cell? ⟨gb190, 1, none⟩ = some (.int .i64 0) := (xaE BK190.out 1).trans rfl
    have hcz6_2 : wc.cell? ⟨gb190, 2, none⟩ = some (.int .i64 0) := (xaE BK190.out 2).trans rfl
    have hfz6_0 := xaD BK190.out 0;have hfz6_1 := xaD BK190.out 1;have hfz6_2 := xaD BK190.out 2
    go_wp2
    refine bodyPost_ret (xeB rfl _ _ gb190 115 #[.int .i64 0, .int .i64 0, .int .i64 0] (0, 0) _ rfl (by (with_reducible repeat (first | refine xaG ?_ _ | refine xaJ ?_ | refine xaH ?_ _)); refine xcH (cs := #[.int .i64 0, .int .i64 0, .int .i64 0]) ?_ 2 _ rfl; (with_reducible repeat (first | refine xaG ?_ _ | refine xaJ ?_ | refine xaH ?_ _)); refine xcH (cs := #[.int .i64 0, .int .i64 0, .int .i64 0]) ?_ 1 _ rfl; (with_reducible repeat (first | refine xaG ?_ _ | refine xaJ ?_ | refine xaH ?_ _)); refine xcH (cs := #[.int .i64 0, .int .i64 0, .int .i64 0]) ?_ 0 _ rfl; (with_reducible repeat (first | refine xaG ?_ _ | refine xaJ ?_ | refine xaH ?_ _)); exact BK190.out) Try.underlying115 rfl (by kernel_rfl)) rfl ?_
    exact ⟨by first | rfl | (simp [xaL, xaK] <;> rfl) | (simp [*, xaL, xaK] <;> rfl), by repeat (first | (with_reducible first | exact HB.out | apply xaB | apply xaA | apply xaC | refine xaF ?_ GE190.out) | exact HB.out)⟩
   ·
    replace c5 := Bool.eq_false_iff.mpr c5;subst c5
    have H1 : (xaT.l0 kj1 a0 1900) = some (r1, r2, r3, r4) := by rw [if_neg (show ¬ (false = true) by decide)] at H; exact H
    clear H;have H := H1;clear H1;have HC7 := Aside0.mk H;clear H
    go_upto_block 0 with (fail)
    go_cut [0, 4] (fun v0 v4 wc => ∃ (kq : Nat) (x0_6 : Int) (x4_6 : Int), v0 = .int .i64 x0_6 ∧ v4 = .int .i64 x4_6 ∧ Aside0 (xaT.j2 kq x0_6 x4_6 = some (r1, r2, r3, r4)) ∧ Aside0 (kq ≤ kj1) ∧ Aside0 (wc.heap[gb190]? = some (.cells #[.int .i64 0, .int .i64 0, .int .i64 0] 115 (0, 0))) ∧ Aside0 (Below w.heap.size w wc))
    case first =>
     have H := HC7.out;clear HC7;have H' := Aside0.mk H;clear H
     go_wp2
     go_loopg [0, 4] kj1 (fun kq v0 v4 w' => ∃ (x0_2 : Int) (x4_2 : Int), v0 = .int .i64 x0_2 ∧ v4 = .int .i64 x4_2 ∧ Aside0 (xaT.l0 kq x0_2 x4_2 = some (r1, r2, r3, r4)) ∧ Aside0 (kq ≤ kj1) ∧ Aside0 (w'.heap[gb190]? = some (.cells #[.int .i64 0, .int .i64 0, .int .i64 0] 115 (0, 0))) ∧ Aside0 (Below w.heap.size w w'))
     case atStart => exact ⟨(a0), (1900), (by first | rfl | (simp; done) | (simp [*]; done)), (by first | rfl | (simp; done) | (simp [*]; done)), H', ⟨Nat.le_refl _⟩, ⟨by (with_reducible repeat (first | refine xaG ?_ _ | refine xaJ ?_ | refine xaH ?_ _)); exact BK190.out⟩, ⟨by repeat (first | (with_reducible first | exact HB.out | apply xaB | apply xaA | apply xaC | refine xaF ?_ GE190.out) | exact HB.out)⟩⟩
     case round =>
      clear H'
      obtain ⟨x0_2, x4_2, rfl, rfl, HA, HK2, BK190, HB⟩ := hrel
      cases gk with
      | zero => exact absurd HA.out (by simp [xaT.l0])
      | succ k2 =>
       have H := HA.out;clear HA
       simp only [xaT.l0] at H
       replace H := Option.bind_eq_some_iff.mp H
       obtain ⟨t191, A80, H⟩ := H
       replace H : (if t191 = true then (if x0_2 < 366 then (xaT.j2 k2 x0_2 x4_2) else (xaT.l0 k2 (wrap64 (x0_2 - 366)) (wrap64 (x4_2 + 1)))) else (if x0_2 < 365 then (xaT.j2 k2 x0_2 x4_2) else (xaT.l0 k2 (wrap64 (x0_2 - 365)) (wrap64 (x4_2 + 1))))) = some (r1, r2, r3, r4) := H
       have A8 := Aside0.mk A80;clear A80
       by_cases c9 : t191 = true
       ·
        subst c9
        have H1 : (if x0_2 < 366 then (xaT.j2 k2 x0_2 x4_2) else (xaT.l0 k2 (wrap64 (x0_2 - 366)) (wrap64 (x4_2 + 1)))) = some (r1, r2, r3, r4) := by rw [if_pos rfl] at H; exact H
        clear H;have H := H1;clear H1
        by_cases c10 : x0_2 < 366
        ·
         rw [if_pos c10] at H
         have c10b0 : decide (x0_2 < 366) = true := decide_eq_true c10
         clear c10
         (first | rw [c10b0] | (simp only [i64_w, i32_w]; rw [c10b0]) | skip)
         have H' := Aside0.mk H;clear H
         go_wp2_with (first | ((with_reducible refine xaQ (f := 98) rfl ?_); refine goesL_ (some 15) rfl rfl Try.func98 (by kernel_rfl) rfl #[.int .i64 x4_2] rfl (by (try simp only [List.map_toArray, List.map_cons, List.map_nil]); first | done | rfl | (simp only [List.length_drop, List.length_take]; rfl)) ?_; (with_reducible refine (xbV.calls x4_2 true _ A8.out).mono ?_); rintro e w' ⟨rfl, ⟨nd, rfl⟩⟩; refine ⟨_, rfl, ?_⟩))
         go_meet
         case rel => exact ⟨_, (x0_2), (x4_2), (by first | rfl | (simp; done) | (simp [*]; done)), (by first | rfl | (simp; done) | (simp [*]; done)), H', ⟨by have := HJ1.out; have := HK2.out; first | omega | exact Nat.le_refl _⟩, ⟨by (with_reducible repeat (first | refine xaG ?_ _ | refine xaJ ?_ | refine xaH ?_ _)); exact BK190.out⟩, ⟨by repeat (first | (with_reducible first | exact HB.out | apply xaB | apply xaA | apply xaC | refine xaF ?_ GE190.out) | exact HB.out)⟩⟩
        ·
         rw [if_neg c10] at H
         have c10b0 : decide (x0_2 < 366) = false := decide_eq_false c10
         clear c10
         (first | rw [c10b0] | (simp only [i64_w, i32_w]; rw [c10b0]) | skip)
         have H' := Aside0.mk H;clear H
         go_wp2_with (first | ((with_reducible refine xaQ (f := 98) rfl ?_); refine goesL_ (some 15) rfl rfl Try.func98 (by kernel_rfl) rfl #[.int .i64 x4_2] rfl (by (try simp only [List.map_toArray, List.map_cons, List.map_nil]); first | done | rfl | (simp only [List.length_drop, List.length_take]; rfl)) ?_; (with_reducible refine (xbV.calls x4_2 true _ A8.out).mono ?_); rintro e w' ⟨rfl, ⟨nd, rfl⟩⟩; refine ⟨_, rfl, ?_⟩))
         go_roundg k2
         case measure => have := HJ1.out; have := HK2.out; omega
         case rel => exact ⟨(wrap64 (x0_2 - 366)), (wrap64 (x4_2 + 1)), (by first | rfl | (simp; done) | (simp [*]; done)), (by first | rfl | (simp; done) | (simp [*]; done)), H', ⟨by have := HJ1.out; have := HK2.out; omega⟩, ⟨by (with_reducible repeat (first | refine xaG ?_ _ | refine xaJ ?_ | refine xaH ?_ _)); exact BK190.out⟩, ⟨by repeat (first | (with_reducible first | exact HB.out | apply xaB | apply xaA | apply xaC | refine xaF ?_ GE190.out) | exact HB.out)⟩⟩
       ·
        replace c9 := Bool.eq_false_iff.mpr c9;subst c9
        have H1 : (if x0_2 < 365 then (xaT.j2 k2 x0_2 x4_2) else (xaT.l0 k2 (wrap64 (x0_2 - 365)) (wrap64 (x4_2 + 1)))) = some (r1, r2, r3, r4) := by rw [if_neg (show ¬ (false = true) by decide)] at H; exact H
        clear H;have H := H1;clear H1
        by_cases c11 : x0_2 < 365
        ·
         rw [if_pos c11] at H
         have c11b0 : decide (x0_2 < 365) = true := decide_eq_true c11
         clear c11;have H' := Aside0.mk H;clear H
         go_wp2_with (first | ((with_reducible refine xaQ (f := 98) rfl ?_); refine goesL_ (some 15) rfl rfl Try.func98 (by kernel_rfl) rfl #[.int .i64 x4_2] rfl (by (try simp only [List.map_toArray, List.map_cons, List.map_nil]); first | done | rfl | (simp only [List.length_drop, List.length_take]; rfl)) ?_; (with_reducible refine (xbV.calls x4_2 false _ A8.out).mono ?_); rintro e w' ⟨rfl, ⟨nd, rfl⟩⟩; refine ⟨_, rfl, ?_⟩))
         go_meet
         case rel => exact ⟨_, (x0_2), (x4_2), (by first | rfl | (simp; done) | (simp [*]; done)), (by first | rfl | (simp; done) | (simp [*]; done)), H', ⟨by have := HJ1.out; have := HK2.out; first | omega | exact Nat.le_refl _⟩, ⟨by (with_reducible repeat (first | refine xaG ?_ _ | refine xaJ ?_ | refine xaH ?_ _)); exact BK190.out⟩, ⟨by repeat (first | (with_reducible first | exact HB.out | apply xaB | apply xaA | apply xaC | refine xaF ?_ GE190.out) | exact HB.out)⟩⟩
        ·
         rw [if_neg c11] at H
         have c11b0 : decide (x0_2 < 365) = false := decide_eq_false c11
         clear c11;have H' := Aside0.mk H;clear H
         go_wp2_with (first | ((with_reducible refine xaQ (f := 98) rfl ?_); refine goesL_ (some 15) rfl rfl Try.func98 (by kernel_rfl) rfl #[.int .i64 x4_2] rfl (by (try simp only [List.map_toArray, List.map_cons, List.map_nil]); first | done | rfl | (simp only [List.length_drop, List.length_take]; rfl)) ?_; (with_reducible refine (xbV.calls x4_2 false _ A8.out).mono ?_); rintro e w' ⟨rfl, ⟨nd, rfl⟩⟩; refine ⟨_, rfl, ?_⟩))
         go_roundg k2
         case measure => have := HJ1.out; have := HK2.out; omega
         case rel => exact ⟨(wrap64 (x0_2 - 365)), (wrap64 (x4_2 + 1)), (by first | rfl | (simp; done) | (simp [*]; done)), (by first | rfl | (simp; done) | (simp [*]; done)), H', ⟨by have := HJ1.out; have := HK2.out; omega⟩, ⟨by (with_reducible repeat (first | refine xaG ?_ _ | refine xaJ ?_ | refine xaH ?_ _)); exact BK190.out⟩, ⟨by repeat (first | (with_reducible first | exact HB.out | apply xaB | apply xaA | apply xaC | refine xaF ?_ GE190.out) | exact HB.out)⟩⟩
    case rest =>
     clear HC7
     obtain ⟨kq, x0_6, x4_6, rfl, rfl, HA, HJ6, BK190, HB⟩ := hcut
     cases kq with
     | zero => exact absurd HA.out (by simp [xaT.j2])
     | succ kj6 =>
      have H := HA.out;clear HA
      simp only [xaT.j2] at H
      have H' := Aside0.mk H;clear H
      go_wp2
      go_loopg [0, 6] kj6 (fun kq v0 v6 w' => ∃ (x0_3 : Int) (x6_3 : Int), v0 = .int .i64 x0_3 ∧ v6 = .int .i64 x6_3 ∧ Aside0 (xaT.l1 kq x0_3 x4_6 x6_3 = some (r1, r2, r3, r4)) ∧ Aside0 (kq ≤ kj6) ∧ Aside0 (w'.heap[gb190]? = some (.cells #[.int .i64 0, .int .i64 0, .int .i64 0] 115 (0, 0))) ∧ Aside0 (Below w.heap.size w w'))
      case atStart => exact ⟨(x0_6), (1), (by first | rfl | (simp; done) | (simp [*]; done)), (by first | rfl | (simp; done) | (simp [*]; done)), H', ⟨Nat.le_refl _⟩, ⟨by (with_reducible repeat (first | refine xaG ?_ _ | refine xaJ ?_ | refine xaH ?_ _)); exact BK190.out⟩, ⟨by repeat (first | (with_reducible first | exact HB.out | apply xaB | apply xaA | apply xaC | refine xaF ?_ GE190.out) | exact HB.out)⟩⟩
      case round =>
       clear H'
       obtain ⟨x0_3, x6_3, rfl, rfl, HA, HK3, BK190, HB⟩ := hrel
       cases gk with
       | zero => exact absurd HA.out (by simp [xaT.l1])
       | succ k3 =>
        have H := HA.out;clear HA
        simp only [xaT.l1] at H
        replace H := Option.bind_eq_some_iff.mp H
        obtain ⟨t192, A120, H⟩ := H
        replace H : (if x0_3 ≥ t192 then ((xbN.f k3 x4_6 x6_3).bind fun t193 => (xaT.l1 k3 (wrap64 (x0_3 - t193)) x4_6 (wrap64 (x6_3 + 1)))) else (some (x4_6, x6_3, wrap64 (x0_3 + 1), 0))) = some (r1, r2, r3, r4) := H
        have A12 := Aside0.mk A120;clear A120
        by_cases c13 : x0_3 ≥ t192
        ·
         rw [if_pos c13] at H
         have c13b0 : decide (t192 ≤ x0_3) = true := decide_eq_true c13
         clear c13;replace H := Option.bind_eq_some_iff.mp H
         obtain ⟨t193, A140, H⟩ := H
         replace H : (xaT.l1 k3 (wrap64 (x0_3 - t193)) x4_6 (wrap64 (x6_3 + 1))) = some (r1, r2, r3, r4) := H
         have A14 := Aside0.mk A140;clear A140;have H' := Aside0.mk H;clear H
         go_wp2_with (first | ((with_reducible refine xaQ (f := 124) rfl ?_); refine goesL_ (some 27) rfl rfl Try.func124 (by kernel_rfl) rfl #[.int .i64 x4_6, .int .i64 x6_3] rfl (by (try simp only [List.map_toArray, List.map_cons, List.map_nil]); first | done | rfl | (simp only [List.length_drop, List.length_take]; rfl)) ?_; (with_reducible refine (xbN.calls k3 x4_6 x6_3 t192 _ A12.out).mono ?_); rintro e w' ⟨rfl, ⟨nd, rfl⟩⟩; refine ⟨_, rfl, ?_⟩) | ((with_reducible refine xaQ (f := 124) rfl ?_); refine goesL_ (some 32) rfl rfl Try.func124 (by kernel_rfl) rfl #[.int .i64 x4_6, .int .i64 x6_3] rfl (by (try simp only [List.map_toArray, List.map_cons, List.map_nil]); first | done | rfl | (simp only [List.length_drop, List.length_take]; rfl)) ?_; (with_reducible refine (xbN.calls k3 x4_6 x6_3 t193 _ A14.out).mono ?_); rintro e w' ⟨rfl, ⟨nd, rfl⟩⟩; refine ⟨_, rfl, ?_⟩))
         go_roundg k3
         case measure => have := HJ1.out; have := HJ6.out; have := HK3.out; omega
         case rel => exact ⟨(wrap64 (x0_3 - t193)), (wrap64 (x6_3 + 1)), (by first | rfl | (simp; done) | (simp [*]; done)), (by first | rfl | (simp; done) | (simp [*]; done)), H', ⟨by have := HJ1.out; have := HJ6.out; have := HK3.out; omega⟩, ⟨by (with_reducible repeat (first | refine xaG ?_ _ | refine xaJ ?_ | refine xaH ?_ _)); exact BK190.out⟩, ⟨by repeat (first | (with_reducible first | exact HB.out | apply xaB | apply xaA | apply xaC | refine xaF ?_ GE190.out) | exact HB.out)⟩⟩
        ·
         rw [if_neg c13] at H
         have c13b0 : decide (t192 ≤ x0_3) = false := decide_eq_false c13
         clear c13
         simp only [Option.some.injEq, Prod.mk.injEq] at H
         obtain ⟨rfl, rfl, rfl, rfl⟩ := H
         go_wp2_with (first | ((with_reducible refine xaQ (f := 124) rfl ?_); refine goesL_ (some 27) rfl rfl Try.func124 (by kernel_rfl) rfl #[.int .i64 x4_6, .int .i64 x6_3] rfl (by (try simp only [List.map_toArray, List.map_cons, List.map_nil]); first | done | rfl | (simp only [List.length_drop, List.length_take]; rfl)) ?_; (with_reducible refine (xbN.calls k3 x4_6 x6_3 t192 _ A12.out).mono ?_); rintro e w' ⟨rfl, ⟨nd, rfl⟩⟩; refine ⟨_, rfl, ?_⟩; (try (rw [xeZ wr]; generalize hq_ : World.drewN wr _ = wr; have n0_ : Aside0 (wr.heap[gb190]? = some (.cells #[.int .i64 0, .int .i64 0, .int .i64 0] 115 (0, 0))) := ⟨by rw [← hq_]; exact (by (with_reducible repeat (first | refine xaG ?_ _ | refine xaJ ?_ | refine xaH ?_ _)); exact BK190.out)⟩; have n1_ : Aside0 (Below w.heap.size w wr) := ⟨by rw [← hq_]; exact (by repeat (first | (with_reducible first | exact HB.out | apply xaB | apply xaA | apply xaC | refine xaF ?_ GE190.out) | exact HB.out))⟩; clear BK190 HB hq_; have BK190 := n0_; have HB := n1_; clear n0_ n1_)); have hcz15_0 : wr.cell? ⟨gb190, 0, none⟩ = some (.int .i64 0) := (xaE BK190.out 0).trans rfl; have hcz15_1 : wr.cell? ⟨gb190, 1, none⟩ = some (.int .i64 0) := (xaE BK190.out 1).trans rfl; have hcz15_2 : wr.cell? ⟨gb190, 2, none⟩ = some (.int .i64 0) := (xaE BK190.out 2).trans rfl; have hfz15_0 := xaD BK190.out 0; have hfz15_1 := xaD BK190.out 1; have hfz15_2 := xaD BK190.out 2))
         refine bodyPost_ret (xeB rfl _ _ gb190 115 #[.int .i64 x4_6, .int .i64 x6_3, .int .i64 (wrap64 (x0_3 + 1))] (0, 0) _ rfl (by (with_reducible repeat (first | refine xaG ?_ _ | refine xaJ ?_ | refine xaH ?_ _)); refine xcH (cs := #[.int .i64 x4_6, .int .i64 x6_3, .int .i64 0]) ?_ 2 _ rfl; (with_reducible repeat (first | refine xaG ?_ _ | refine xaJ ?_ | refine xaH ?_ _)); refine xcH (cs := #[.int .i64 x4_6, .int .i64 0, .int .i64 0]) ?_ 1 _ rfl; (with_reducible repeat (first | refine xaG ?_ _ | refine xaJ ?_ | refine xaH ?_ _)); refine xcH (cs := #[.int .i64 0, .int .i64 0, .int .i64 0]) ?_ 0 _ rfl; (with_reducible repeat (first | refine xaG ?_ _ | refine xaJ ?_ | refine xaH ?_ _)); exact BK190.out) Try.underlying115 rfl (by kernel_rfl)) rfl ?_
         exact ⟨by first | rfl | (simp [xaL, xaK] <;> rfl) | (simp [*, xaL, xaK] <;> rfl), by repeat (first | (with_reducible first | exact HB.out | apply xaB | apply xaA | apply xaC | refine xaF ?_ GE190.out) | exact HB.out)⟩
end Go.Proofs.Ytoncignjcgjhhaa.Q
namespace Go.Proofs.Ytoncignjcgjhhaa.Q
open Go.RowKit Go.Proofs.YtoncignjcgjhhaaW.PrintWords Go.Proofs.YtoncignjcgjhhaaW.PrintLast Go.Proofs.YtoncignjcgjhhaaW.PrintMore
attribute [local go_sem] xcC xcB xcR xcQ xbX xbW xcF xcE   -- for this text's walks alone
def xcV.f (k : Nat) (a0 : Int) (a1 : Int) : Option (Int × Int) := if a0 < 1900 then (some (0, 50)) else (if a0 > 2199 then (some (0, 50)) else (if a1 < 1 then (some (0, 50)) else (if a1 > 12 then (some (0, 50)) else ((xbN.f k a0 a1).bind fun t194 => (some (t194, 0))))))
set_option maxHeartbeats 8000000 in
set_option maxRecDepth 100000 in
theorem xcV.calls (k : Nat) (a0 : Int) (a1 : Int) (r1 : Int) (r2 : Int) (w : World) (h : xcV.f k a0 a1 = some (r1, r2)) :
  Calls Try.prog 117 #[.int .i64 a0, .int .i64 a1] w fun e w' => e = .returned (.tuple #[.int .i64 r1, .int .i64 r2]) ∧ Drawn0 w w' := by
 have H : (if a0 < 1900 then (some (0, 50)) else (if a0 > 2199 then (some (0, 50)) else (if a1 < 1 then (some (0, 50)) else (if a1 > 12 then (some (0, 50)) else ((xbN.f k a0 a1).bind fun t194 => (some (t194, 0))))))) = some (r1, r2) := h
 clear h
 by_cases c3 : a0 < 1900
 ·
  rw [if_pos c3] at H
  have c3b0 : decide (a0 < 1900) = true := decide_eq_true c3
  clear c3
  simp only [Option.some.injEq, Prod.mk.injEq] at H
  obtain ⟨rfl, rfl⟩ := H
  go_enter Try.func117, Try.ntmps117
  go_wp2
  go_ret2
  exact ⟨by first | rfl | (simp; done) | (simp [*]; done), by repeat (first | exact Drawn0.refl _ | apply Drawn0.step)⟩
 ·
  rw [if_neg c3] at H
  have c3b0 : decide (a0 < 1900) = false := decide_eq_false c3
  clear c3
  by_cases c4 : a0 > 2199
  ·
   rw [if_pos c4] at H
   have c4b0 : decide (2199 < a0) = true := decide_eq_true c4
   clear c4
   simp only [Option.some.injEq, Prod.mk.injEq] at H
   obtain ⟨rfl, rfl⟩ := H
   go_enter Try.func117, Try.ntmps117
   go_wp2
   go_ret2
   exact ⟨by first | rfl | (simp; done) | (simp [*]; done), by repeat (first | exact Drawn0.refl _ | apply Drawn0.step)⟩
  ·
   rw [if_neg c4] at H
   have c4b0 : decide (2199 < a0) = false := decide_eq_false c4
   clear c4
   by_cases c5 : a1 < 1
   ·
    rw [if_pos c5] at H
    have c5b0 : decide (a1 < 1) = true := decide_eq_true c5
    clear c5
    simp only [Option.some.injEq, Prod.mk.injEq] at H
    obtain ⟨rfl, rfl⟩ := H
    go_enter Try.func117, Try.ntmps117
    go_wp2
    go_ret2
    exact ⟨by first | rfl | (simp; done) | (simp [*]; done), by repeat (first | exact Drawn0.refl _ | apply Drawn0.step)⟩
   ·
    rw [if_neg c5] at H
    have c5b0 : decide (a1 < 1) = false := decide_eq_false c5
    clear c5
    by_cases c6 : a1 > 12
    ·
     rw [if_pos c6] at H
     have c6b0 : decide (12 < a1) = true := decide_eq_true c6
     clear c6
     simp only [Option.some.injEq, Prod.mk.injEq] at H
     obtain ⟨rfl, rfl⟩ := H
     go_enter Try.func117, Try.ntmps117
     go_wp2
     go_ret2
     exact ⟨by first | rfl | (simp; done) | (simp [*]; done), by repeat (first | exact Drawn0.refl _ | apply Drawn0.step)⟩
    ·
     rw [if_neg c6] at H
     have c6b0 : decide (12 < a1) = false := decide_eq_false c6
     clear c6;replace H := Option.bind_eq_some_iff.mp H
     obtain ⟨t194, A70, H⟩ := H
     replace H : (some (t194, 0)) = some (r1, r2) := H
     have A7 := Aside0.mk A70;clear A70
     simp only [Option.some.injEq, Prod.mk.injEq] at H
     obtain ⟨rfl, rfl⟩ := H
     go_enter Try.func117, Try.ntmps117
     go_wp2_with (first | ((with_reducible refine xaQ (f := 124) rfl ?_); refine goesL_ (some 22) rfl rfl Try.func124 (by kernel_rfl) rfl #[.int .i64 a0, .int .i64 a1] rfl (by (try simp only [List.map_toArray, List.map_cons, List.map_nil]); first | done | rfl | (simp only [List.length_drop, List.length_take]; rfl)) ?_; (with_reducible refine (xbN.calls k a0 a1 t194 _ A7.out).mono ?_); rintro e w' ⟨rfl, ⟨nd, rfl⟩⟩; refine ⟨_, rfl, ?_⟩))
     go_ret2
     exact ⟨by first | rfl | (simp; done) | (simp [*]; done), by repeat (first | exact Drawn0.refl _ | apply Drawn0.step)⟩
mutual
def xbG.j0 : Nat → Int → Int → Int → Bool → Option (Int × Int)
  | 0, _, _, _, _ => none
  | k + 1, x0, x1, x2, x29 => if x29 = true then (some (0, 50)) else (xbG.l0 k x0 x1 (wrap64 (x2 - 1)) 1900)
def xbG.l0 : Nat → Int → Int → Int → Int → Option (Int × Int)
  | 0, _, _, _, _ => none
  | k + 1, x0, x1, x10, x11 => if x11 < x0 then ((xbV.f x11).bind fun t197 => (if t197 = true then (xbG.l0 k x0 x1 (wrap64 ((wrap64 (x10 + 365)) + 1)) (wrap64 (x11 + 1))) else (xbG.l0 k x0 x1 (wrap64 (x10 + 365)) (wrap64 (x11 + 1))))) else (xbG.l1 k x0 x1 x10 1)
def xbG.l1 : Nat → Int → Int → Int → Int → Option (Int × Int)
  | 0, _, _, _, _ => none
  | k + 1, x0, x1, x10, x12 => if x12 < x1 then ((xbN.f k x0 x12).bind fun t198 => (xbG.l1 k x0 x1 (wrap64 (x10 + t198)) (wrap64 (x12 + 1)))) else (some (x10, 0))
end
def xbG.f (k : Nat) (a0 : Int) (a1 : Int) (a2 : Int) : Option (Int × Int) := (xcV.f k a0 a1).bind fun bt195 => (if bt195.2 = 0 then (if a2 < 1 then (xbG.j0 k a0 a1 a2 true) else (xbG.j0 k a0 a1 a2 (decide (a2 > bt195.1)))) else (xbG.j0 k a0 a1 a2 true))
set_option maxHeartbeats 8000000 in
set_option maxRecDepth 100000 in
theorem xbG.calls (k : Nat) (a0 : Int) (a1 : Int) (a2 : Int) (r1 : Int) (r2 : Int) (w : World) (h : xbG.f k a0 a1 a2 = some (r1, r2)) :
  Calls Try.prog 97 #[.int .i64 a0, .int .i64 a1, .int .i64 a2] w fun e w' => e = .returned (.tuple #[.int .i64 r1, .int .i64 r2]) ∧ Drawn0 w w' := by
 have H : ((xcV.f k a0 a1).bind fun bt195 => (if bt195.2 = 0 then (if a2 < 1 then (xbG.j0 k a0 a1 a2 true) else (xbG.j0 k a0 a1 a2 (decide (a2 > bt195.1)))) else (xbG.j0 k a0 a1 a2 true))) = some (r1, r2) := h
 clear h;replace H := Option.bind_eq_some_iff.mp H
 obtain ⟨⟨t195, t196⟩, A40, H⟩ := H
 replace H : (if t196 = 0 then (if a2 < 1 then (xbG.j0 k a0 a1 a2 true) else (xbG.j0 k a0 a1 a2 (decide (a2 > t195)))) else (xbG.j0 k a0 a1 a2 true)) = some (r1, r2) := H
 have A4 := Aside0.mk A40;clear A40;have HC5 := Aside0.mk H;clear H
 go_enter Try.func97, Try.ntmps97
 go_upto_region 2 with (first | ((with_reducible refine xaQ (f := 117) rfl ?_); refine goesL_ (some 16) rfl rfl Try.func117 (by kernel_rfl) rfl #[.int .i64 a0, .int .i64 a1] rfl (by (try simp only [List.map_toArray, List.map_cons, List.map_nil]); first | done | rfl | (simp only [List.length_drop, List.length_take]; rfl)) ?_; (with_reducible refine (xcV.calls k a0 a1 t195 t196 _ A4.out).mono ?_); rintro e w' ⟨rfl, ⟨nd, rfl⟩⟩; refine ⟨_, rfl, ?_⟩))
 (try simp only [Act.put, List.setIfInBounds_toArray, List.set_cons_zero, List.set_cons_succ])
 go_cut [29] (fun v29 wc => ∃ (kq : Nat) (x29_4 : Bool), v29 = .bool x29_4 ∧ Aside0 (xbG.j0 kq a0 a1 a2 x29_4 = some (r1, r2)) ∧ Aside0 (kq ≤ k) ∧ Drawn0 w wc)
 case first =>
  have H := HC5.out;clear HC5
  by_cases c6 : t196 = 0
  ·
   rw [if_pos c6] at H
   have c6b0 : (t196 == 0) = true := beq_iff_eq.mpr c6
   have c6b1 : (t196 != 0) = false := bne_eq_false_iff_eq.mpr c6
   clear c6
   (first | rw [c6b0] | (simp only [i64_w, i32_w]; rw [c6b0]) | skip)
   by_cases c7 : a2 < 1
   ·
    rw [if_pos c7] at H
    have c7b0 : decide (a2 < 1) = true := decide_eq_true c7
    clear c7;have H' := Aside0.mk H;clear H
    go_wp2
    go_meet
    case rel => exact ⟨_, (true), (by first | rfl | (simp; done) | (simp [*]; done)), H', ⟨by first | omega | exact Nat.le_refl _⟩, by repeat (first | exact Drawn0.refl _ | apply Drawn0.step)⟩
   ·
    rw [if_neg c7] at H
    have c7b0 : decide (a2 < 1) = false := decide_eq_false c7
    clear c7;have H' := Aside0.mk H;clear H
    go_wp2
    go_meet
    case rel => exact ⟨_, (decide (a2 > t195)), (by first | rfl | (simp; done) | (simp [*]; done)), H', ⟨by first | omega | exact Nat.le_refl _⟩, by repeat (first | exact Drawn0.refl _ | apply Drawn0.step)⟩
  ·
   rw [if_neg c6] at H
   have c6b0 : (t196 == 0) = false := beq_eq_false_iff_ne.mpr c6
   have c6b1 : (t196 != 0) = true := bne_iff_ne.mpr c6
   (first | rw [c6b0] | (simp only [i64_w, i32_w]; rw [c6b0]) | skip)
   have H' := Aside0.mk H;clear H
   go_wp2
   go_meet
   case rel => exact ⟨_, (true), (by first | rfl | (simp; done) | (simp [*]; done)), H', ⟨by first | omega | exact Nat.le_refl _⟩, by repeat (first | exact Drawn0.refl _ | apply Drawn0.step)⟩
 case rest =>
  clear HC5
  obtain ⟨kq, x29_4, rfl, HA, HJ4, ⟨mc4, rfl⟩⟩ := hcut
  cases kq with
  | zero => exact absurd HA.out (by simp [xbG.j0])
  | succ kj4 =>
   have H := HA.out;clear HA
   simp only [xbG.j0] at H
   by_cases c8 : x29_4 = true
   ·
    subst c8
    have H1 : (some (0, 50)) = some (r1, r2) := by rw [if_pos rfl] at H; exact H
    clear H;have H := H1;clear H1
    simp only [Option.some.injEq, Prod.mk.injEq] at H
    obtain ⟨rfl, rfl⟩ := H
    go_wp2
    go_ret2
    exact ⟨by first | rfl | (simp; done) | (simp [*]; done), by repeat (first | exact Drawn0.refl _ | apply Drawn0.step)⟩
   ·
    replace c8 := Bool.eq_false_iff.mpr c8;subst c8
    have H1 : (xbG.l0 kj4 a0 a1 (wrap64 (a2 - 1)) 1900) = some (r1, r2) := by rw [if_neg (show ¬ (false = true) by decide)] at H; exact H
    clear H;have H := H1;clear H1;have H' := Aside0.mk H;clear H
    go_wp2
    go_loopg [10, 11] kj4 (fun kq v10 v11 w' => ∃ (x10_2 : Int) (x11_2 : Int), v10 = .int .i64 x10_2 ∧ v11 = .int .i64 x11_2 ∧ Aside0 (xbG.l0 kq a0 a1 x10_2 x11_2 = some (r1, r2)) ∧ Aside0 (kq ≤ kj4) ∧ Drawn0 w w')
    case atStart => exact ⟨(wrap64 (a2 - 1)), (1900), (by first | rfl | (simp; done) | (simp [*]; done)), (by first | rfl | (simp; done) | (simp [*]; done)), H', ⟨Nat.le_refl _⟩, by repeat (first | exact Drawn0.refl _ | apply Drawn0.step)⟩
    case round =>
     clear H'
     obtain ⟨x10_2, x11_2, rfl, rfl, HA, HK2, ⟨m2, rfl⟩⟩ := hrel
     cases gk with
     | zero => exact absurd HA.out (by simp [xbG.l0])
     | succ k2 =>
      have H := HA.out;clear HA
      simp only [xbG.l0] at H
      by_cases c9 : x11_2 < a0
      ·
       rw [if_pos c9] at H
       have c9b0 : decide (x11_2 < a0) = true := decide_eq_true c9
       clear c9;replace H := Option.bind_eq_some_iff.mp H
       obtain ⟨t197, A100, H⟩ := H
       replace H : (if t197 = true then (xbG.l0 k2 a0 a1 (wrap64 ((wrap64 (x10_2 + 365)) + 1)) (wrap64 (x11_2 + 1))) else (xbG.l0 k2 a0 a1 (wrap64 (x10_2 + 365)) (wrap64 (x11_2 + 1)))) = some (r1, r2) := H
       have A10 := Aside0.mk A100;clear A100
       by_cases c11 : t197 = true
       ·
        subst c11
        have H1 : (xbG.l0 k2 a0 a1 (wrap64 ((wrap64 (x10_2 + 365)) + 1)) (wrap64 (x11_2 + 1))) = some (r1, r2) := by rw [if_pos rfl] at H; exact H
        clear H;have H := H1;clear H1;have H' := Aside0.mk H;clear H
        go_wp2_with (first | ((with_reducible refine xaQ (f := 98) rfl ?_); refine goesL_ (some 40) rfl rfl Try.func98 (by kernel_rfl) rfl #[.int .i64 x11_2] rfl (by (try simp only [List.map_toArray, List.map_cons, List.map_nil]); first | done | rfl | (simp only [List.length_drop, List.length_take]; rfl)) ?_; (with_reducible refine (xbV.calls x11_2 true _ A10.out).mono ?_); rintro e w' ⟨rfl, ⟨nd, rfl⟩⟩; refine ⟨_, rfl, ?_⟩))
        go_roundg k2
        case measure => have := HJ4.out; have := HK2.out; omega
        case rel => exact ⟨(wrap64 ((wrap64 (x10_2 + 365)) + 1)), (wrap64 (x11_2 + 1)), (by first | rfl | (simp; done) | (simp [*]; done)), (by first | rfl | (simp; done) | (simp [*]; done)), H', ⟨by have := HJ4.out; have := HK2.out; omega⟩, by repeat (first | exact Drawn0.refl _ | apply Drawn0.step)⟩
       ·
        replace c11 := Bool.eq_false_iff.mpr c11;subst c11
        have H1 : (xbG.l0 k2 a0 a1 (wrap64 (x10_2 + 365)) (wrap64 (x11_2 + 1))) = some (r1, r2) := by rw [if_neg (show ¬ (false = true) by decide)] at H; exact H
        clear H;have H := H1;clear H1;have H' := Aside0.mk H;clear H
        go_wp2_with (first | ((with_reducible refine xaQ (f := 98) rfl ?_); refine goesL_ (some 40) rfl rfl Try.func98 (by kernel_rfl) rfl #[.int .i64 x11_2] rfl (by (try simp only [List.map_toArray, List.map_cons, List.map_nil]); first | done | rfl | (simp only [List.length_drop, List.length_take]; rfl)) ?_; (with_reducible refine (xbV.calls x11_2 false _ A10.out).mono ?_); rintro e w' ⟨rfl, ⟨nd, rfl⟩⟩; refine ⟨_, rfl, ?_⟩))
        go_roundg k2
        case measure => have := HJ4.out; have := HK2.out; omega
        case rel => exact ⟨(wrap64 (x10_2 + 365)), (wrap64 (x11_2 + 1)), (by first | rfl | (simp; done) | (simp [*]; done)), (by first | rfl | (simp; done) | (simp [*]; done)), H', ⟨by have := HJ4.out; have := HK2.out; omega⟩, by repeat (first | exact Drawn0.refl _ | apply Drawn0.step)⟩
      ·
       rw [if_neg c9] at H
       have c9b0 : decide (x11_2 < a0) = false := decide_eq_false c9
       clear c9;have H' := Aside0.mk H;clear H
       go_wp2
       go_loopg [10, 12] k2 (fun kq v10 v12 w' => ∃ (x10_3 : Int) (x12_3 : Int), v10 = .int .i64 x10_3 ∧ v12 = .int .i64 x12_3 ∧ Aside0 (xbG.l1 kq a0 a1 x10_3 x12_3 = some (r1, r2)) ∧ Aside0 (kq ≤ k2) ∧ Drawn0 w w')
       case atStart => exact ⟨(x10_2), (1), (by first | rfl | (simp; done) | (simp [*]; done)), (by first | rfl | (simp; done) | (simp [*]; done)), H', ⟨Nat.le_refl _⟩, by repeat (first | exact Drawn0.refl _ | apply Drawn0.step)⟩
       case round =>
        clear H'
        obtain ⟨x10_3, x12_3, rfl, rfl, HA, HK3, ⟨m3, rfl⟩⟩ := hrel
        cases gk with
        | zero => exact absurd HA.out (by simp [xbG.l1])
        | succ k3 =>
         have H := HA.out;clear HA
         simp only [xbG.l1] at H
         by_cases c12 : x12_3 < a1
         ·
          rw [if_pos c12] at H
          have c12b0 : decide (x12_3 < a1) = true := decide_eq_true c12
          clear c12;replace H := Option.bind_eq_some_iff.mp H
          obtain ⟨t198, A130, H⟩ := H
          replace H : (xbG.l1 k3 a0 a1 (wrap64 (x10_3 + t198)) (wrap64 (x12_3 + 1))) = some (r1, r2) := H
          have A13 := Aside0.mk A130;clear A130;have H' := Aside0.mk H;clear H
          go_wp2_with (first | ((with_reducible refine xaQ (f := 124) rfl ?_); refine goesL_ (some 51) rfl rfl Try.func124 (by kernel_rfl) rfl #[.int .i64 a0, .int .i64 x12_3] rfl (by (try simp only [List.map_toArray, List.map_cons, List.map_nil]); first | done | rfl | (simp only [List.length_drop, List.length_take]; rfl)) ?_; (with_reducible refine (xbN.calls k3 a0 x12_3 t198 _ A13.out).mono ?_); rintro e w' ⟨rfl, ⟨nd, rfl⟩⟩; refine ⟨_, rfl, ?_⟩))
          go_roundg k3
          case measure => have := HJ4.out; have := HK2.out; have := HK3.out; omega
          case rel => exact ⟨(wrap64 (x10_3 + t198)), (wrap64 (x12_3 + 1)), (by first | rfl | (simp; done) | (simp [*]; done)), (by first | rfl | (simp; done) | (simp [*]; done)), H', ⟨by have := HJ4.out; have := HK2.out; have := HK3.out; omega⟩, by repeat (first | exact Drawn0.refl _ | apply Drawn0.step)⟩
         ·
          rw [if_neg c12] at H
          have c12b0 : decide (x12_3 < a1) = false := decide_eq_false c12
          clear c12
          simp only [Option.some.injEq, Prod.mk.injEq] at H
          obtain ⟨rfl, rfl⟩ := H
          go_wp2
          go_ret2
          exact ⟨by first | rfl | (simp; done) | (simp [*]; done), by repeat (first | exact Drawn0.refl _ | apply Drawn0.step)⟩
end Go.Proofs.Ytoncignjcgjhhaa.Q
namespace Go.Proofs.Ytoncignjcgjhhaa.M
theorem gives_iff {we : Int} {r : Rul} {y x : Int} (h : gives we r y x = true) : (r.kind = 4 ∨ (r.from_ ≤ y ∧ y ≤ r.to_)) ∧ ∃ d, rday r y = some d ∧ moved we d r.mv = x := by
 unfold gives at h
 split at h
 ·
  rename_i hi
  refine ⟨hi, ?_⟩
  cases hd : rday r y with
  | none => rw [hd] at h; cases h
  | some d => rw [hd] at h; exact ⟨d, rfl, of_decide_eq_true h⟩
 ·
  cases h
theorem may_years {r : Rul} (h : may r = true) (hk : ¬ r.kind = 4) : 1900 ≤ r.from_ ∧ r.to_ ≤ 2199 := by
 unfold may at h
 have hy : xfA r = true := by
  split at h
  ·
   simp only [Bool.and_eq_true] at h; exact h.2
  ·
   split at h
   ·
    simp only [Bool.and_eq_true] at h; exact h.2
   ·
    split at h
    ·
     simp only [Bool.and_eq_true] at h; exact h.2
    ·
     cases h
 unfold xfA at hy
 have := of_decide_eq_true hy
 omega
theorem xgF {we : Int} {r : Rul} {y x : Int} (hm : may r = true) (h : gives we r y x = true) : 1900 ≤ y ∧ y ≤ 2199 := by
 obtain ⟨hi, d, hd, hx⟩ := gives_iff h
 by_cases hk : r.kind = 4
 ·
  unfold rday at hd
  rw [if_neg (by omega), if_neg (by omega), if_neg (by omega)] at hd
  split at hd
  ·
   rename_i hc
   unfold may at hm
   rw [if_neg (by omega), if_neg (by omega), if_neg (by omega), if_pos hk] at hm
   have := of_decide_eq_true hm
   have hs := xdN r.day (by omega) (by omega)
   unfold civY at hc; omega
  ·
   cases hd
 ·
  have := may_years hm hk
  rcases hi with hi | hi
  ·
   exact absurd hi hk
  ·
   omega
theorem xhU {r : Rul} {y d : Int} (hm : may r = true) (h0 : 1900 ≤ y) (h1 : y ≤ 2199) (h : rday r y = some d) : before y - 20 ≤ d ∧ d < before (y + 1) := by
 have hs := xdQ y;have hlp := lp_01 y
 unfold may at hm
 unfold rday at h
 by_cases k1 : r.kind = 1
 ·
  rw [if_pos k1] at hm h
  simp only [Bool.and_eq_true, decide_eq_true_eq] at hm
  by_cases hd : r.day ≤ mlen y r.month
  ·
   rw [if_pos hd] at h; injection h with h
   have := xfU (show isDate y r.month r.day from ⟨h0, h1, hm.1.1, hm.1.2.1, hm.1.2.2.2.2.2.1, hd⟩)
   omega
  ·
   rw [if_neg hd] at h; cases h
 ·
  rw [if_neg k1] at hm h
  by_cases k2 : r.kind = 2
  ·
   rw [if_pos k2] at hm h
   simp only [Bool.and_eq_true, decide_eq_true_eq] at hm
   injection h with h
   have hl := xeH y r.month
   have a1 := xfU (show isDate y r.month 1 from ⟨h0, h1, hm.1.2.2.1, hm.1.2.2.2.1, by omega, by omega⟩)
   have a2 := xfU (show isDate y r.month (mlen y r.month) from ⟨h0, h1, hm.1.2.2.1, hm.1.2.2.2.1, by omega, by omega⟩)
   unfold dayOf at a1 a2
   unfold nthDay dayOf at h
   simp only at h
   split at h <;> omega
  ·
   rw [if_neg k2] at hm h
   by_cases k3 : r.kind = 3
   ·
    rw [if_pos k3] at hm h
    simp only [Bool.and_eq_true, decide_eq_true_eq] at hm
    injection h with h
    obtain ⟨a, b, c, e⟩ := xfT y h0 h1
    have c3 : cum y 3 = 59 + lp y := by simp [cum]
    have c4 : cum y 4 = 90 + lp y := by simp [cum]
    unfold dayOf at b c
    omega
   ·
    rw [if_neg k3] at hm h
    by_cases k4 : r.kind = 4
    ·
     rw [if_pos k4] at hm
     simp only [decide_eq_true_eq] at hm
     split at h
     ·
      rename_i hc
      injection h with h
      have := xdN r.day (by omega) (by omega)
      unfold civY at hc
      rw [hc] at this
      omega
     ·
      cases h
    ·
     rw [if_neg k4] at hm; cases hm
theorem moved_near (we d mv : Int) : d - 7 ≤ moved we d mv ∧ moved we d mv ≤ d + 7 := by
 unfold moved
 have := xhF we d mv 6 1 (by omega)
 split
 ·
  omega
 ·
  split <;> omega
theorem gives_near {we : Int} {r : Rul} {y x : Int} (hm : may r = true) (h : gives we r y x = true) (h0 : 0 ≤ x) (h1 : x ≤ 109572) : y = civY x - 1 ∨ y = civY x ∨ y = civY x + 1 := by
 obtain ⟨a, b⟩ := xgF hm h
 obtain ⟨hi, d, hd, hx⟩ := gives_iff h
 have hn := xhU hm a b hd;have hv := moved_near we d r.mv
 obtain ⟨p, q, s, t⟩ := xdN x h0 h1
 have e : civY x = yearOf x := rfl
 rw [e]
 by_cases hl : yearOf x + 1 ≤ y - 1
 ·
  have h2 := xeD hl
  have h3 := xeD (show y - 1 ≤ y by omega)
  omega
 ·
  by_cases hg : y + 2 ≤ yearOf x
  ·
   have h2 := xeD hg
   have h3 := xeD (show y + 1 ≤ y + 2 by omega)
   omega
  ·
   omega
def Rel (we : Int) (l : List Rul) (S f : Int → Bool) : Prop := ∀ x, 0 ≤ x → x ≤ 109572 → (f x = true ↔ ∃ z, S z = true ∧ l.any (fun r => gives we r z x) = true)
theorem rel_hol {we : Int} {l : List Rul} {S f : Int → Bool} (hm : ∀ r ∈ l, may r = true) (h : Rel we l S f) {x : Int} (h0 : 0 ≤ x) (h1 : x ≤ 109572)
  (hS : ∀ z, civY x - 1 ≤ z → z ≤ civY x + 1 → 1900 ≤ z → z ≤ 2199 → S z = true) : f x = hol we l x := by
 rw [Bool.eq_iff_iff, h x h0 h1]
 unfold hol
 simp only [List.any_eq_true, Bool.or_eq_true]
 constructor
 ·
  rintro ⟨z, hz, r, hr, hg⟩
  refine ⟨r, hr, ?_⟩
  rcases gives_near (hm r hr) hg h0 h1 with e | e | e
  ·
   exact .inl (.inl (e ▸ hg))
  ·
   exact .inl (.inr (e ▸ hg))
  ·
   exact .inr (e ▸ hg)
 ·
  rintro ⟨r, hr, (hg | hg) | hg⟩
  ·
   have := xgF (hm r hr) hg
   exact ⟨_, hS _ (by omega) (by omega) this.1 this.2, r, hr, hg⟩
  ·
   have := xgF (hm r hr) hg
   exact ⟨_, hS _ (by omega) (by omega) this.1 this.2, r, hr, hg⟩
  ·
   have := xgF (hm r hr) hg
   exact ⟨_, hS _ (by omega) (by omega) this.1 this.2, r, hr, hg⟩
def isDay (n : Int) : Prop := 0 ≤ n ∧ n ≤ 109572
instance isDayDec (n : Int) : Decidable (isDay n) := inferInstanceAs (Decidable (0 ≤ n ∧ n ≤ 109572))
def nextF (we : Int) (l : List Rul) (d : Int) : Nat → Int → Int × Int
  | 0, _ => (0, 51)
  | f + 1, n => if isDay n then (if isOpen we l n = true then (n, 0) else nextF we l d f (n + d)) else (0, 51)
def next (we : Int) (l : List Rul) (n d : Int) : Int × Int := nextF we l d 109580 n
def month (n : Int) : Int := 12 * civY n + civM n
def kept (we : Int) (l : List Rul) (n d : Int) : Int × Int :=
  if (next we l n d).2 = 0 ∧ month (next we l n d).1 = month n then next we l n d else next we l n (-d)
def cntF (we : Int) (l : List Rul) : Nat → Int → Int
 | 0, _ => 0
 | f + 1, i => (if isOpen we l i = true then 1 else 0) + cntF we l f (i + 1)
def Count (we : Int) (l : List Rul) (a z : Int) : Int × Int :=
 if (chk we l).1 = 0 then
  (if isDay a ∧ isDay z then (if z < a then (-(cntF we l (a - z).toNat z), 0) else (cntF we l (z - a).toNat a, 0)) else (0, 51))
 else (0, (chk we l).1)
end Go.Proofs.Ytoncignjcgjhhaa.M
namespace Go.Proofs.Ytoncignjcgjhhaa.R
open Go.RowKit Go.Proofs.YtoncignjcgjhhaaW.PrintWords Go.Proofs.YtoncignjcgjhhaaW.PrintLast Go.Proofs.YtoncignjcgjhhaaW.PrintMore
open Go.Proofs.Ytoncignjcgjhhaa.Q
open Go.Proofs.Ytoncignjcgjhhaa.L (w64 td tm tm0)
theorem Leap (y : Int) : xbV.f y = some (M.leap y) := by
 unfold xbV.f M.leap
 have e : ((Int.tmod y 400 == 0) : Bool) = decide (y % 400 = 0) := by
  rw [Bool.eq_iff_iff, beq_iff_eq, decide_eq_true_eq, tm0]
 rw [e]
 simp only [tm0]
 by_cases h4 : y % 4 = 0
 ·
  rw [if_pos h4]
  by_cases h100 : y % 100 = 0
  ·
   rw [if_pos h100]; congr 1; rw [decide_eq_decide]; omega
  ·
   rw [if_neg h100]; congr 1; symm; rw [decide_eq_true_eq]; omega
 ·
  rw [if_neg h4]; congr 1; rw [decide_eq_decide]; omega
theorem length_k (k : Nat) (y m : Int) : xbN.f (k + 1) y m = some (M.mlen y m) := by
 unfold xbN.f M.mlen
 simp only [xbN.j0]
 by_cases h4 : m = 4
 ·
  subst h4; simp
 rw [if_neg h4]
 by_cases h6 : m = 6
 ·
  subst h6; simp
 rw [if_neg h6]
 by_cases h9 : m = 9
 ·
  subst h9; simp
 rw [if_neg h9]
 by_cases h11 : m = 11
 ·
  subst h11; simp
 have e11 : (m == 11) = false := by simpa using h11
 rw [e11]
 simp only [Bool.false_eq_true, if_false]
 by_cases h2 : m = 2
 ·
  rw [if_pos h2, if_pos h2, Leap]; cases M.leap y <;> rfl
 ·
  rw [if_neg h2, if_neg h2, if_neg h4, if_neg h6, if_neg h9, if_neg h11]
theorem length_0 (y m : Int) : xbN.f 0 y m = none := by
 unfold xbN.f
 repeat' split
 all_goals rfl
theorem length (y m : Int) : Ev (fun k => xbN.f k y m) (M.mlen y m) := Ev.step (fun k => length_k k y m) (Ev.now _)
theorem Length (y m : Int) : Ev (fun k => xcV.f k y m) (if 1900 ≤ y ∧ y ≤ 2199 ∧ 1 ≤ m ∧ m ≤ 12 then (M.mlen y m, 0) else (0, 50)) := by
 by_cases h : 1900 ≤ y ∧ y ≤ 2199 ∧ 1 ≤ m ∧ m ≤ 12
 ·
  rw [if_pos h]
  refine Ev.congr (fun k => ?_) (Ev.bind (f := fun _ t => some (t, (0 : Int))) (length y m) (Ev.now _))
  unfold xcV.f
  rw [if_neg (by omega), if_neg (by omega), if_neg (by omega), if_neg (by omega)]
 ·
  rw [if_neg h]
  refine Ev.congr (fun k => ?_) (Ev.now _)
  unfold xcV.f
  by_cases h1 : y < 1900
  ·
   rw [if_pos h1]
  rw [if_neg h1]
  by_cases h2 : y > 2199
  ·
   rw [if_pos h2]
  rw [if_neg h2]
  by_cases h3 : m < 1
  ·
   rw [if_pos h3]
  rw [if_neg h3, if_pos (by omega)]
theorem Of_l1 (y m n : Int) (hn : -1000000 ≤ n) (hn1 : n ≤ 2000000) (hm : 1 ≤ m) (hm1 : m ≤ 12) : ∀ (f : Nat) (i : Int), 1 ≤ i → i ≤ m → m - i = f →
  Ev (fun k => xbG.l1 k y m (n + M.cum y i) i) (n + M.cum y m, 0)
 | 0, i, a, b, c => by
  have e : i = m := by omega
  refine Ev.step (f := fun _ => some (n + M.cum y m, (0 : Int))) (fun k => ?_) (Ev.now _)
  simp only [xbG.l1]
  rw [if_neg (by omega), e]
 | f + 1, i, a, b, c => by
  have ih := Of_l1 y m n hn hn1 hm hm1 f (i + 1) (by omega) (by omega) (by omega)
  have r := M.xgT y i;have l := M.xeH y i
  have s := M.xfZ y i a (by omega)
  refine Ev.step (fun k => ?_) (Ev.bind (f := fun k t => xbG.l1 k y m (wrap64 (n + M.cum y i + t)) (wrap64 (i + 1))) (length y i) ?_)
  ·
   simp only [xbG.l1]; rw [if_pos (by omega)]
  ·
   rw [w64 (by omega) (by omega), w64 (by omega) (by omega), show n + M.cum y i + M.mlen y i = n + M.cum y (i + 1) from by omega]
   exact ih
theorem Of_l0 (y m d : Int) (h0 : 1900 ≤ y) (h1 : y ≤ 2199) (hm : 1 ≤ m) (hm1 : m ≤ 12) (hd : 1 ≤ d) (hd1 : d ≤ 31) : ∀ (f : Nat) (i : Int), 1900 ≤ i → i ≤ y → y - i = f →
  Ev (fun k => xbG.l0 k y m (d - 1 + M.before i) i) (M.dayOf y m d, 0)
 | 0, i, a, b, c => by
  have e : i = y := by omega
  have hb := L.xeG y (by omega) (by omega)
  have h := Of_l1 y m (d - 1 + M.before y) (by omega) (by omega) hm hm1 (m - 1).toNat 1 (by omega) hm (by omega)
  rw [M.cum_1, Int.add_zero, show d - 1 + M.before y + M.cum y m = M.dayOf y m d from by unfold M.dayOf; omega] at h
  refine Ev.step (fun k => ?_) h
  simp only [xbG.l0]
  rw [if_neg (by omega), e]
 | f + 1, i, a, b, c => by
  have ih := Of_l0 y m d h0 h1 hm hm1 hd hd1 f (i + 1) (by omega) (by omega) (by omega)
  have hb := L.xeG i (by omega) (by omega)
  have hs := M.xdQ i
  refine Ev.step (fun k => ?_) ih
  simp only [xbG.l0]
  rw [if_pos (by omega), Leap]
  simp only [Option.bind_some]
  unfold M.lp at hs
  by_cases hl : M.leap i = true
  ·
   rw [if_pos hl] at hs ⊢
   rw [w64 (x := d - 1 + M.before i + 365) (by omega) (by omega), w64 (by omega) (by omega), w64 (by omega) (by omega), show d - 1 + M.before i + 365 + 1 = d - 1 + M.before (i + 1) from by omega]
  ·
   rw [if_neg hl] at hs ⊢
   rw [w64 (x := d - 1 + M.before i + 365) (by omega) (by omega), w64 (by omega) (by omega), show d - 1 + M.before i + 365 = d - 1 + M.before (i + 1) from by omega]
theorem Of (y m d : Int) : Ev (fun k => xbG.f k y m d) (if M.isDate y m d then (M.dayOf y m d, 0) else (0, 50)) := by
 have hl := M.xeH y m
 by_cases hy : 1900 ≤ y ∧ y ≤ 2199 ∧ 1 ≤ m ∧ m ≤ 12
 ·
  have hL := Length y m
  rw [if_pos hy] at hL
  refine Ev.congr (fun k => rfl) (Ev.bind hL ?_)
  simp only [if_true]
  by_cases h1 : d < 1
  ·
   refine Ev.congr (fun k => if_pos h1) ?_
   rw [if_neg (show ¬ M.isDate y m d from fun e => by have := e.2.2.2.2.1; omega)]
   exact Ev.step (f := fun _ => some ((0 : Int), (50 : Int))) (fun k => by simp only [xbG.j0, if_true]) (Ev.now _)
  ·
   refine Ev.congr (fun k => if_neg h1) ?_
   by_cases h2 : d ≤ M.mlen y m
   ·
    rw [if_pos (show M.isDate y m d from ⟨hy.1, hy.2.1, hy.2.2.1, hy.2.2.2, by omega, h2⟩)]
    have h := Of_l0 y m d hy.1 hy.2.1 hy.2.2.1 hy.2.2.2 (by omega) (by omega) (y - 1900).toNat 1900 (by omega) hy.1 (by omega)
    rw [M.xfX, Int.add_zero] at h
    refine Ev.step (fun k => ?_) h
    rw [show decide (d > M.mlen y m) = false from decide_eq_false (by omega)]
    simp only [xbG.j0, Bool.false_eq_true, if_false]
    rw [w64 (by omega) (by omega)]
   ·
    rw [if_neg (show ¬ M.isDate y m d from fun e => h2 e.2.2.2.2.2)]
    rw [show decide (d > M.mlen y m) = true from decide_eq_true (by omega)]
    exact Ev.step (f := fun _ => some ((0 : Int), (50 : Int))) (fun k => by simp only [xbG.j0, if_true]) (Ev.now _)
 ·
  rw [if_neg (show ¬ M.isDate y m d from fun e => hy ⟨e.1, e.2.1, e.2.2.1, e.2.2.2.1⟩)]
  have hL := Length y m
  rw [if_neg hy] at hL
  refine Ev.congr (fun k => rfl) (Ev.bind hL ?_)
  simp only [show ¬ ((50 : Int) = 0) from by decide, if_false]
  exact Ev.step (f := fun _ => some ((0 : Int), (50 : Int))) (fun k => by simp only [xbG.j0, if_true]) (Ev.now _)
theorem Civil_l1 (y d : Int) (h0 : 0 ≤ d) (h1 : d < 365 + M.lp y) : ∀ (f : Nat) (m : Int), 1 ≤ m → m ≤ M.monOf y d → M.monOf y d - m = f →
  Ev (fun k => xaT.l1 k (d - M.cum y m) y m) (y, M.monOf y d, d - M.cum y (M.monOf y d) + 1, 0)
 | 0, m, a, b, c => by
  obtain ⟨p, q, r, s⟩ := M.xfH y d h0 h1
  have e : m = M.monOf y d := by omega
  have hc := M.xfZ y (M.monOf y d) p q
  have hg := M.xgT y (M.monOf y d)
  have hl := M.lp_01 y
  rw [e]
  refine Ev.step (fun k => ?_) (Ev.bind (f := fun _ _ => some (y, M.monOf y d, d - M.cum y (M.monOf y d) + 1, (0 : Int))) (length y (M.monOf y d)) (Ev.now _))
  simp only [xaT.l1]
  cases k with
  | zero => rw [length_0]; rfl
  | succ k =>
   rw [length_k]; simp only [Option.bind_some]
   rw [if_neg (by omega), w64 (by omega) (by omega)]
 | f + 1, m, a, b, c => by
  obtain ⟨p, q, r, s⟩ := M.xfH y d h0 h1
  have ih := Civil_l1 y d h0 h1 f (m + 1) (by omega) (by omega) (by omega)
  have hc := M.xfZ y m a (by omega)
  have hg := M.xgT y m
  have hle := M.cum_le y (show 1 ≤ m + 1 by omega) (show m + 1 ≤ M.monOf y d by omega) (by omega)
  have hl := M.lp_01 y;have hml := M.xeH y m
  refine Ev.step (fun k => ?_) (Ev.bind (f := fun k _ => xaT.l1 k (d - M.cum y (m + 1)) y (m + 1)) (length y m) ih)
  simp only [xaT.l1]
  cases k with
  | zero => rw [length_0]; rfl
  | succ k =>
   rw [length_k]; simp only [Option.bind_some]
   rw [if_pos (by omega), w64 (by omega) (by omega), w64 (by omega) (by omega), show d - M.cum y m - M.mlen y m = d - M.cum y (m + 1) from by omega]
theorem Civil_l0 (n : Int) (h0 : 0 ≤ n) (h1 : n ≤ 109572) : ∀ (f : Nat) (y : Int), 1900 ≤ y → y ≤ M.yearOf n → M.yearOf n - y = f →
  Ev (fun k => xaT.l0 k (n - M.before y) y) (M.civY n, M.civM n, M.civD n, 0)
 | 0, y, a, b, c => by
  obtain ⟨p, q, r, s⟩ := M.xdN n h0 h1
  have e : y = M.yearOf n := by omega
  have hs := M.xdQ (M.yearOf n)
  have hb := L.xeG (M.yearOf n) (by omega) (by omega)
  obtain ⟨p2, q2, r2, s2⟩ := M.xfH (M.yearOf n) (n - M.before (M.yearOf n)) (by omega) (by omega)
  have h := Civil_l1 (M.yearOf n) (n - M.before (M.yearOf n)) (by omega) (by omega) (M.monOf (M.yearOf n) (n - M.before (M.yearOf n)) - 1).toNat 1 (by omega) p2 (by omega)
  rw [M.cum_1, Int.sub_zero] at h
  have h2 : Ev (fun k => xaT.j2 k (n - M.before (M.yearOf n)) (M.yearOf n)) (M.civY n, M.civM n, M.civD n, 0) := Ev.step (fun k => rfl) h
  refine Ev.step (fun k => ?_) h2
  rw [e]
  simp only [xaT.l0]
  rw [Leap]
  simp only [Option.bind_some]
  unfold M.lp at hs
  by_cases hl : M.leap (M.yearOf n) = true
  ·
   rw [if_pos hl] at hs ⊢; rw [if_pos (by omega)]
  ·
   rw [if_neg hl] at hs ⊢; rw [if_pos (by omega)]
 | f + 1, y, a, b, c => by
  obtain ⟨p, q, r, s⟩ := M.xdN n h0 h1
  have ih := Civil_l0 n h0 h1 f (y + 1) (by omega) (by omega) (by omega)
  have hle := M.xeD (show y + 1 ≤ M.yearOf n by omega)
  have hs := M.xdQ y
  have hb := L.xeG y (by omega) (by omega)
  refine Ev.step (fun k => ?_) ih
  simp only [xaT.l0]
  rw [Leap]
  simp only [Option.bind_some]
  unfold M.lp at hs
  by_cases hl : M.leap y = true
  ·
   rw [if_pos hl] at hs ⊢
   rw [if_neg (by omega), w64 (by omega) (by omega), w64 (by omega) (by omega), show n - M.before y - 366 = n - M.before (y + 1) from by omega]
  ·
   rw [if_neg hl] at hs ⊢
   rw [if_neg (by omega), w64 (by omega) (by omega), w64 (by omega) (by omega), show n - M.before y - 365 = n - M.before (y + 1) from by omega]
theorem Civil (n : Int) : Ev (fun k => xaT.f k n) (if 0 ≤ n ∧ n ≤ 109572 then (M.civY n, M.civM n, M.civD n, 0) else (0, 0, 0, 51)) := by
 by_cases h : 0 ≤ n ∧ n ≤ 109572
 ·
  rw [if_pos h]
  obtain ⟨p, q, r, s⟩ := M.xdN n h.1 h.2
  have h2 := Civil_l0 n h.1 h.2 (M.yearOf n - 1900).toNat 1900 (by omega) p (by omega)
  rw [M.xfX, Int.sub_zero] at h2
  refine Ev.congr (fun k => ?_) (Ev.step (g := fun k => xaT.j0 k n false) (fun k => by simp only [xaT.j0, Bool.false_eq_true, if_false]) h2)
  unfold xaT.f
  rw [if_neg (by omega), show decide (n > 109572) = false from decide_eq_false (by omega)]
 ·
  rw [if_neg h]
  refine Ev.congr (fun k => ?_) (Ev.step (g := fun k => xaT.j0 k n true) (f := fun _ => some ((0 : Int), (0 : Int), (0 : Int), (51 : Int))) (fun k => by simp only [xaT.j0, if_true]) (Ev.now _))
  unfold xaT.f
  by_cases h0 : n < 0
  ·
   rw [if_pos h0]
  ·
   rw [if_neg h0, show decide (n > 109572) = true from decide_eq_true (by omega)]
end Go.Proofs.Ytoncignjcgjhhaa.R
namespace Go.Proofs.Ytoncignjcgjhhaa.R
open Go.RowKit Go.Proofs.YtoncignjcgjhhaaW.PrintWords Go.Proofs.YtoncignjcgjhhaaW.PrintLast Go.Proofs.YtoncignjcgjhhaaW.PrintMore
open Go.Proofs.Ytoncignjcgjhhaa.Q
open Go.Proofs.Ytoncignjcgjhhaa.L (w64 td tm tm0)
theorem in_ (a b c : Int) : xdG.f a b c = some (decide (b ≤ a ∧ a ≤ c)) := by
  have := L.within a b c; unfold xbL.f at this; unfold xdG.f; exact this
theorem rd_eq (l : List S63) (i : Nat) (h : i < l.length) : rd_T63 l (i : Int) = l[i] := by simp [rd_T63, h]
theorem Check_l0 (we : Int) (l : List S63) (hlen : l.length ≤ 64) : ∀ (f i : Nat), i ≤ l.length → l.length - i = f → Ev (fun k => xbP.l0 k (i : Int) we l) (M.chkAt ((l.drop i).map H.ru) i)
 | 0, i, a, b => by
  have e : i = l.length := by omega
  have c1 : ¬ (i : Int) < (l.length : Int) := by omega
  refine Ev.step (f := fun _ => some (M.chkAt ((l.drop i).map H.ru) i)) (fun k => ?_) (Ev.now _)
  rw [xbP.l0, if_neg c1, e, List.drop_length]; rfl
 | f + 1, i, a, b => by
  have hlt : i < l.length := by omega
  have ih := Check_l0 we l hlen f (i + 1) (by omega) (by omega)
  have c1 : (i : Int) < (l.length : Int) := by omega
  have c2 : (0 : Int) ≤ (i : Int) := by omega
  have hw : wrap64 ((i : Int) + 1) = ((i + 1 : Nat) : Int) := by rw [w64 (by omega) (by omega)]; push_cast; rfl
  have hl0 : ∀ k, xbP.l0 (k + 1) (i : Int) we l = if M.may (H.ru l[i]) = true then xbP.l0 k ((i + 1 : Nat) : Int) we l else some (60, (i : Int)) := by
   intro k
   rw [xbP.l0, if_pos c1, if_pos c2, rd_eq l i hlt, hw]
   rfl
  rw [List.drop_eq_getElem_cons hlt, List.map_cons]
  unfold M.chkAt
  by_cases hm : M.may (H.ru l[i]) = true
  ·
   rw [if_pos hm]
   push_cast at ih
   exact Ev.step (fun k => by rw [hl0 k, if_pos hm]; push_cast; rfl) ih
  ·
   rw [if_neg hm]
   exact Ev.step (f := fun _ => some ((60 : Int), (i : Int))) (fun k => by rw [hl0 k, if_neg hm]) (Ev.now _)
theorem Check (we : Int) (l : List S63) : Ev (fun k => xbP.f k we l) (M.chk we (l.map H.ru)) := by
 unfold M.chk
 by_cases h : 64 < l.length
 ·
  have c1 : (l.length : Int) > 64 := by omega
  rw [if_pos (by simpa using h)]
  exact Ev.congr (fun k => by unfold xbP.f; rw [if_pos c1]) (Ev.now _)
 ·
  have c1 : ¬ (l.length : Int) > 64 := by omega
  rw [if_neg (by simpa using h)]
  by_cases hw : 0 ≤ we ∧ we ≤ 126
  ·
   rw [if_pos hw]
   have h0 := Check_l0 we l (by omega) l.length 0 (by omega) (by omega)
   refine Ev.congr (fun k => ?_) h0
   unfold xbP.f
   rw [if_neg c1, in_, decide_eq_true hw]; rfl
  ·
   rw [if_neg hw]
   refine Ev.congr (fun k => ?_) (Ev.now _)
   unfold xbP.f
   rw [if_neg c1, in_, decide_eq_false hw]; rfl
theorem mays {we : Int} {l : List S63} (h : (M.chk we (l.map H.ru)).1 = 0) : 0 ≤ we ∧ we ≤ 126 ∧ l.length ≤ 64 ∧ ∀ r ∈ l, M.may (H.ru r) = true :=
 have h := M.chk_ok h
 ⟨h.2.2.1, h.2.2.2.1, by simpa using h.2.1, fun x hx => h.2.2.2.2 _ (List.mem_map_of_mem hx)⟩
end Go.Proofs.Ytoncignjcgjhhaa.R
namespace Go.Proofs.Ytoncignjcgjhhaa.Q
open Go.RowKit Go.Proofs.YtoncignjcgjhhaaW.PrintWords Go.Proofs.YtoncignjcgjhhaaW.PrintLast Go.Proofs.YtoncignjcgjhhaaW.PrintMore
attribute [local go_sem] xcC xcB xcR xcQ xbX xbW xcF xcE   -- for this text's walks alone
def xcK.l0 : Nat → Int → Int → Int → Int → Int → Option (Int)
  | 0, _, _, _, _, _ => none
  | k + 1, x2, x3, x9, x11, x13 => if (Int.tmod x13 7) = x2 then (if x3 = 5 then (if (wrap64 (x13 + (wrap64 (7 * (wrap64 (x3 - 1)))))) ≥ (wrap64 (x9 + x11)) then (some (wrap64 ((wrap64 (x13 + (wrap64 (7 * (wrap64 (x3 - 1)))))) - 7))) else (some (wrap64 (x13 + (wrap64 (7 * (wrap64 (x3 - 1)))))))) else (some (wrap64 (x13 + (wrap64 (7 * (wrap64 (x3 - 1)))))))) else (xcK.l0 k x2 x3 x9 x11 (wrap64 (x13 + 1)))
def xcK.f (k : Nat) (a0 : Int) (a1 : Int) (a2 : Int) (a3 : Int) : Option (Int) := (xbG.f k a0 a1 1).bind fun bt199 => ((xcV.f k a0 a1).bind fun bt201 => (xcK.l0 k a2 a3 bt199.1 bt201.1 bt199.1))
set_option maxHeartbeats 8000000 in
set_option maxRecDepth 100000 in
theorem xcK.calls (k : Nat) (a0 : Int) (a1 : Int) (a2 : Int) (a3 : Int) (r : Int) (w : World) (h : xcK.f k a0 a1 a2 a3 = some r) :
  Calls Try.prog 133 #[.int .i64 a0, .int .i64 a1, .int .i64 a2, .int .i64 a3] w fun e w' => e = .returned (.int .i64 r) ∧ Drawn0 w w' := by
 have H : ((xbG.f k a0 a1 1).bind fun bt199 => ((xcV.f k a0 a1).bind fun bt201 => (xcK.l0 k a2 a3 bt199.1 bt201.1 bt199.1))) = some r := h
 clear h;replace H := Option.bind_eq_some_iff.mp H
 obtain ⟨⟨t199, t200⟩, A50, H⟩ := H
 replace H : ((xcV.f k a0 a1).bind fun bt201 => (xcK.l0 k a2 a3 t199 bt201.1 t199)) = some r := H
 have A5 := Aside0.mk A50;clear A50;replace H := Option.bind_eq_some_iff.mp H
 obtain ⟨⟨t201, t202⟩, A60, H⟩ := H
 replace H : (xcK.l0 k a2 a3 t199 t201 t199) = some r := H
 have A6 := Aside0.mk A60;clear A60;have H' := Aside0.mk H;clear H
 go_enter Try.func133, Try.ntmps133
 go_wp2_with (first | ((with_reducible refine xaQ (f := 97) rfl ?_); refine goesL_ (some 17) rfl rfl Try.func97 (by kernel_rfl) rfl #[.int .i64 a0, .int .i64 a1, .int .i64 1] rfl (by (try simp only [List.map_toArray, List.map_cons, List.map_nil]); first | done | rfl | (simp only [List.length_drop, List.length_take]; rfl)) ?_; (with_reducible refine (xbG.calls k a0 a1 1 t199 t200 _ A5.out).mono ?_); rintro e w' ⟨rfl, ⟨nd, rfl⟩⟩; refine ⟨_, rfl, ?_⟩) | ((with_reducible refine xaQ (f := 117) rfl ?_); refine goesL_ (some 23) rfl rfl Try.func117 (by kernel_rfl) rfl #[.int .i64 a0, .int .i64 a1] rfl (by (try simp only [List.map_toArray, List.map_cons, List.map_nil]); first | done | rfl | (simp only [List.length_drop, List.length_take]; rfl)) ?_; (with_reducible refine (xcV.calls k a0 a1 t201 t202 _ A6.out).mono ?_); rintro e w' ⟨rfl, ⟨nd, rfl⟩⟩; refine ⟨_, rfl, ?_⟩))
 go_loopg [13] k (fun kq v13 w' => ∃ (x13_1 : Int), v13 = .int .i64 x13_1 ∧ Aside0 (xcK.l0 kq a2 a3 t199 t201 x13_1 = some r) ∧ Aside0 (kq ≤ k) ∧ Drawn0 w w')
 case atStart => exact ⟨(t199), (by first | rfl | (simp; done) | (simp [*]; done)), H', ⟨Nat.le_refl _⟩, by repeat (first | exact Drawn0.refl _ | apply Drawn0.step)⟩
 case round =>
  clear H'
  obtain ⟨x13_1, rfl, HA, HK1, ⟨m1, rfl⟩⟩ := hrel
  cases gk with
  | zero => exact absurd HA.out (by simp [xcK.l0])
  | succ k1 =>
   have H := HA.out;clear HA
   simp only [xcK.l0] at H
   by_cases c7 : (Int.tmod x13_1 7) = a2
   ·
    rw [if_pos c7] at H
    have c7b0 : ((Int.tmod x13_1 7) == a2) = true := beq_iff_eq.mpr c7
    have c7b1 : ((Int.tmod x13_1 7) != a2) = false := bne_eq_false_iff_eq.mpr c7
    clear c7
    by_cases c8 : a3 = 5
    ·
     rw [if_pos c8] at H
     have c8b0 : (a3 == 5) = true := beq_iff_eq.mpr c8
     have c8b1 : (a3 != 5) = false := bne_eq_false_iff_eq.mpr c8
     clear c8
     by_cases c9 : (wrap64 (x13_1 + (wrap64 (7 * (wrap64 (a3 - 1)))))) ≥ (wrap64 (t199 + t201))
     ·
      rw [if_pos c9] at H
      have c9b0 : decide ((wrap64 (t199 + t201)) ≤ (wrap64 (x13_1 + (wrap64 (7 * (wrap64 (a3 - 1))))))) = true := decide_eq_true c9
      clear c9
      obtain rfl := Option.some.inj H
      go_wp2
      go_ret
      exact ⟨by first | rfl | (simp; done) | (simp [*]; done), by repeat (first | exact Drawn0.refl _ | apply Drawn0.step)⟩
     ·
      rw [if_neg c9] at H
      have c9b0 : decide ((wrap64 (t199 + t201)) ≤ (wrap64 (x13_1 + (wrap64 (7 * (wrap64 (a3 - 1))))))) = false := decide_eq_false c9
      clear c9
      obtain rfl := Option.some.inj H
      go_wp2
      go_ret
      exact ⟨by first | rfl | (simp; done) | (simp [*]; done), by repeat (first | exact Drawn0.refl _ | apply Drawn0.step)⟩
    ·
     rw [if_neg c8] at H
     have c8b0 : (a3 == 5) = false := beq_eq_false_iff_ne.mpr c8
     have c8b1 : (a3 != 5) = true := bne_iff_ne.mpr c8
     obtain rfl := Option.some.inj H
     go_wp2
     go_ret
     exact ⟨by first | rfl | (simp; done) | (simp [*]; done), by repeat (first | exact Drawn0.refl _ | apply Drawn0.step)⟩
   ·
    rw [if_neg c7] at H
    have c7b0 : ((Int.tmod x13_1 7) == a2) = false := beq_eq_false_iff_ne.mpr c7
    have c7b1 : ((Int.tmod x13_1 7) != a2) = true := bne_iff_ne.mpr c7
    have H' := Aside0.mk H;clear H
    go_wp2
    go_roundg k1
    case measure => have := HK1.out; omega
    case rel => exact ⟨(wrap64 (x13_1 + 1)), (by first | rfl | (simp; done) | (simp [*]; done)), H', ⟨by have := HK1.out; omega⟩, by repeat (first | exact Drawn0.refl _ | apply Drawn0.step)⟩
end Go.Proofs.Ytoncignjcgjhhaa.Q
namespace Go.Proofs.Ytoncignjcgjhhaa.H
open Go.RowKit Go.Maps Go.Proofs.YtoncignjcgjhhaaW.PrintWords Go.Proofs.YtoncignjcgjhhaaW.PrintLast Go.Proofs.YtoncignjcgjhhaaW.PrintMore
theorem easter_of (y m d : Int) (h0 : 1900 ≤ y) (h1 : y ≤ 2199) (em : m = M.eT y / 31) (ed : d = M.eT y % 31 + 1) (w : World) :
  Calls Try.prog 97 #[.int .i64 y, .int .i64 m, .int .i64 d] w fun e w' => e = .returned (.tuple #[.int .i64 (M.xdH y), .int .i64 0]) ∧ Drawn0 w w' := by
 obtain ⟨hd, _⟩ := M.xfT y h0 h1
 subst em ed
 have h := R.Of y (M.eT y / 31) (M.eT y % 31 + 1)
 rw [if_pos hd] at h
 obtain ⟨k, hk⟩ := h.rounds
 exact Q.xbG.calls k y _ _ _ _ w hk
set_option maxHeartbeats 1000000 in
set_option maxRecDepth 100000 in
theorem easter5_yes (y : Int) (h0 : 1900 ≤ y) (h1 : y ≤ 2199) (w : World) :
  Calls Try.prog 134 #[.int .i64 y] w fun e w' => e = .returned (.tuple #[.int .i64 (M.xdH y), .int .i64 0]) ∧ Drawn0 w w' := by
 have g0 : ¬ y < 1900 := by omega
 have g1 : ¬ 2199 < y := by omega
 go_enter Try.func134, Try.ntmps134
 go_wp2_with fail
 refine (easter_of y _ _ h0 h1 ?_ ?_ _).mono ?_
 ·
  simp only [M.eT, m4]
 ·
  simp only [M.eT, m4]
 rintro e w' ⟨rfl, ⟨n2, rfl⟩⟩
 go_wp2_with fail
 go_ret2
 exact ⟨rfl, by repeat (first | exact Drawn0.refl _ | apply Drawn0.step)⟩
theorem easter5_no (y : Int) (h : ¬ (1900 ≤ y ∧ y ≤ 2199)) (w : World) :
  Calls Try.prog 134 #[.int .i64 y] w fun e w' => e = .returned (.tuple #[.int .i64 0, .int .i64 50]) ∧ Drawn0 w w' := by
 by_cases h1 : y < 1900
 ·
  clear h
  go_enter Try.func134, Try.ntmps134
  go_wp2_with fail
  go_ret2
  exact ⟨rfl, by repeat (first | exact Drawn0.refl _ | apply Drawn0.step)⟩
 ·
  have h2 : 2199 < y := by omega
  clear h
  go_enter Try.func134, Try.ntmps134
  go_wp2_with fail
  go_ret2
  exact ⟨rfl, by repeat (first | exact Drawn0.refl _ | apply Drawn0.step)⟩
theorem easter5_calls (y : Int) (w : World) : Calls Try.prog 134 #[.int .i64 y] w fun e w' => e = .returned (.tuple #[.int .i64 (xgA y).1, .int .i64 (xgA y).2]) ∧ Drawn0 w w' := by
 unfold xgA
 by_cases h : 1900 ≤ y ∧ y ≤ 2199
 ·
  rw [if_pos h]; exact easter5_yes y h.1 h.2 w
 ·
  rw [if_neg h]; exact easter5_no y h w
end Go.Proofs.Ytoncignjcgjhhaa.H
namespace Go.Proofs.Ytoncignjcgjhhaa.Q
open Go.RowKit Go.Proofs.YtoncignjcgjhhaaW.PrintWords Go.Proofs.YtoncignjcgjhhaaW.PrintLast Go.Proofs.YtoncignjcgjhhaaW.PrintMore
attribute [local go_sem] xcC xcB xcR xcQ xbX xbW xcF xcE   -- for this text's walks alone
def xdV.f (a0 : Int) : Option (Int × Int) := some (Go.Proofs.Ytoncignjcgjhhaa.H.xgA a0)
theorem xdV.calls (a0 : Int) (r1 : Int) (r2 : Int) (w : World) (h : xdV.f a0 = some (r1, r2)) :
  Calls Try.prog 134 #[.int .i64 a0] w fun e w' => e = .returned (.tuple #[.int .i64 r1, .int .i64 r2]) ∧ Drawn0 w w' := by
 have e := Option.some.inj h;have c := Go.Proofs.Ytoncignjcgjhhaa.H.easter5_calls a0 w
 rw [e] at c
 exact c
end Go.Proofs.Ytoncignjcgjhhaa.Q
